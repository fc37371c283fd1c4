/- Part Lh. -/
import Derived.Test.YtlhommikjhhmbaaGreatDoorLg
set_option linter.unusedVariables false
set_option linter.unusedSimpArgs false
set_option linter.unusedSectionVars false
namespace Go.Px
open List renaming length->w,getElem_of_mem->B,getElem_append_right->C,getElem_append_left->D,drop->E
open _root_.Option renaming some->q
variable{j k m:Nat}{ks:List Nd}{n:Nd}
abbrev RFt:=qg
abbrev RSt:=(Sl RSg×Sl RTy×Int×Int)×Sl RFt
structure RVd(j:Nat)(fs:Sl RFt):Prop where
 j:j < fs.xs.length
 v:∀f∈fs.xs,f.V_.xs.length<=60000/\0<=f.P_/\f.P_<=f.V_.xs.length
 f:fs.xs.length<=50000
theorem zmk{fs:Sl RFt}(h:RVd j fs)(n:U0):∃i:Int,q2o ((j:Int),n,fs)=q (i,fs)/\ -1<=i/\i < (fs.xs[j]'h.j).V_.xs.length:=by
 have a:=h.j;have b:=(h.v _ (gc a)).1
 have:=wh (f:=q53) (xs:=fs.xs[j].V_.xs) (p:=λx=>decide (x.N_=n)) (st:=λi=>((j:Int),n,(i:Int),fs)) (yes:=λi =>.inl ((i:Int),fs)) (no :=.inr fs)
  (λi hi=>by
   unfold q53;simp only[jl,ze a,jj];rw[jv jA];simp only[ze hi,jj,zu (Zc:i < 1000000000)]
   grind)
  (by
   unfold q53;simp only[jl,ze a,jj]
   rw[jx jA])
 refine⟨idx (λx=>decide (x.N_=n)) fs.xs[j].V_.xs,?_,yE.1,yE.2.1⟩;unfold q2o q8b;have this:lpO q53 ((j:Int),n,0,fs)=_:=this;simp only[this];unfold idx;cases fs.xs[j].V_.xs.findIdx? _<;>rfl
theorem zev{fs:Sl RFt}(h:RVd j fs)(n:U0):∃p e,q58 ((j:Int),n,fs)=q (p,e,fs):=by
 obtain⟨i,e,h1,h2⟩:=zmk h n;have a:=h.j;unfold q58 qa6;simp only[e,jj,jl];by_cases h0:i < 0
 ·simp only[h0,jq];grind
 obtain⟨k,rfl⟩:∃k:Nat,i=(k:Int):=⟨_,(DF Zc).symm⟩
 simp only[h0,jp,ze a,jj,ze (s:=fs.xs[j].V_) (Zc:k < _)];grind
theorem zew{fs:Sl RFt}(h:RVd j fs)(n:RNd)(p:RP):∃e,q1p ((j:Int),n,p,fs)=q (e,fs):=by
 obtain⟨k,e,f⟩:=zev h n.T_;unfold q1p qa7;simp only[zj,jl];by_cases h1:n.T_=lit []
 ·simp only[h1,jq];by_cases h2:p.M_=1
  ·grind
  grind
 simp only[h1,jp,jj,jm,f];by_cases g:e=0
 rotate_left
 ·grind
 simp (decide:=true) only [g,Dj,jt,jp];by_cases c:p.M_=1
 ·simp only[c,jq];by_cases l:k.M_=1
  ·grind
  grind
 simp only[c,jp,jj,jm];have d:∀(b:Bool),∃e,((if¬n.n_=0 then q (true,fs) else if¬k.t_=p.t_ then q (true,fs) else if¬k.M_=p.M_ then q (!b,fs) else q (false,fs)).bind λa:Bool×Sl RFt=>if a.1=true then q ((40:Int),a.2) else q (0,a.2))=q (e,fs):=by
  intro b;split
  ·grind
  grind
 by_cases i:p.M_=3
 ·grind
 grind
theorem zxA{fs:Sl RFt}(h:RVd j fs)(l:Sl RNd)(p:Sl RP)(g:l.xs.length<=50000):∃e,q3m ((j:Int),l,p,fs)=q (e,fs):=by
 unfold q3m qa8;simp only[jl];by_cases b:Sl.len l=Sl.len p
 rotate_left
 ·simp only[b,Dj,ju,jq];grind
 simp only[b,Dj,jt,jp];simp only[zf] at b
 rcases goE (f:=q7k q1p) (n:=l.xs.length) (A:=Sl RFt) (st:=λi a=>((j:Int),l,p,(i:Int),a)) (fin:=λa =>.inr a) (J:=λi a=>a=fs) (bad:=λr=>∃e,r = .inl (e,fs))
  (λi hi a c=>by
   subst c;unfold q7k;simp only[jl,zj];rw[jv jA,ze hi,jj,ze (s:=p) (Zc:i < _),jj];obtain⟨e,d⟩:=zew h l.xs[i] (p.xs[i]' Zc);rw[d,jj];by_cases h0:e=0
   ·simp only[h0,Dj,jt,jp,zu (Zc:i < 1000000000)];grind
   grind)
  (λa c=>by
   unfold q7k;simp only[jl]
   rw[jx jA])
  (a:=fs) rfl with⟨a,e,rfl⟩ | ⟨r,e,x,rfl⟩
 ·grind
 grind
theorem znP{S:RSt}(h:RVd j S.2)(hs:S.1.1.xs.length<=50000)(n:RNd)(hn:n.K_.xs.length<=50000):∃p e,q2z ((j:Int),n,S)=q (p,e,S):=by
 unfold q2z qa9;simp only[zj]
 rcases goE (f:=q4s q3m) (n:=S.1.1.xs.length) (A:=Unit) (st:=λi _=>((j:Int),(i:Int),S.1,S.2,n,qi.mk (lit []) 0 0)) (fin:=λ_ =>.inr (S.1,S.2,qi.mk (lit []) 0 0)) (J:=λ_ _=>True) (bad:=λr=>∃e p,r = .inl (e,S.1,S.2,p))
  (λi hi a _=>by
   unfold q4s;simp only[jl,zj];rw[jv (by simp only[zf];omega),ze hi,jj];split
   ·rw[jj];obtain⟨e,he⟩:=zxA h n.K_ S.1.1.xs[i].P_ hn;grind
   ·rw[zu (by omega)]
    exact .inl ⟨(),rfl,trivial⟩)
  (λa _=>by
   unfold q4s;simp only[jl]
   rw[jx (by simp only[zf];omega)])
  (a:=()) trivial with⟨a,e,_⟩ | ⟨r,e,x,p,rfl⟩
 ·have e:lpO (q4s q3m) ((j:Int),0,S.1,S.2,n,qi.mk (lit []) 0 0)=_:=e;rw[e];exact⟨_,_,rfl⟩
 ·have e:lpO (q4s q3m) ((j:Int),0,S.1,S.2,n,qi.mk (lit []) 0 0)=_:=e;rw[e];exact⟨_,_,rfl⟩
theorem zuu{fs:Sl RFt}(h:RVd j fs)(l:Sl RNd)(t:l.xs.length<=50000)(d:k < fs.xs.length):∃e,q30 ((j:Int),l,((k:Int),0,fs.xs[k].P_),fs)=q (e,fs):=by
 obtain⟨u,v2,v3⟩:=h.v _ (gc d);have c:=Ys (s:=fs.xs[k].V_) (lo:=0) (hi:=fs.xs[k].P_) Zc v2 v3;rw[show(0:Int).toNat=0 from rfl,Ds] at c;unfold q30 q8c;simp only[jl,ze d,c,jj];by_cases b:Sl.len l=fs.xs[k].P_ - 0
 rotate_left
 ·simp only[b,Dj,ju,jq];grind
 simp only[b,Dj,jt,jp];simp only[zf] at b
 rcases goE (f:=q49 q1p) (n:=l.xs.length) (A:=Sl RFt) (st:=λi a=>((j:Int),l,((k:Int),0,fs.xs[k].P_),(i:Int),a)) (fin:=λa =>.inr a) (J:=λi a=>a=fs) (bad:=λr=>∃e,r = .inl (e,fs))
  (λi hi a o=>by
   subst o;unfold q49;simp only[jl,zj];have g:i < a.xs[k].V_.xs.length:=Zc
   rw[jv jA,ze hi,jj,ze d,jj,c,jj];rw[ze (s:=⟨_,_⟩) jE];simp only[jj,Int.zero_add];rw[ze g,jj];obtain⟨e,p⟩:=zew h l.xs[i] (a.xs[k].V_.xs[i]);rw[p,jj];by_cases h0:e=0
   ·simp only[h0,Dj,jt,jp,zu (Zc:i < 1000000000)];grind
   grind)
  (λa o=>by
   unfold q49;simp only[jl]
   rw[jx jA])
  (a:=fs) rfl with⟨a,e,rfl⟩ | ⟨r,e,x,rfl⟩
 ·have e:lpO (q49 q1p) ((j:Int),l,((k:Int),0,a.xs[k].P_),0,a)=_:=e;grind
 ·have e:lpO (q49 q1p) ((j:Int),l,((k:Int),0,fs.xs[k].P_),0,fs)=_:=e;grind
theorem zxB{S:RSt}(h:RVd j S.2)(hs:S.1.1.xs.length<=50000)(g:ExprG n)(F:n.K_.xs.length<=50000):∃p e,q3n ((j:Int),rN n,S)=q (p,e,S):=by
 have c:∀{α β γ:Type} (f:α->γ) (g:β->γ) (a:α),Sum.elim f g (.inl a)=f a:=λ_ _ _=>rfl
 unfold q3n qaa;simp only[zj,yW];simp only[ZT,zZ];obtain⟨k,e,r⟩:=zev h n.T_;cases g with
 |term b h0=>
  simp only[b,js,jq];by_cases s:n.T_=lit []
  ·simp only[s,js,jq,jj,jo];grind
  simp only[s,jr,jk,jp,r,jj];by_cases h1:e=0
  ·simp only[h1,js,jq];by_cases h2:(rN n).n_=0
   ·simp only[h2,Dj,jt,jr,jk,jp,jj,jo];grind
   ·simp only[h2,Dj,ju,js,jq,jj];by_cases d:k.M_=1
    ·simp only[d,jt,jr,jk,jp,jj,jo];grind
    ·simp only[d,ju,js,jq,jj,jo];grind
  ·simp only[h1,jr,jk,jp,jj,jo];grind
 |leaf b h0=>
  rcases b with b | b | b | b
  ·simp (decide:=true) only [b,jr,js,jq,jp,jk,jj,jm];grind
  ·simp (decide:=true) only [b,jr,js,jq,jp,jk,jj,jm];grind
  all_goals
   simp (decide:=true) only [b,jr,js,jq,jp,jk,jj,zZ,ZT,r];by_cases h1:e=0
   ·simp only[h1,Dj,jt,jr,jk,jp];by_cases h2:k.M_=2
    ·simp only[h2,jt,jr,jk,jp,jj,jo];grind
    ·simp only[h2,ju,js,jq,jj,jo];grind
   ·simp only[h1,Dj,ju,js,jq,jj,jo];grind
 |call b=>
  obtain⟨p,e,z⟩:=znP h hs (rN n) (by rw[zJ];simpa using F);simp (decide:=true) only [b.1,jr,js,jq,jp,jk,jj,z];by_cases h1:e=0
  ·simp only[h1,js,jq,jj];by_cases h2:p.M_=0
   ·grind
   grind
  grind
 |load b _ _=>
  simp (decide:=true) only [b,jr,js,jq,jp,jk,jj,jm];grind
 | @two x y b o _ _=>
  obtain⟨A,u,i⟩:=zev h x.T_;obtain⟨t,G,l⟩:=zev h y.T_;rcases b with b | b<;>
  ·simp (decide:=true) only [b,jr,js,jq,jp,jk,jj,rk0 o,rk1 o,zZ,i];by_cases h1:u=0
   rotate_left
   ·simp only[h1,Dj,ju,js,jq,jj,jo];grind
   simp only[h1,Dj,jt,jr,jk,jp,l,jj];by_cases h2:G=0
   rotate_left
   ·simp only[h2,Dj,ju,js,jq,jj,jo];grind
   simp only[h2,Dj,jt,jr,jk,jp];by_cases d:A.M_=1<;>by_cases v:t.M_=1<;>
   ·simp only[d,v,jt,ju,js,jr,jk,jq,jp,jj,jo];exact⟨_,_,rfl⟩
structure RGr(m:Nat)(a b:RSt):Prop where
 s:b.1.1=a.1.1
 t:b.1.2.1=a.1.2.1
 l:b.2.xs.length=a.2.xs.length
 f:∀i (h:i < a.2.xs.length) (h':i < b.2.xs.length),b.2.xs[i].N_=a.2.xs[i].N_/\b.2.xs[i].P_=a.2.xs[i].P_/\∃ex,b.2.xs[i].V_.xs=a.2.xs[i].V_.xs++ex/\ex.length<=m
theorem RGr.refl{a b:RSt}(h1:b.1.1=a.1.1)(h2:b.1.2.1=a.1.2.1)(c:b.2=a.2):RGr 0 a b:=
 ⟨h1,h2,by rw[c],λi h d=>by simp only[c];exact⟨trivial,trivial,[],je⟩⟩
theorem RGr.trans{a b c:RSt}(h:RGr m a b)(g:RGr k b c):RGr (m+k) a c:=
 ⟨g.s.trans h.s,g.t.trans h.t,g.l.trans h.l,λi h1 h2=>by
  have hb:i < b.2.xs.length:=by rw[h.l];exact h1
  obtain⟨e,p,o,u,x⟩:=h.f i h1 hb;obtain⟨r,v,d,v2,l2⟩:=g.f i hb h2
  grind⟩
theorem RGr.mono{a b:RSt}(h:RGr m a b)(o:m<=k):RGr k a b:=
 ⟨h.s,h.t,h.l,λi h1 h2=>by obtain⟨d,c,e,g,p⟩:=h.f i h1 h2;grind⟩
structure RVc(j k:Nat)(S:RSt):Prop where
 d:RVd j S.2
 r:∀f∈S.2.xs,f.V_.xs.length+k<=60000
 s:S.1.1.xs.length<=50000
theorem RVc.gr{a b:RSt}(h:RVc j (m+k) a)(g:RGr m a b):RVc j k b:=by
 have key:∀f∈b.2.xs,f.V_.xs.length+k<=60000/\0<=f.P_/\f.P_<=f.V_.xs.length:=by
  intro f c;obtain⟨i,hi,rfl⟩:=B c;have e:i < a.2.xs.length:=by rw[<- g.l];exact hi
  obtain⟨t,u,p,o,x⟩:=g.f i e hi;have h1:=h.r _ (gc e);have h2:=h.d.v _ (gc e);have y:=congrArg w o;grind
 exact⟨⟨by rw[g.l];exact h.d.j,λf c=>⟨jE,(key f c).2⟩,by rw[g.l];exact h.d.f⟩,λf c=>(key f c).1,by rw[g.s];exact h.s⟩
theorem RVc.mono{a:RSt}(h:RVc j m a)(c:k<=m):RVc j k a:=⟨h.d,λf b=>by have:=h.r f b;omega,h.s⟩
theorem zzg{S:RSt}(g:StmtG n)(hz:zl n<=40000)(h:RVc j 1 S):∃e S',q1l ((j:Int),rN n,S)=q (e,S')/\RGr 1 S S':=by
 have r0:RGr 1 S S:=(RGr.refl rfl rfl rfl).mono (by omega);have kl:∀{k:Nd},n.K_=⟨[k],true⟩->k.K_.xs.length<=50000:=λe=>zie e hz
 have two:∀(x y:Nd) (l:List Nd),n.K_=⟨x::y::l,true⟩->n.k_=15\/n.k_=16->∃e S',q1l ((j:Int),rN n,S)=q (e,S')/\RGr 1 S S':=by
  intro x y l hk hn;obtain⟨e1,h1⟩:=zew h.d (rN x) ⟨lit [],1,0⟩;obtain⟨e2,h2⟩:=zew h.d (rN y) ⟨lit [],1,0⟩;unfold q1l q31;simp only[zj,yW];simp only[ZT];rcases hn with hn | hn<;>
  ·simp (decide:=true) only [hn,jr,js,jq,jp,jk,jj,rk0 hk,rk1 hk,h1];by_cases h3:e1=0
   ·simp only[h3,Dj,jt,jr,jk,jp,h2,jj,jo];grind
   ·simp only[h3,Dj,ju,js,jq,jj,jo];grind
 cases g with
 |ite=>grind
 |whl=>grind
 | @leaf k t m a c=>
  unfold q1l q31;simp only[zj,yW];simp only[ZT];have hk:∀k:Int,(Sl.len (rN ⟨k,t,m,a,nilS⟩).K_)=0:=by intros;rw[zJ];rfl
  rcases c with rfl | rfl | rfl | rfl | rfl<;>
  ·simp (decide:=true) only [jr,js,jq,jp,jk,jj,hk,jo,jm];exact⟨_,S,rfl,r0⟩
 | @ret t m a x c=>
  unfold q1l q31;simp only[zj,yW];simp only[ZT];have hk:(Sl.len (rN ⟨17,t,m,a,⟨[x],true⟩⟩).K_)=1:=by intros;rw[zJ];rfl
  simp (decide:=true) only [jr,js,jq,jp,jk,jj,hk,jo,jm];grind
 |store c d=>
  unfold q1l q31;simp only[zj,yW];simp only[ZT];simp (decide:=true) only [jr,js,jq,jp,jk,jj,jo,jm];grind
 | @call t m a x c=>
  obtain⟨p,e,hc⟩:=znP h.d h.s (rN x) (by rw[zJ];grind);unfold q1l q31;simp only[zj,yW];simp only[ZT];simp (decide:=true) only [jr,js,jq,jp,jk,jj,rk0 (n:=⟨20,t,m,a,⟨[x],true⟩⟩) rfl,hc,jo,jm];grind
 | @fork t m a ks c=>
  have hkl:=@Zl ⟨19,t,m,a,ks⟩;simp only at hkl;have hrk:(rN ⟨19,t,m,a,ks⟩).K_.xs.length<=50000:=by rw[zJ];simp;omega
  unfold q1l q31;simp only[zj,yW];simp only[ZT];simp (decide:=true) only [jr,js,jq,jp,jk,jj];generalize rN ⟨19,t,m,a,ks⟩=R at *
  have hf:=h.d.f
  rcases goE (f:=q59 q3n q2o q2z q30 q1p) (n:=S.2.xs.length) (A:=Unit) (st:=λi _=>((j:Int),(i:Int),S.1,S.2,R)) (fin:=λ_ =>.inr (S.1,S.2)) (J:=λ_ _=>True) (bad:=λr=>∃e,r = .inl (e,S.1,S.2))
   (λi hi u _=>by
    unfold q59;simp only[jl,zj];obtain⟨v1,v2,v3⟩:=h.d.v _ (gc hi);rw[jv (by simp only[zf];omega)];simp only[ze hi,jj];split
    ·obtain⟨e,he⟩:=zuu h.d R.K_ hrk hi;rw[Ys (s:=S.2.xs[i].V_) (by omega) v2 v3,jj,he,jj];grind
    ·rw[zu (by omega)]
     exact .inl ⟨(),rfl,trivial⟩)
   (λu _=>by
    unfold q59;simp only[jl]
    rw[jx (by simp only[zf];omega)])
   (a:=()) trivial with⟨u,e,_⟩ | ⟨r,e,x,rfl⟩
  ·have e:lpO (q59 q3n q2o q2z q30 q1p) ((j:Int),0,S.1,S.2,R)=_:=e;rw[e];exact⟨_,S,rfl,r0⟩
  ·have e:lpO (q59 q3n q2o q2z q30 q1p) ((j:Int),0,S.1,S.2,R)=_:=e;grind
 | @set t m a x c=>
  obtain⟨p,e,hc⟩:=zxB h.d h.s c (kl rfl);obtain⟨i,hfi,hi1,hi2⟩:=zmk h.d t;have hj:=h.d.j;have hb:=h.r _ (gc hj);unfold q1l q31;simp only[zj,yW];simp only[ZT,zZ];simp (decide:=true) only [jr,js,jq,jp,jk,jj,rk0 (n:=⟨10,t,m,a,⟨[x],true⟩⟩) rfl,hc];by_cases h0:e=0
  rotate_left
  ·grind
  simp only[h0,Dj,jt,jr,jk,jp,hfi,jj,ze hj];by_cases h1:i < 0
  ·simp only[h1,js,jq,Dy];rw[Zu (by omega) (by omega)];refine⟨_,_,rfl,rfl,rfl,by simp[Sl.set],λk h1 h2=>?_⟩;simp only[Sl.set,Int.toNat_natCast,List.getElem_set];by_cases hij:j=k
   ·grind
   ·simp only[hij,jp];exact⟨trivial,trivial,[],by simp⟩
  ·obtain⟨k,rfl⟩:∃k:Nat,i=(k:Int):=⟨_,(DF (by omega)).symm⟩
   simp only[h1,jr,jk,jp,ze (s:=S.2.xs[j].V_) (show k < _ by omega),jj];grind
theorem znQ(a e:Int)(S:RSt):∃S',q1b (a,e,S)=q S'/\S'.1.1=S.1.1/\S'.1.2.1=S.1.2.1/\S'.2=S.2/\(e≠0->S'.1.2.2.2≠0):=by
 unfold q1b qab;simp only[jl];by_cases h:S.1.2.2.2=0
 ·grind
 grind
noncomputable abbrev LR(F:Nat):=q3r q1l q1b (q32 F)
def zzh(m:Nat)(S:RSt)(r:RSt⊕RSt):Prop:=∃S',(r = .inl S'\/r = .inr S')/\RGr m S S'
def StR(s:Nd):Prop:=∀F (j:Nat) (S:RSt) (l:Sl RNd) (i:Nat) (hi:i < l.xs.length),l.xs[i]=rN s->l.xs.length<=50000->zl s<=F->RVc j (zl s) S->
 (∃S',LR F ((j:Int),l,(i:Int),S)=q (.next ((j:Int),l,((i+1:Nat):Int),S'))/\RGr (zl s) S S')\/∃r,LR F ((j:Int),l,(i:Int),S)=q (.done r)/\zzh (zl s) S r
def BlR(n:Nat)(ks:Sl Nd):Prop:=∀F (j:Nat) (S:RSt),n<=F->RVc j n S->∃S',q32 F ((j:Int),⟨ks.xs.map rN,ks.nn⟩,S)=q S'/\RGr n S S'
theorem zml{ks:Sl Nd}(h:∀s∈ks.xs,StR s)(hl:zd ks.xs<=40000):BlR (zd ks.xs+1) ks:=by
 intro F j S hF hv;obtain⟨F,rfl⟩:∃k,F=k+1:=⟨F - 1,by omega⟩
 have hk:=WA ks.xs
 have key:=goE (f:=LR F) (n:=ks.xs.length) (A:=RSt) (st:=λi a=>((j:Int),⟨ks.xs.map rN,ks.nn⟩,(i:Int),a)) (fin:=λa =>.inr a) (J:=λi a=>RGr (zd (ks.xs.take i)) S a) (bad:=zzh (zd ks.xs+1) S)
  (λi hi a ha=>by
   have hz:=Y4 hi;have ha2:RVc j (zl ks.xs[i]) a:=RVc.gr (hv.mono (show zd (ks.xs.take i)+zl ks.xs[i]<=_ by omega)) ha;rcases h _ (gc hi) F j a ⟨ks.xs.map rN,ks.nn⟩ i (by simpa using hi) (by simp) (by simp;omega) (by omega) ha2 with⟨b,e,g⟩ | ⟨r,e,S',hr,g⟩
   ·refine .inl ⟨b,e,?_⟩;rw[<- DG hi,zN];exact(ha.trans g).mono (by simp[zd])
   ·exact .inr ⟨r,e,S',hr,(ha.trans g).mono (by omega)⟩)
  (λa ha=>by
   show q3r _ _ _ _=_;unfold q3r;simp only[jl];rw[jx (by simp only[zf,D1];omega)]
   rfl)
  (a:=S) ((RGr.refl rfl rfl rfl).mono (by omega))
 have fin':∀(o:U3 (RSt⊕RSt)) (r:RSt⊕RSt) (S':RSt),o=q r->(r = .inl S'\/r = .inr S')->(o.bind λy11=>Sum.elim (λy12=>q y12) (λy13=>q y13) y11)=q S':=by
  grind
 rcases key with⟨a,e,g⟩ | ⟨r,e,S',hr,g⟩
 ·exact⟨a,fin' _ _ a e (.inr rfl),g.mono (by grind)⟩
 ·exact⟨S',fin' _ _ S' e hr,g⟩
def vS(s:Nd):List Nd:=s.K_.xs.drop 2
theorem zaA{s:Nd}(g:StmtG s)(y:zl s<=40000)(hb:s.k_=15\/s.k_=16->2<=s.K_.xs.length/\zd (vS s)+2<=zl s/\∀b∈vS s,BlR (zl b) b.K_):StR s:=by
 intro F j S l i hi hs W X v;have ps:=z6 s;show(∃S',q3r _ _ _ _=_/\_)\/∃r,q3r _ _ _ _=_/\_
 unfold q3r;simp only[jl,zj];rw[jv jA];simp only[jj];by_cases x:S.1.2.2.2=0
 rotate_left
 ·simp only[x,jr,jk,jp];exact .inr ⟨_,rfl,S,.inr rfl,(RGr.refl rfl rfl rfl).mono Zc⟩
 simp only[x,js,jq,ze hi,hs,jj];obtain⟨e,S1,G,t⟩:=zzg g y (v.mono Zc);rw[G,jj];by_cases h0:e=0
 rotate_left
 ·obtain⟨S2,N,R,Q,M,_⟩:=znQ (rN s).a_ e S1;simp only[h0,Dj,ju,jq,N,jj];exact .inr ⟨_,rfl,S2,.inl rfl,(t.trans (RGr.refl R Q M)).mono Zc⟩
 simp only[h0,Dj,jt,jp,ZT];have T:=zu (Zc:i < 1000000000);have d:(s.k_=15\/s.k_=16)->∃S',lpO (q5j q1l q1b (q32 F)) ((j:Int),l,(i:Int),2,S1.1,S1.2,rN s)=q ((j:Int),l,(i:Int),S'.1,S'.2)/\RGr (zl s) S S':=by
  intro o;obtain⟨Y,b2,U⟩:=hb o;have c:(rN s).K_.xs=s.K_.xs.map rN:=by rw[zJ]
  have H:(rN s).K_.xs.length=s.K_.xs.length:=by rw[c];simp
  have V:(vS s).length=s.K_.xs.length - 2:=by simp[vS]
  have P:=@Zl s
  obtain⟨S',I,K⟩:=go (f:=q5j q1l q1b (q32 F)) (n:=(vS s).length) (A:=RSt) (st:=λk a=>((j:Int),l,(i:Int),((k+2:Nat):Int),a.1,a.2,rN s)) (fin:=λa=>((j:Int),l,(i:Int),a.1,a.2)) (J:=λk a=>RGr (1+zd ((vS s).take k)) S a)
   (λk o a p=>by
    have y:=Y4 o;have z:(vS s)[k]=s.K_.xs[k+2]' Zc:=by simp[vS,Nat.add_comm]
    obtain⟨S2,O,L⟩:=U _ (gc o) F j a Zc (RVc.gr (v.mono (Zc:(1+zd ((vS s).take k))+zl (vS s)[k]<=_)) p);refine⟨S2,?_,?_⟩
    ·unfold q5j;simp only[jl,zj];rw[jv jA,ze Zc,jj];simp only[c,List.getElem_map];rw[<- z,zJ];show((q32 F ((j:Int),_,a)).bind _)=_;rw[O,jj,zu Zc]
    ·rw[<- DG o,zN]
     exact(p.trans L).mono (by simp only[zd];omega))
   (λa p=>by
    unfold q5j;simp only[jl,zj]
    rw[jx jA])
   (a:=S1) (t.mono Zc)
  exact⟨S',I,K.mono jE⟩
 by_cases u:s.k_=15
 ·grind
 by_cases h:s.k_=16
 ·obtain⟨S',m1,Z⟩:=d (.inr h);grind
 ·simp only[u,h,jp,jr,jk,jj,T];exact .inl ⟨S1,rfl,t.mono Zc⟩
theorem zxC{s:Nd}(h:StmtG s)(hs:zl s<=40000):StR s:=by
 have i:∀(a:Int) (b:List Nd),(∀s∈b,zl s<=40000->StR s)->zl ⟨9,lit [],0,a,mkS b⟩<=40000->BlR (zl ⟨9,lit [],0,a,mkS b⟩) (q8.mk 9 (lit []) 0 a (mkS b)).K_:=λa b l v=>by
  rw[zk] at v |-
  exact zml (λs hs=>l s hs (by have:=X6 hs;omega)) Zc
 induction h with
 | @ite op n a x y r o b2 a2 e f h1 h2 p i2=>
  refine zaA (.ite e f h1 h2) hs λ_=>?_
  have u:=z6 x;have g:=z6 y;rw[zk] at hs |-;simp only[zd] at hs;refine⟨je,by simp only[vS,E,zd];omega,λb hb=>?_⟩;rcases Db.1 hb with rfl | hb
  all_goals grind
 | @whl op n a x y r o e f h1 p=>
  refine zaA (.whl e f h1) hs λ_=>?_
  have u:=z6 x;have g:=z6 y;rw[zk] at hs |-;simp only[zd] at hs;refine⟨je,by simp only[vS,E,zd];omega,λb hb=>?_⟩;rw[Dz.1 hb];grind
 | @leaf k t n a c=>exact zaA (.leaf c) hs λh=>jE
 |ret c=>exact zaA (.ret c) hs λh=>by simp at h
 |fork c=>exact zaA (.fork c) hs λh=>by simp at h
 |call c=>exact zaA (.call c) hs λh=>by simp at h
 |store c d=>exact zaA (.store c d) hs λh=>by simp at h
 |set c=>exact zaA (.set c) hs λh=>by simp at h
theorem zxD{b:Nd}(h:V8 b)(hs:zl b<=40000):BlR (zl b) b.K_:=by
 obtain⟨a,l,rfl,d⟩:=h;rw[zk] at hs |-
 have hs:zd l+1<=40000:=hs;exact zml (λs c=>zxC (d s c) (by have:zl s<=zd l:=X6 c;omega)) jE
structure Smr(S S':RSt):Prop where
 s:S'.1.1=S.1.1
 t:S'.1.2.1=S.1.2.1
 f:S'.2=S.2
theorem Smr.refl{S:RSt}:Smr S S:=⟨rfl,rfl,rfl⟩
theorem Smr.trans{a b c:RSt}(h:Smr a b)(g:Smr b c):Smr a c:=⟨g.s.trans h.s,g.t.trans h.t,g.f.trans h.f⟩
theorem zbw(a e:Int)(S:RSt):∃S',Smr S S'/\q1b (a,e,S.1,S.2)=q S'/\(e≠0->S'.1.2.2.2≠0):=by
 obtain⟨S',h,h1,h2,c,b⟩:=znQ a e S;exact⟨S',⟨h1,h2,c⟩,h,b⟩
theorem zif(c:Prop)[Decidable c](a e:Int)(S:RSt):∃S',Smr S S'/\∀(β:Type) (g:RSt->U3 β),(if c then(q1b (a,e,S.1,S.2)).bind g else g S)=g S':=by
 by_cases h:c
 ·obtain⟨S',h1,h2,_⟩:=zbw a e S;grind
 ·exact⟨S,.refl,λβ g=>jx h⟩
theorem zxE(n:U0)(z:U0×Int)(v:Sl RP)(h:v.xs.length<=1000000):∃i,q4e (n,z,v)=q (i,z,v):=by
 have:=wh (f:=q62) (xs:=v.xs) (p:=λx=>decide (x.N_=n)) (st:=λi=>(n,(i:Int),z,v)) (yes:=λi =>.inl ((i:Int),z,v)) (no :=.inr (z,v))
  (λi hi=>by
   unfold q62;simp only[jl];rw[jv jA,ze hi,jj,jj,zu Zc]
   split<;>rfl)
  (by unfold q62;simp only[jl];rw[jx jA])
 unfold q4e qac;have this:lpO q62 (n,0,z,v)=_:=this;simp only[this];cases v.xs.findIdx? _<;>exact⟨_,rfl⟩
theorem zxF {k:Nd}(h:FnG k) (hs:zl k<=40000) {S:RSt}{t:List PT}(T:S.1.2.1=mkS (t.map rT)) (ht:t.length<=100000) :
    ∃S' c,q4f (rN k,S)=q ((k.T_,((Xo k).length:Int)),S'.1,S'.2,c)/\Smr S S'/\(S'.1.2.2.2≠0\/(Xo k).length<=8/\c.xs.length=(Xo k).length):=by
 obtain⟨h6,ps,r,b,V,hp,hr,Z,hb⟩:=h;have v:k.K_.xs.length=ps.length+2:=by rw[V];simp
 have H:Xo k=ps:=by unfold Xo;grind
 have Q:=@Zl k;have R:(rN k).K_.xs=k.K_.xs.map rN:=by rw[zJ]
 have L:(rN k).K_.xs.length=k.K_.xs.length:=by rw[R];simp
 rw[H];have U:U4 ((rN k).K_.len - 2)=(ps.length:Int):=by rw[zf,L,v,zE Zc Zc];omega
 have K:za (rN k).K_ (ps.length:Int)=q (rN r):=by rw[ze Zc];grind
 unfold q4f qad;simp only[zj];simp only[U,jl,zZ];by_cases O:8 < (ps.length:Int)
 ·obtain⟨S',s1,g,e2⟩:=zbw (rN k).a_ 22 S;have g:q1b ((rN k).a_,22,S)=_:=g;simp only[O,jq,g,jj];grind
 simp only[O,jp]
 obtain⟨⟨S1,c⟩,g,s1,W⟩:=go (f:=q63 q1b q4e q1a) (n:=ps.length) (A:=RSt×Sl RP)
  (st:=λi a=>((ps.length:Int),(i:Int),a.1.1,a.1.2,rN k,(lit [],0),(k.T_,(ps.length:Int)),a.2)) (fin:=λa=>((ps.length:Int),a.1.1,a.1.2,rN k,(lit [],0),(k.T_,(ps.length:Int)),a.2))
  (J:=λi a=>Smr S a.1/\a.2.xs.length=i)
  (λi hi a N=>by
    obtain⟨a,c⟩:=a;obtain⟨d,s⟩:=N;simp only at s d;obtain⟨_,m,Y,z⟩:=hp _ (gc hi);have P:za (rN k).K_ (i:Int)=q (rN ps[i]):=by
     rw[ze Zc];grind
    obtain⟨x,I⟩:=zxE ps[i].T_ (k.T_,(ps.length:Int)) c Zc;obtain⟨p,l,F⟩:=zif (0<=x) (rN ps[i]).a_ 30 a;unfold q63;simp only[jl,zj];rw[jv Zc];simp only[P,jj,rk0 Y];simp only[zZ,I,jj,zj];rw[F];simp only[jj];have G:=zu (Zc:i < 1000000000);have e:m.T_=lit [105,110,116]\/m.T_=lit [111,119,110]\/m.T_=lit [38]\/m.T_=lit [38,109,117,116]:=by
     rcases z.2 with⟨h1,_⟩ | ⟨h1,_⟩
     all_goals grind
    rcases e with e | e | e | e
    ·simp (decide:=true) only [e,Z8,jp,jr,jk,jj,zZ];rw[Zu Zc Zc];simp only[jj,G];exact⟨(p,_),rfl,d.trans l,by simp[s]⟩
    · obtain⟨y,X⟩:=zmj z e;obtain⟨a2,u,o⟩:=zif (idT y.T_ t < 0) (rN m).a_ 31 p;have M:p.1.2.1=mkS (t.map rT):=by rw[l.t,d.t,T]
      simp (decide:=true) only [e,Z8,jp,jr,jk,jj,zZ,jq,rk0 X,M,zay t _ (Zc:t.length<=1000000)];rw[o];simp only[jj];rw[Zu Zc Zc];simp only[jj,G];exact⟨(a2,_),rfl,(d.trans l).trans u,by simp[s]⟩
    ·obtain⟨a2,u,o,_⟩:=zbw (rN m).a_ 34 p;simp (decide:=true) only [e,Z8,jp,jq,jr,jk,jj,zZ,o];rw[Zu Zc Zc];simp only[jj,G];exact⟨(a2,_),rfl,(d.trans l).trans u,by simp[s]⟩
    · obtain⟨a2,u,o,_⟩:=zbw (rN m).a_ 34 p;simp (decide:=true) only [e,Z8,jp,jq,js,jr,jk,jj,zZ,o];rw[Zu Zc Zc];simp only[jj,G]
      exact⟨(a2,_),rfl,(d.trans l).trans u,by simp[s]⟩)
  (λa N=>by
    unfold q63;simp only[jl,zj]
    grind)
  (a:=(S,Sl.mk [] false)) ⟨.refl,je⟩
 have g:lpO (q63 q1b q4e q1a) ((ps.length:Int),0,S.1,S.2,rN k,(lit [],0),(k.T_,(ps.length:Int)),Sl.mk [] false)=_:=g;rw[g];simp only[jj,K];obtain⟨S2,l,F⟩:=zif (¬(rN r).T_=lit []) (rN r).a_ 35 S1;simp only[zZ,Dj] at F |-
 rw[F];exact⟨S2,c,rfl,s1.trans l,.inr ⟨Zc,W⟩⟩
structure RFnR(m:Nat)(k:Nd)(f:RFt):Prop where
 g:FnG k
 p:f.P_=((Xo k).length:Int)
 l:(Xo k).length<=8
 v:(Xo k).length<=f.V_.xs.length/\f.V_.xs.length<=(Xo k).length+m
def yX(m:Nat)(ks:List Nd)(fs:List RFt):Prop:=∃h:fs.length=ks.length,∀i (hi:i < ks.length),RFnR m ks[i] (fs[i]' Zc)
theorem yX.mono{fs:List RFt}(h:yX m ks fs)(e:m<=k):yX k ks fs:=⟨h.1,λi hi=>by obtain⟨a,b,c,d⟩:=h.2 i hi;exact⟨a,b,c,Zc⟩⟩
theorem yX.snoc{fs:List RFt}{k:Nd}{f:RFt}(h:yX m ks fs)(g:RFnR m k f):yX m (ks++[k]) (fs++[f]):=by
 have a:=h.1;refine⟨by simp[a],λi hi=>?_⟩;rw[jy,g9] at hi;by_cases c:i < ks.length
 ·rw[D c,D Zc];exact h.2 i c
 ·obtain rfl:i=ks.length:=Zc
  rw[C (UK _),C Zc];grind
theorem yX.vc{S:RSt}(h:yX m ks S.2.xs)(hs:S.1.1.xs.length<=50000)(b:ks.length<=50000)(e:m+5000<=50000){i:Nat}(hi:i < ks.length):RVc i 5000 S:=by
 have key:∀f∈S.2.xs,f.V_.xs.length<=m+8/\0<=f.P_/\f.P_<=f.V_.xs.length:=by
  intro f a;obtain⟨j,c,rfl⟩:=B a;have r:=h.2 j (by rw[<- h.1];exact c);have d:=r.v;have g:=r.l;have hp:=r.p;grind
 exact⟨⟨by rw[h.1];exact hi,λf a=>⟨jE,(key f a).2⟩,by rw[h.1];exact b⟩,λf a=>jE,hs⟩
theorem yX.gr{a b:RSt}(h:yX m ks a.2.xs)(g:RGr k a b):yX (m+k) ks b.2.xs:=
 ⟨g.l.trans h.1,λi hi=>by
  have r:=h.2 i hi;obtain⟨_,g2,e,c,d⟩:=g.f i jE (by rw[g.l,h.1];exact hi);have o:=r.v;have c:=congrArg w c;rw[jy] at c
  exact⟨r.g,g2.trans r.p,r.l,Zc⟩⟩
noncomputable abbrev RC0:=q3s q1b q4f q4t q2j
noncomputable abbrev RC1:=q3t q1b q4f q4t q2j
theorem zxG (v:UnitG n) (b:Sl RSg) (t:List PT) (F:t.length<=100000) :
    ∃S:RSt,lpO RC0 (0,rN n,(b,mkS (t.map rT),0,0),Sl.mk [] false)=q (rN n,S)/\S.1.1=b/\S.1.2.1=mkS (t.map rT)/\(S.1.2.2.2=0->yX 0 n.K_.xs S.2.xs):=by
 have I:=@Zl n;have y:=v.size;have K:(rN n).K_.xs=n.K_.xs.map rN:=by rw[zJ]
 have L:(rN n).K_.xs.length=n.K_.xs.length:=by rw[K];simp
 rcases goE (f:=RC0) (n:=n.K_.xs.length) (A:=RSt) (st:=λi a=>((i:Int),rN n,a)) (fin:=λa=>(rN n,a)) (J:=λi a=>a.1.1=b/\a.1.2.1=mkS (t.map rT)/\a.2.xs.length<=i/\(a.1.2.2.2=0->yX 0 (n.K_.xs.take i) a.2.xs)) (bad:=λr=>∃S:RSt,r=(rN n,S)/\S.1.1=b/\S.1.2.1=mkS (t.map rT)/\S.1.2.2.2≠0)
  (λi hi S l=>by
    obtain⟨g,a2,a3,a4⟩:=l;show(∃a',q3s _ _ _ _ _=_/\_)\/∃r,q3s _ _ _ _ _=_/\_
    unfold q3s;simp only[jl,zj];rw[jv jA];simp only[jj];by_cases o:S.1.2.2.2=0
    rotate_left
    ·grind
    have z:za (rN n).K_ (i:Int)=q (rN n.K_.xs[i]):=by rw[ze Zc];grind
    simp only[o,js,jq,z,jj,ZT];by_cases u:n.K_.xs[i].k_=6
    rotate_left
    ·obtain⟨S',s1,c,H⟩:=zbw (rN n.K_.xs[i]).a_ 50 S;have c:q1b ((rN n.K_.xs[i]).a_,50,S)=_:=c;simp only[u,Dj,ju,jq,c,jj];exact .inr ⟨_,rfl,S',rfl,s1.s.trans g,s1.t.trans a2,H jI⟩
    have p:FnG n.K_.xs[i]:=by
     rcases v.kid _ (gc hi) with h | h
     ·exact absurd h.1 jE
     ·exact h
    obtain⟨S',x,e,s1,d⟩:=zxF p (by have:=ZX (gc hi);omega) a2 F;have M:S'.2.xs.length<=i:=by rw[s1.f];exact a3
    simp only[u,Dj,jt,jp,e,jj];rw[Zu Zc Zc,jj,zu Zc];refine .inl ⟨(S'.1,_),rfl,s1.s.trans g,s1.t.trans a2,jE,λh0=>?_⟩;rcases d with d | ⟨G,d⟩
    ·grind
    rw[<- DG hi];simp only[s1.f]
    exact(a4 o).snoc ⟨p,rfl,G,by simp only;omega⟩)
  (λS l=>by
    show q3s _ _ _ _ _=_;unfold q3s;simp only[jl,zj];rw[jx jA]
    rfl)
  (a:=((b,mkS (t.map rT),0,0),Sl.mk [] false)) ⟨rfl,rfl,je,λ_=>⟨je,λi hi=>by simp at hi⟩⟩ with⟨S,e,h1,h2,_,h3⟩ | ⟨r,e,S,rfl,h1,h2,h3⟩
 all_goals grind
theorem zxH (T:UnitG n) {S0:RSt}(hs:S0.1.1.xs.length<=50000) (h0:S0.1.2.2.2=0->yX 0 n.K_.xs S0.2.xs) :
    ∃S:RSt,lpO RC1 (0,rN n,S0)=q S/\(S.1.2.2.2=0->yX 5000 n.K_.xs S.2.xs):=by
 have O:=@Zl n;have M:=T.size;have V:=zk n;have P:(rN n).K_.xs=n.K_.xs.map rN:=by rw[zJ]
 have Q:(rN n).K_.xs.length=n.K_.xs.length:=by rw[P];simp
 rcases goE (f:=RC1) (n:=n.K_.xs.length) (A:=RSt) (st:=λi a=>((i:Int),rN n,a)) (fin:=λa=>a) (J:=λi a=>a.1.1.xs.length<=50000/\(a.1.2.2.2=0->yX (zd (n.K_.xs.take i)) n.K_.xs a.2.xs)) (bad:=λr=>r.1.2.2.2≠0)
  (λi hi S I=>by
    obtain⟨H,a4⟩:=I;have U:=Y4 hi;show(∃a',q3t _ _ _ _ _=_/\_)\/∃r,q3t _ _ _ _ _=_/\_
    unfold q3t;simp only[jl,zj];rw[jv jA];simp only[jj];by_cases K:S.1.2.2.2=0
    rotate_left
    ·grind
    have u:=a4 K;have r:=u.2 i hi;obtain⟨_,ps,rr,b,L,_,_,_,hb⟩:=r.g;have t:n.K_.xs[i].K_.xs.length=ps.length+2:=by rw[L];simp
    have Y:=@Zl n.K_.xs[i];have W:=ZX (n:=n.K_.xs[i]) (k:=b) (by rw[L];simp);have G:(rN n.K_.xs[i]).K_.xs=n.K_.xs[i].K_.xs.map rN:=by rw[zJ]
    have p:(rN n.K_.xs[i]).K_.xs.length=n.K_.xs[i].K_.xs.length:=by rw[G];simp
    have F:za (rN n.K_.xs[i]).K_ (U4 ((rN n.K_.xs[i]).K_.len - 1))=q (rN b):=by
     rw[zf,p,t,zE Zc Zc,(Zc:(((ps.length+2:Nat):Int) - 1)=((ps.length+1:Nat):Int)),ze Zc];grind
    have N:za (rN n).K_ (i:Int)=q (rN n.K_.xs[i]):=by rw[ze Zc];grind
    have Z:=u.1;simp only[K,js,jq,N,jj,ze (s:=S.2) (Zc:i < _),F];have vc:RVc i 5000 S:=u.vc H Zc Zc hi;obtain⟨S1,e,g⟩:=zxD hb Zc 100000 i S Zc (vc.mono Zc);rw[<- zJ] at e;have e:q4t ((i:Int),(rN b).K_,S)=_:=e;have gl:S1.2.xs.length=S.2.xs.length:=g.l;have x:i < S1.2.xs.length:=Zc
    have d:FnG n.K_.xs[i]->yX (zd (n.K_.xs.take (i+1))) n.K_.xs S1.2.xs:=by
     intro _;rw[<- DG hi,zN];exact(yX.gr u g).mono (by simp only[zd];omega)
    have d:=d r.g;obtain⟨R,v⟩:=znN r.g Zc;have z:S1.1.1.xs.length<=50000:=by rw[g.s];exact H
    have X:=zu (Zc:i < 1000000000);simp only[e,jj,v,ze x];have tail:∀c:Bool,∃a':RSt,(((if c=true then(q1b ((rN n.K_.xs[i]).a_,22,S1.1,S1.2)).bind λy=>q ((i:Int),rN n,y) else q ((i:Int),rN n,S1.1,S1.2)).bind λo:Int×RNd×RSt=>q (Step.next (U4 (o.1+1),o.2.1,o.2.2):Step _ RSt)))=q (.next (((i+1:Nat):Int),rN n,a'))/\a'.1.1.xs.length<=50000/\(a'.1.2.2.2=0->yX (zd (n.K_.xs.take (i+1))) n.K_.xs a'.2.xs):=by
     intro c;cases c
     ·grind
     ·obtain⟨S',s1,v,e2⟩:=zbw (rN n.K_.xs[i]).a_ 22 S1;simp only[jq,v,jj,X];exact⟨S',rfl,by rw[s1.s];exact z,λ_=>jE⟩
    by_cases h64:64 < Sl.len S1.2.xs[i].V_
    ·simp only[h64,jq,jj];exact .inl (tail true)
    · simp only[h64,jp,jj]
      exact .inl (tail (decide (512 < Sl.len R.2.2))))
  (λS I=>by
    show q3t _ _ _ _ _=_;unfold q3t;simp only[jl,zj];rw[jx jA]
    rfl)
  (a:=S0) ⟨hs,by simpa[zd] using h0⟩ with⟨S,e,h1,h3⟩ | ⟨r,e,h3⟩
 ·rw[Dt] at h3;exact⟨S,e,λh=>(h3 h).mono Zc⟩
 grind
theorem zsd (b:UnitG n) (a:Sl RSg) (t:List PT) (hs:a.xs.length<=50000) (d:t.length<=100000) :
    ∃S:RSt,q45 (rN n,a,mkS (t.map rT))=q S/\(S.1.2.2.2≠0/\S.2.xs=[]\/S.1.2.2.2=0/\yX 5000 n.K_.xs S.2.xs):=by
 obtain⟨S1,c,h1,h2,e⟩:=zxG b a t d;obtain⟨S2,f,h⟩:=zxH b (S0:=S1) jE e;unfold q45 q8x;simp only[zj,jl];rw[c];simp only[jj];rw[f];simp only[jj];by_cases g:S2.1.2.2.2=0
 ·grind
 grind
end Go.Px
