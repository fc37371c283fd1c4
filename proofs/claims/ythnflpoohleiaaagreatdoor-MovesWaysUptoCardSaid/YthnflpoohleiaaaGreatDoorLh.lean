/- Part Lh. -/
import Derived.Test.YthnflpoohleiaaaGreatDoorLg
set_option linter.unusedVariables false
set_option linter.unusedSimpArgs false
namespace Go.Px
open List renaming length->w,getElem_of_mem->B,getElem_append_right->C,getElem_append_left->D,drop->E
open _root_.Option renaming some->q
variable{j k m:Nat}{ks:List Nd}{n:Nd}
abbrev RFt:=qg
abbrev RSt:=(Sl RSg×Sl RTy×Int×Int)×Sl RFt
structure RVd(j:Nat)(fs:Sl RFt):Prop where
 j:j < fs.xs.length
 v:∀f∈fs.xs,f.V_.xs.length<=60000/\0<=f.P_/\f.P_<=f.V_.xs.length
 f:fs.xs.length<=50000
theorem zl9{fs:Sl RFt}(h:RVd j fs)(n:Ut):∃i:Int,q2r ((j:Int),n,fs)=q (i,fs)/\ -1<=i/\i < (fs.xs[j]'h.j).V_.xs.length:=by
 have a:=h.j;have b:=(h.v _ (gc a)).1
 have:=wh (f:=q56) (xs:=fs.xs[j].V_.xs) (p:=λx=>decide (x.N_=n)) (st:=λi=>((j:Int),n,(i:Int),fs)) (yes:=λi =>.inl ((i:Int),fs)) (no :=.inr fs)
  (λi hi=>by
   unfold q56;simp only[jl,ze a,jj];rw[jv jA];simp only[ze hi,jj,zu (Zd:i < 1000000000)]
   grind)
  (by
   unfold q56;simp only[jl,ze a,jj]
   rw[jx jA])
 refine⟨idx (λx=>decide (x.N_=n)) fs.xs[j].V_.xs,?_,yC.1,yC.2.1⟩;unfold q2r q8g;have this:lpO q56 ((j:Int),n,0,fs)=_:=this;simp only[this];unfold idx;cases fs.xs[j].V_.xs.findIdx? _<;>rfl
theorem zey{fs:Sl RFt}(h:RVd j fs)(n:Ut):∃p e,q5b ((j:Int),n,fs)=q (p,e,fs):=by
 obtain⟨i,e,h1,h2⟩:=zl9 h n;have a:=h.j;unfold q5b qa5;simp only[e,jj,jl];by_cases h0:i < 0
 ·simp only[h0,jq];grind
 obtain⟨k,rfl⟩:∃k:Nat,i=(k:Int):=⟨_,(D6 Zd).symm⟩
 simp only[h0,jp,ze a,jj,ze (s:=fs.xs[j].V_) (Zd:k < _)];grind
theorem zez{fs:Sl RFt}(h:RVd j fs)(n:RNd)(p:RP):∃e,q1p ((j:Int),n,p,fs)=q (e,fs):=by
 obtain⟨k,e,f⟩:=zey h n.T_;unfold q1p qa6;simp only[zj,jl];by_cases h1:n.T_=lit []
 ·simp only[h1,jq];by_cases h2:p.M_=1
  ·grind
  grind
 simp only[h1,jp,jj,jm,f];by_cases g:e=0
 rotate_left
 ·grind
 simp (decide:=true) only [g,Dc,jt,jp];by_cases c:p.M_=1
 ·simp only[c,jq];by_cases l:k.M_=1
  ·grind
  grind
 simp only[c,jp,jj,jm];have d:∀(b:Bool),∃e,((if¬n.n_=0 then q (true,fs) else if¬k.t_=p.t_ then q (true,fs) else if¬k.M_=p.M_ then q (!b,fs) else q (false,fs)).bind λa:Bool×Sl RFt=>if a.1=true then q ((40:Int),a.2) else q (0,a.2))=q (e,fs):=by
  intro b;split
  ·grind
  grind
 by_cases i:p.M_=3
 ·grind
 grind
theorem zxw{fs:Sl RFt}(h:RVd j fs)(l:Sl RNd)(p:Sl RP)(g:l.xs.length<=50000):∃e,q3r ((j:Int),l,p,fs)=q (e,fs):=by
 unfold q3r qa7;simp only[jl];by_cases b:Sl.len l=Sl.len p
 rotate_left
 ·simp only[b,Dc,ju,jq];grind
 simp only[b,Dc,jt,jp];simp only[zh] at b
 rcases goE (f:=q7m q1p) (n:=l.xs.length) (A:=Sl RFt) (st:=λi a=>((j:Int),l,p,(i:Int),a)) (fin:=λa =>.inr a) (J:=λi a=>a=fs) (bad:=λr=>∃e,r = .inl (e,fs))
  (λi hi a c=>by
   subst c;unfold q7m;simp only[jl,zj];rw[jv jA,ze hi,jj,ze (s:=p) (Zd:i < _),jj];obtain⟨e,d⟩:=zez h l.xs[i] (p.xs[i]' Zd);rw[d,jj];by_cases h0:e=0
   ·simp only[h0,Dc,jt,jp,zu (Zd:i < 1000000000)];grind
   grind)
  (λa c=>by
   unfold q7m;simp only[jl]
   rw[jx jA])
  (a:=fs) rfl with⟨a,e,rfl⟩ | ⟨r,e,x,rfl⟩
 ·grind
 grind
theorem znF{S:RSt}(h:RVd j S.2)(hs:S.1.1.xs.length<=50000)(n:RNd)(hn:n.K_.xs.length<=50000):∃p e,q32 ((j:Int),n,S)=q (p,e,S):=by
 unfold q32 qa8;simp only[zj]
 rcases goE (f:=q4y q3r) (n:=S.1.1.xs.length) (A:=Unit) (st:=λi _=>((j:Int),(i:Int),S.1,S.2,n,qi.mk (lit []) 0 0)) (fin:=λ_ =>.inr (S.1,S.2,qi.mk (lit []) 0 0)) (J:=λ_ _=>True) (bad:=λr=>∃e p,r = .inl (e,S.1,S.2,p))
  (λi hi a _=>by
   unfold q4y;simp only[jl,zj];rw[jv (by simp only[zh];omega),ze hi,jj];split
   ·rw[jj];obtain⟨e,he⟩:=zxw h n.K_ S.1.1.xs[i].P_ hn;grind
   ·rw[zu (by omega)]
    exact .inl ⟨(),rfl,trivial⟩)
  (λa _=>by
   unfold q4y;simp only[jl]
   rw[jx (by simp only[zh];omega)])
  (a:=()) trivial with⟨a,e,_⟩ | ⟨r,e,x,p,rfl⟩
 ·have e:lpO (q4y q3r) ((j:Int),0,S.1,S.2,n,qi.mk (lit []) 0 0)=_:=e;rw[e];exact⟨_,_,rfl⟩
 ·have e:lpO (q4y q3r) ((j:Int),0,S.1,S.2,n,qi.mk (lit []) 0 0)=_:=e;rw[e];exact⟨_,_,rfl⟩
theorem zuq{fs:Sl RFt}(h:RVd j fs)(l:Sl RNd)(t:l.xs.length<=50000)(g:k < fs.xs.length):∃e,q33 ((j:Int),l,((k:Int),0,fs.xs[k].P_),fs)=q (e,fs):=by
 obtain⟨p,v2,v3⟩:=h.v _ (gc g);have c:=Yr (s:=fs.xs[k].V_) (lo:=0) (hi:=fs.xs[k].P_) Zd v2 v3;rw[show(0:Int).toNat=0 from rfl,Dk] at c;unfold q33 q8h;simp only[jl,ze g,c,jj];by_cases b:Sl.len l=fs.xs[k].P_ - 0
 rotate_left
 ·simp only[b,Dc,ju,jq];grind
 simp only[b,Dc,jt,jp];simp only[zh] at b
 rcases goE (f:=q4b q1p) (n:=l.xs.length) (A:=Sl RFt) (st:=λi a=>((j:Int),l,((k:Int),0,fs.xs[k].P_),(i:Int),a)) (fin:=λa =>.inr a) (J:=λi a=>a=fs) (bad:=λr=>∃e,r = .inl (e,fs))
  (λi hi a m=>by
   subst m;unfold q4b;simp only[jl,zj];have d:i < a.xs[k].V_.xs.length:=Zd
   rw[jv jA,ze hi,jj,ze g,jj,c,jj];rw[ze (s:=⟨_,_⟩) jE];simp only[jj,Int.zero_add];rw[ze d,jj];obtain⟨e,o⟩:=zez h l.xs[i] (a.xs[k].V_.xs[i]);rw[o,jj];by_cases h0:e=0
   ·simp only[h0,Dc,jt,jp,zu (Zd:i < 1000000000)];grind
   grind)
  (λa m=>by
   unfold q4b;simp only[jl]
   rw[jx jA])
  (a:=fs) rfl with⟨a,e,rfl⟩ | ⟨r,e,x,rfl⟩
 ·have e:lpO (q4b q1p) ((j:Int),l,((k:Int),0,a.xs[k].P_),0,a)=_:=e;grind
 ·have e:lpO (q4b q1p) ((j:Int),l,((k:Int),0,fs.xs[k].P_),0,fs)=_:=e;grind
theorem zxx{S:RSt}(h:RVd j S.2)(hs:S.1.1.xs.length<=50000)(g:ExprG n)(u:n.K_.xs.length<=50000):∃p e,q3s ((j:Int),rN n,S)=q (p,e,S):=by
 have c:∀{α β γ:Type} (f:α->γ) (g:β->γ) (a:α),Sum.elim f g (.inl a)=f a:=λ_ _ _=>rfl
 unfold q3s qa9;simp only[zj,yV];simp only[ZU,z6];obtain⟨k,e,o⟩:=zey h n.T_;cases g with
 |term b h0=>
  simp only[b,js,jq];by_cases m:n.T_=lit []
  ·simp only[m,js,jq,jj,jo];grind
  simp only[m,jr,jk,jp,o,jj];by_cases h1:e=0
  ·simp only[h1,js,jq];by_cases h2:(rN n).n_=0
   ·simp only[h2,Dc,jt,jr,jk,jp,jj,jo];grind
   ·simp only[h2,Dc,ju,js,jq,jj];by_cases d:k.M_=1
    ·simp only[d,jt,jr,jk,jp,jj,jo];grind
    ·simp only[d,ju,js,jq,jj,jo];grind
  ·simp only[h1,jr,jk,jp,jj,jo];grind
 |leaf b h0=>
  rcases b with b | b | b | b
  ·simp (decide:=true) only [b,jr,js,jq,jp,jk,jj,jm];grind
  ·simp (decide:=true) only [b,jr,js,jq,jp,jk,jj,jm];grind
  all_goals
   simp (decide:=true) only [b,jr,js,jq,jp,jk,jj,z6,ZU,o];by_cases h1:e=0
   ·simp only[h1,Dc,jt,jr,jk,jp];by_cases h2:k.M_=2
    ·simp only[h2,jt,jr,jk,jp,jj,jo];grind
    ·simp only[h2,ju,js,jq,jj,jo];grind
   ·simp only[h1,Dc,ju,js,jq,jj,jo];grind
 |call b=>
  obtain⟨p,e,z⟩:=znF h hs (rN n) (by rw[zJ];simpa using u);simp (decide:=true) only [b.1,jr,js,jq,jp,jk,jj,z];by_cases h1:e=0
  ·simp only[h1,js,jq,jj];by_cases h2:p.M_=0
   ·grind
   grind
  grind
 |load b _ _=>
  simp (decide:=true) only [b,jr,js,jq,jp,jk,jj,jm];grind
 | @two x y b r _ _=>
  obtain⟨v,A,i⟩:=zey h x.T_;obtain⟨F,t,l⟩:=zey h y.T_;rcases b with b | b<;>
  ·simp (decide:=true) only [b,jr,js,jq,jp,jk,jj,rk0 r,rk1 r,z6,i];by_cases h1:A=0
   rotate_left
   ·simp only[h1,Dc,ju,js,jq,jj,jo];grind
   simp only[h1,Dc,jt,jr,jk,jp,l,jj];by_cases h2:t=0
   rotate_left
   ·simp only[h2,Dc,ju,js,jq,jj,jo];grind
   simp only[h2,Dc,jt,jr,jk,jp];by_cases d:v.M_=1<;>by_cases s:F.M_=1<;>
   ·simp only[d,s,jt,ju,js,jr,jk,jq,jp,jj,jo];exact⟨_,_,rfl⟩
structure RGr(m:Nat)(a b:RSt):Prop where
 s:b.1.1=a.1.1
 t:b.1.2.1=a.1.2.1
 l:b.2.xs.length=a.2.xs.length
 f:∀i (h:i < a.2.xs.length) (h':i < b.2.xs.length),b.2.xs[i].N_=a.2.xs[i].N_/\b.2.xs[i].P_=a.2.xs[i].P_/\∃ex,b.2.xs[i].V_.xs=a.2.xs[i].V_.xs++ex/\ex.length<=m
theorem RGr.refl{a b:RSt}(h1:b.1.1=a.1.1)(h2:b.1.2.1=a.1.2.1)(c:b.2=a.2):RGr 0 a b:=
 ⟨h1,h2,by rw[c],λi h d=>by simp only[c];exact⟨trivial,trivial,[],je⟩⟩
theorem RGr.trans{a b c:RSt}(h:RGr m a b)(g:RGr k b c):RGr (m+k) a c:=
 ⟨g.s.trans h.s,g.t.trans h.t,g.l.trans h.l,λi h1 h2=>by
  have hb:i < b.2.xs.length:=by rw[h.l];exact h1
  obtain⟨e,o,n,d,p⟩:=h.f i h1 hb;obtain⟨j,r,u,v2,l2⟩:=g.f i hb h2
  grind⟩
theorem RGr.mono{a b:RSt}(h:RGr m a b)(n:m<=k):RGr k a b:=
 ⟨h.s,h.t,h.l,λi h1 h2=>by obtain⟨d,g,e,c,j⟩:=h.f i h1 h2;grind⟩
structure RVc(j k:Nat)(S:RSt):Prop where
 d:RVd j S.2
 r:∀f∈S.2.xs,f.V_.xs.length+k<=60000
 s:S.1.1.xs.length<=50000
theorem RVc.gr{a b:RSt}(h:RVc j (m+k) a)(g:RGr m a b):RVc j k b:=by
 have key:∀f∈b.2.xs,f.V_.xs.length+k<=60000/\0<=f.P_/\f.P_<=f.V_.xs.length:=by
  intro f c;obtain⟨i,hi,rfl⟩:=B c;have e:i < a.2.xs.length:=by rw[<- g.l];exact hi
  obtain⟨o,t,p,n,u⟩:=g.f i e hi;have h1:=h.r _ (gc e);have h2:=h.d.v _ (gc e);have x:=congrArg w n;grind
 exact⟨⟨by rw[g.l];exact h.d.j,λf c=>⟨jE,(key f c).2⟩,by rw[g.l];exact h.d.f⟩,λf c=>(key f c).1,by rw[g.s];exact h.s⟩
theorem RVc.mono{a:RSt}(h:RVc j m a)(c:k<=m):RVc j k a:=⟨h.d,λf b=>by have:=h.r f b;omega,h.s⟩
theorem zzb{S:RSt}(g:StmtG n)(hz:zl n<=40000)(h:RVc j 1 S):∃e S',q1k ((j:Int),rN n,S)=q (e,S')/\RGr 1 S S':=by
 have r0:RGr 1 S S:=(RGr.refl rfl rfl rfl).mono (by omega);have kl:∀{k:Nd},n.K_=⟨[k],true⟩->k.K_.xs.length<=50000:=λe=>zh7 e hz
 have two:∀(x y:Nd) (l:List Nd),n.K_=⟨x::y::l,true⟩->n.k_=15\/n.k_=16->∃e S',q1k ((j:Int),rN n,S)=q (e,S')/\RGr 1 S S':=by
  intro x y l hk hn;obtain⟨e1,h1⟩:=zez h.d (rN x) ⟨lit [],1,0⟩;obtain⟨e2,h2⟩:=zez h.d (rN y) ⟨lit [],1,0⟩;unfold q1k q34;simp only[zj,yV];simp only[ZU];rcases hn with hn | hn<;>
  ·simp (decide:=true) only [hn,jr,js,jq,jp,jk,jj,rk0 hk,rk1 hk,h1];by_cases h3:e1=0
   ·simp only[h3,Dc,jt,jr,jk,jp,h2,jj,jo];grind
   ·simp only[h3,Dc,ju,js,jq,jj,jo];grind
 cases g with
 |ite=>grind
 |whl=>grind
 | @leaf k t m a c=>
  unfold q1k q34;simp only[zj,yV];simp only[ZU];have hk:∀k:Int,(Sl.len (rN ⟨k,t,m,a,nilS⟩).K_)=0:=by intros;rw[zJ];rfl
  rcases c with rfl | rfl | rfl | rfl | rfl<;>
  ·simp (decide:=true) only [jr,js,jq,jp,jk,jj,hk,jo,jm];exact⟨_,S,rfl,r0⟩
 | @ret t m a x c=>
  unfold q1k q34;simp only[zj,yV];simp only[ZU];have hk:(Sl.len (rN ⟨17,t,m,a,⟨[x],true⟩⟩).K_)=1:=by intros;rw[zJ];rfl
  simp (decide:=true) only [jr,js,jq,jp,jk,jj,hk,jo,jm];grind
 |store c d=>
  unfold q1k q34;simp only[zj,yV];simp only[ZU];simp (decide:=true) only [jr,js,jq,jp,jk,jj,jo,jm];grind
 | @call t m a x c=>
  obtain⟨p,e,hc⟩:=znF h.d h.s (rN x) (by rw[zJ];grind);unfold q1k q34;simp only[zj,yV];simp only[ZU];simp (decide:=true) only [jr,js,jq,jp,jk,jj,rk0 (n:=⟨20,t,m,a,⟨[x],true⟩⟩) rfl,hc,jo,jm];grind
 | @fork t m a ks c=>
  have hkl:=@Zm ⟨19,t,m,a,ks⟩;simp only at hkl;have hrk:(rN ⟨19,t,m,a,ks⟩).K_.xs.length<=50000:=by rw[zJ];simp;omega
  unfold q1k q34;simp only[zj,yV];simp only[ZU];simp (decide:=true) only [jr,js,jq,jp,jk,jj];generalize rN ⟨19,t,m,a,ks⟩=R at *
  have hf:=h.d.f
  rcases goE (f:=q5c q3s q2r q32 q33 q1p) (n:=S.2.xs.length) (A:=Unit) (st:=λi _=>((j:Int),(i:Int),S.1,S.2,R)) (fin:=λ_ =>.inr (S.1,S.2)) (J:=λ_ _=>True) (bad:=λr=>∃e,r = .inl (e,S.1,S.2))
   (λi hi u _=>by
    unfold q5c;simp only[jl,zj];obtain⟨v1,v2,v3⟩:=h.d.v _ (gc hi);rw[jv (by simp only[zh];omega)];simp only[ze hi,jj];split
    ·obtain⟨e,he⟩:=zuq h.d R.K_ hrk hi;rw[Yr (s:=S.2.xs[i].V_) (by omega) v2 v3,jj,he,jj];grind
    ·rw[zu (by omega)]
     exact .inl ⟨(),rfl,trivial⟩)
   (λu _=>by
    unfold q5c;simp only[jl]
    rw[jx (by simp only[zh];omega)])
   (a:=()) trivial with⟨u,e,_⟩ | ⟨r,e,x,rfl⟩
  ·have e:lpO (q5c q3s q2r q32 q33 q1p) ((j:Int),0,S.1,S.2,R)=_:=e;rw[e];exact⟨_,S,rfl,r0⟩
  ·have e:lpO (q5c q3s q2r q32 q33 q1p) ((j:Int),0,S.1,S.2,R)=_:=e;grind
 | @set t m a x c=>
  obtain⟨p,e,hc⟩:=zxx h.d h.s c (kl rfl);obtain⟨i,hfi,hi1,hi2⟩:=zl9 h.d t;have hj:=h.d.j;have hb:=h.r _ (gc hj);unfold q1k q34;simp only[zj,yV];simp only[ZU,z6];simp (decide:=true) only [jr,js,jq,jp,jk,jj,rk0 (n:=⟨10,t,m,a,⟨[x],true⟩⟩) rfl,hc];by_cases h0:e=0
  rotate_left
  ·grind
  simp only[h0,Dc,jt,jr,jk,jp,hfi,jj,ze hj];by_cases h1:i < 0
  ·simp only[h1,js,jq,Dq];rw[ZA (by omega) (by omega)];refine⟨_,_,rfl,rfl,rfl,by simp[Sl.set],λk h1 h2=>?_⟩;simp only[Sl.set,Int.toNat_natCast,List.getElem_set];by_cases hij:j=k
   ·grind
   ·simp only[hij,jp];exact⟨trivial,trivial,[],by simp⟩
  ·obtain⟨k,rfl⟩:∃k:Nat,i=(k:Int):=⟨_,(D6 (by omega)).symm⟩
   simp only[h1,jr,jk,jp,ze (s:=S.2.xs[j].V_) (show k < _ by omega),jj];grind
theorem znG(a e:Int)(S:RSt):∃S',q1c (a,e,S)=q S'/\S'.1.1=S.1.1/\S'.1.2.1=S.1.2.1/\S'.2=S.2/\(e≠0->S'.1.2.2.2≠0):=by
 unfold q1c qaa;simp only[jl];by_cases h:S.1.2.2.2=0
 ·grind
 grind
noncomputable abbrev LR(F:Nat):=q3w q1k q1c (q35 F)
def zzc(m:Nat)(S:RSt)(r:RSt⊕RSt):Prop:=∃S',(r = .inl S'\/r = .inr S')/\RGr m S S'
def StR(s:Nd):Prop:=∀F (j:Nat) (S:RSt) (l:Sl RNd) (i:Nat) (hi:i < l.xs.length),l.xs[i]=rN s->l.xs.length<=50000->zl s<=F->RVc j (zl s) S->
 (∃S',LR F ((j:Int),l,(i:Int),S)=q (.next ((j:Int),l,((i+1:Nat):Int),S'))/\RGr (zl s) S S')\/∃r,LR F ((j:Int),l,(i:Int),S)=q (.done r)/\zzc (zl s) S r
def BlR(n:Nat)(ks:Sl Nd):Prop:=∀F (j:Nat) (S:RSt),n<=F->RVc j n S->∃S',q35 F ((j:Int),⟨ks.xs.map rN,ks.nn⟩,S)=q S'/\RGr n S S'
theorem zma{ks:Sl Nd}(h:∀s∈ks.xs,StR s)(hl:zd ks.xs<=40000):BlR (zd ks.xs+1) ks:=by
 intro F j S hF hv;obtain⟨F,rfl⟩:∃k,F=k+1:=⟨F - 1,by omega⟩
 have hk:=Wx ks.xs
 have key:=goE (f:=LR F) (n:=ks.xs.length) (A:=RSt) (st:=λi a=>((j:Int),⟨ks.xs.map rN,ks.nn⟩,(i:Int),a)) (fin:=λa =>.inr a) (J:=λi a=>RGr (zd (ks.xs.take i)) S a) (bad:=zzc (zd ks.xs+1) S)
  (λi hi a ha=>by
   have hz:=Y2 hi;have ha2:RVc j (zl ks.xs[i]) a:=RVc.gr (hv.mono (show zd (ks.xs.take i)+zl ks.xs[i]<=_ by omega)) ha;rcases h _ (gc hi) F j a ⟨ks.xs.map rN,ks.nn⟩ i (by simpa using hi) (by simp) (by simp;omega) (by omega) ha2 with⟨b,e,g⟩ | ⟨r,e,S',hr,g⟩
   ·refine .inl ⟨b,e,?_⟩;rw[<- D7 hi,zN];exact(ha.trans g).mono (by simp[zd])
   ·exact .inr ⟨r,e,S',hr,(ha.trans g).mono (by omega)⟩)
  (λa ha=>by
   show q3w _ _ _ _=_;unfold q3w;simp only[jl];rw[jx (by simp only[zh,Dt];omega)]
   rfl)
  (a:=S) ((RGr.refl rfl rfl rfl).mono (by omega))
 have fin':∀(o:Uv (RSt⊕RSt)) (r:RSt⊕RSt) (S':RSt),o=q r->(r = .inl S'\/r = .inr S')->(o.bind λy11=>Sum.elim (λy12=>q y12) (λy13=>q y13) y11)=q S':=by
  grind
 rcases key with⟨a,e,g⟩ | ⟨r,e,S',hr,g⟩
 ·exact⟨a,fin' _ _ a e (.inr rfl),g.mono (by grind)⟩
 ·exact⟨S',fin' _ _ S' e hr,g⟩
def vR(s:Nd):List Nd:=s.K_.xs.drop 2
theorem zaD{s:Nd}(g:StmtG s)(u:zl s<=40000)(hb:s.k_=15\/s.k_=16->2<=s.K_.xs.length/\zd (vR s)+2<=zl s/\∀b∈vR s,BlR (zl b) b.K_):StR s:=by
 intro F j S l i hi hs V Z v;have ps:=z7 s;show(∃S',q3w _ _ _ _=_/\_)\/∃r,q3w _ _ _ _=_/\_
 unfold q3w;simp only[jl,zj];rw[jv jA];simp only[jj];by_cases x:S.1.2.2.2=0
 rotate_left
 ·simp only[x,jr,jk,jp];exact .inr ⟨_,rfl,S,.inr rfl,(RGr.refl rfl rfl rfl).mono Zd⟩
 simp only[x,js,jq,ze hi,hs,jj];obtain⟨e,S1,U,o⟩:=zzb g u (v.mono Zd);rw[U,jj];by_cases h0:e=0
 rotate_left
 ·obtain⟨S2,T,K,H,M,_⟩:=znG (rN s).a_ e S1;simp only[h0,Dc,ju,jq,T,jj];exact .inr ⟨_,rfl,S2,.inl rfl,(o.trans (RGr.refl K H M)).mono Zd⟩
 simp only[h0,Dc,jt,jp,ZU];have R:=zu (Zd:i < 1000000000);have h:(s.k_=15\/s.k_=16)->∃S',lpO (q5m q1k q1c (q35 F)) ((j:Int),l,(i:Int),2,S1.1,S1.2,rN s)=q ((j:Int),l,(i:Int),S'.1,S'.2)/\RGr (zl s) S S':=by
  intro m;obtain⟨X,b2,P⟩:=hb m;have d:(rN s).K_.xs=s.K_.xs.map rN:=by rw[zJ]
  have L:(rN s).K_.xs.length=s.K_.xs.length:=by rw[d];simp
  have O:(vR s).length=s.K_.xs.length - 2:=by simp[vR]
  have z:=@Zm s
  obtain⟨S',Q,N⟩:=go (f:=q5m q1k q1c (q35 F)) (n:=(vR s).length) (A:=RSt) (st:=λk a=>((j:Int),l,(i:Int),((k+2:Nat):Int),a.1,a.2,rN s)) (fin:=λa=>((j:Int),l,(i:Int),a.1,a.2)) (J:=λk a=>RGr (1+zd ((vR s).take k)) S a)
   (λk m a t=>by
    have u:=Y2 m;have y:(vR s)[k]=s.K_.xs[k+2]' Zd:=by simp[vR,Nat.add_comm]
    obtain⟨S2,I,G⟩:=P _ (gc m) F j a Zd (RVc.gr (v.mono (Zd:(1+zd ((vR s).take k))+zl (vR s)[k]<=_)) t);refine⟨S2,?_,?_⟩
    ·unfold q5m;simp only[jl,zj];rw[jv jA,ze Zd,jj];simp only[d,List.getElem_map];rw[<- y,zJ];show((q35 F ((j:Int),_,a)).bind _)=_;rw[I,jj,zu Zd]
    ·rw[<- D7 m,zN]
     exact(t.trans G).mono (by simp only[zd];omega))
   (λa t=>by
    unfold q5m;simp only[jl,zj]
    rw[jx jA])
   (a:=S1) (o.mono Zd)
  exact⟨S',Q,N.mono jE⟩
 by_cases p:s.k_=15
 ·grind
 by_cases c:s.k_=16
 ·obtain⟨S',Y,W⟩:=h (.inr c);grind
 ·simp only[p,c,jp,jr,jk,jj,R];exact .inl ⟨S1,rfl,o.mono Zd⟩
theorem zxy{s:Nd}(h:StmtG s)(hs:zl s<=40000):StR s:=by
 have m:∀(a:Int) (b:List Nd),(∀s∈b,zl s<=40000->StR s)->zl ⟨9,lit [],0,a,mkS b⟩<=40000->BlR (zl ⟨9,lit [],0,a,mkS b⟩) (q8.mk 9 (lit []) 0 a (mkS b)).K_:=λa b r i=>by
  rw[zk] at i |-
  exact zma (λs hs=>r s hs (by have:=X5 hs;omega)) Zd
 induction h with
 | @ite op n a x y j p b2 a2 e f h1 h2 g i2=>
  refine zaD (.ite e f h1 h2) hs λ_=>?_
  have l:=z7 x;have o:=z7 y;rw[zk] at hs |-;simp only[zd] at hs;refine⟨je,by simp only[vR,E,zd];omega,λb hb=>?_⟩;rcases UU.1 hb with rfl | hb
  all_goals grind
 | @whl op n a x y j p e f h1 g=>
  refine zaD (.whl e f h1) hs λ_=>?_
  have l:=z7 x;have o:=z7 y;rw[zk] at hs |-;simp only[zd] at hs;refine⟨je,by simp only[vR,E,zd];omega,λb hb=>?_⟩;rw[Dr.1 hb];grind
 | @leaf k t n a c=>exact zaD (.leaf c) hs λh=>jE
 |ret c=>exact zaD (.ret c) hs λh=>by simp at h
 |fork c=>exact zaD (.fork c) hs λh=>by simp at h
 |call c=>exact zaD (.call c) hs λh=>by simp at h
 |store c d=>exact zaD (.store c d) hs λh=>by simp at h
 |set c=>exact zaD (.set c) hs λh=>by simp at h
theorem zxz{b:Nd}(h:zaa b)(hs:zl b<=40000):BlR (zl b) b.K_:=by
 obtain⟨a,l,rfl,d⟩:=h;rw[zk] at hs |-
 have hs:zd l+1<=40000:=hs;exact zma (λs c=>zxy (d s c) (by have:zl s<=zd l:=X5 c;omega)) jE
structure Smr(S S':RSt):Prop where
 s:S'.1.1=S.1.1
 t:S'.1.2.1=S.1.2.1
 f:S'.2=S.2
theorem Smr.refl{S:RSt}:Smr S S:=⟨rfl,rfl,rfl⟩
theorem Smr.trans{a b c:RSt}(h:Smr a b)(g:Smr b c):Smr a c:=⟨g.s.trans h.s,g.t.trans h.t,g.f.trans h.f⟩
theorem zby(a e:Int)(S:RSt):∃S',Smr S S'/\q1c (a,e,S.1,S.2)=q S'/\(e≠0->S'.1.2.2.2≠0):=by
 obtain⟨S',h,h1,h2,c,b⟩:=znG a e S;exact⟨S',⟨h1,h2,c⟩,h,b⟩
theorem zh8(c:Prop)[Decidable c](a e:Int)(S:RSt):∃S',Smr S S'/\∀(β:Type) (g:RSt->Uv β),(if c then(q1c (a,e,S.1,S.2)).bind g else g S)=g S':=by
 by_cases h:c
 ·obtain⟨S',h1,h2,_⟩:=zby a e S;grind
 ·exact⟨S,.refl,λβ g=>jx h⟩
theorem zxA(n:Ut)(z:Ut×Int)(v:Sl RP)(h:v.xs.length<=1000000):∃i,q4i (n,z,v)=q (i,z,v):=by
 have:=wh (f:=q63) (xs:=v.xs) (p:=λx=>decide (x.N_=n)) (st:=λi=>(n,(i:Int),z,v)) (yes:=λi =>.inl ((i:Int),z,v)) (no :=.inr (z,v))
  (λi hi=>by
   unfold q63;simp only[jl];rw[jv jA,ze hi,jj,jj,zu Zd]
   split<;>rfl)
  (by unfold q63;simp only[jl];rw[jx jA])
 unfold q4i qab;have this:lpO q63 (n,0,z,v)=_:=this;simp only[this];cases v.xs.findIdx? _<;>exact⟨_,rfl⟩
theorem zxB {k:Nd}(h:FnG k) (hs:zl k<=40000) {S:RSt}{t:List PT}(Q:S.1.2.1=mkS (t.map rT)) (Z:t.length<=100000) :
    ∃S' c,q4j (rN k,S)=q ((k.T_,((Xn k).length:Int)),S'.1,S'.2,c)/\Smr S S'/\(S'.1.2.2.2≠0\/(Xn k).length<=8/\c.xs.length=(Xn k).length):=by
 obtain⟨h6,ps,r,b,X,hp,hr,V,hb⟩:=h;have u:k.K_.xs.length=ps.length+2:=by rw[X];simp
 have L:Xn k=ps:=by unfold Xn;grind
 have T:=@Zm k;have R:(rN k).K_.xs=k.K_.xs.map rN:=by rw[zJ]
 have H:(rN k).K_.xs.length=k.K_.xs.length:=by rw[R];simp
 rw[L];have Y:Uw ((rN k).K_.len - 2)=(ps.length:Int):=by rw[zh,H,u,zF Zd Zd];omega
 have I:za (rN k).K_ (ps.length:Int)=q (rN r):=by rw[ze Zd];grind
 unfold q4j qac;simp only[zj];simp only[Y,jl,z6];by_cases N:8 < (ps.length:Int)
 ·obtain⟨S',s1,j,e2⟩:=zby (rN k).a_ 22 S;have j:q1c ((rN k).a_,22,S)=_:=j;simp only[N,jq,j,jj];grind
 simp only[N,jp]
 obtain⟨⟨S1,c⟩,j,s1,O⟩:=go (f:=q64 q1c q4i q1b) (n:=ps.length) (A:=RSt×Sl RP)
  (st:=λi a=>((ps.length:Int),(i:Int),a.1.1,a.1.2,rN k,(lit [],0),(k.T_,(ps.length:Int)),a.2)) (fin:=λa=>((ps.length:Int),a.1.1,a.1.2,rN k,(lit [],0),(k.T_,(ps.length:Int)),a.2))
  (J:=λi a=>Smr S a.1/\a.2.xs.length=i)
  (λi hi a M=>by
    obtain⟨a,c⟩:=a;obtain⟨d,p⟩:=M;simp only at p d;obtain⟨_,m,W,s⟩:=hp _ (gc hi);have P:za (rN k).K_ (i:Int)=q (rN ps[i]):=by
     rw[ze Zd];grind
    obtain⟨x,K⟩:=zxA ps[i].T_ (k.T_,(ps.length:Int)) c Zd;obtain⟨o,g,z⟩:=zh8 (0<=x) (rN ps[i]).a_ 30 a;unfold q64;simp only[jl,zj];rw[jv Zd];simp only[P,jj,rk0 W];simp only[z6,K,jj,zj];rw[z];simp only[jj];have F:=zu (Zd:i < 1000000000);have e:m.T_=lit [105,110,116]\/m.T_=lit [111,119,110]\/m.T_=lit [38]\/m.T_=lit [38,109,117,116]:=by
     rcases s.2 with⟨h1,_⟩ | ⟨h1,_⟩
     all_goals grind
    rcases e with e | e | e | e
    ·simp (decide:=true) only [e,Z9,jp,jr,jk,jj,z6];rw[ZA Zd Zd];simp only[jj,F];exact⟨(o,_),rfl,d.trans g,by simp[p]⟩
    · obtain⟨y,U⟩:=zl8 s e;obtain⟨a2,v,l⟩:=zh8 (idT y.T_ t < 0) (rN m).a_ 31 o;have G:o.1.2.1=mkS (t.map rT):=by rw[g.t,d.t,Q]
      simp (decide:=true) only [e,Z9,jp,jr,jk,jj,z6,jq,rk0 U,G,zaB t _ (Zd:t.length<=1000000)];rw[l];simp only[jj];rw[ZA Zd Zd];simp only[jj,F];exact⟨(a2,_),rfl,(d.trans g).trans v,by simp[p]⟩
    ·obtain⟨a2,v,l,_⟩:=zby (rN m).a_ 34 o;simp (decide:=true) only [e,Z9,jp,jq,jr,jk,jj,z6,l];rw[ZA Zd Zd];simp only[jj,F];exact⟨(a2,_),rfl,(d.trans g).trans v,by simp[p]⟩
    · obtain⟨a2,v,l,_⟩:=zby (rN m).a_ 34 o;simp (decide:=true) only [e,Z9,jp,jq,js,jr,jk,jj,z6,l];rw[ZA Zd Zd];simp only[jj,F]
      exact⟨(a2,_),rfl,(d.trans g).trans v,by simp[p]⟩)
  (λa M=>by
    unfold q64;simp only[jl,zj]
    grind)
  (a:=(S,Sl.mk [] false)) ⟨.refl,je⟩
 have j:lpO (q64 q1c q4i q1b) ((ps.length:Int),0,S.1,S.2,rN k,(lit [],0),(k.T_,(ps.length:Int)),Sl.mk [] false)=_:=j;rw[j];simp only[jj,I];obtain⟨S2,g,z⟩:=zh8 (¬(rN r).T_=lit []) (rN r).a_ 35 S1;simp only[z6,Dc] at z |-
 rw[z];exact⟨S2,c,rfl,s1.trans g,.inr ⟨Zd,O⟩⟩
structure RFnR(m:Nat)(k:Nd)(f:RFt):Prop where
 g:FnG k
 p:f.P_=((Xn k).length:Int)
 l:(Xn k).length<=8
 v:(Xn k).length<=f.V_.xs.length/\f.V_.xs.length<=(Xn k).length+m
def yW(m:Nat)(ks:List Nd)(fs:List RFt):Prop:=∃h:fs.length=ks.length,∀i (hi:i < ks.length),RFnR m ks[i] (fs[i]' Zd)
theorem yW.mono{fs:List RFt}(h:yW m ks fs)(e:m<=k):yW k ks fs:=⟨h.1,λi hi=>by obtain⟨a,b,c,d⟩:=h.2 i hi;exact⟨a,b,c,Zd⟩⟩
theorem yW.snoc{fs:List RFt}{k:Nd}{f:RFt}(h:yW m ks fs)(g:RFnR m k f):yW m (ks++[k]) (fs++[f]):=by
 have a:=h.1;refine⟨by simp[a],λi hi=>?_⟩;rw[jy,g9] at hi;by_cases c:i < ks.length
 ·rw[D c,D Zd];exact h.2 i c
 ·obtain rfl:i=ks.length:=Zd
  rw[C (UD _),C Zd];grind
theorem yW.vc{S:RSt}(h:yW m ks S.2.xs)(hs:S.1.1.xs.length<=50000)(c:ks.length<=50000)(e:m+5000<=50000){i:Nat}(hi:i < ks.length):RVc i 5000 S:=by
 have key:∀f∈S.2.xs,f.V_.xs.length<=m+8/\0<=f.P_/\f.P_<=f.V_.xs.length:=by
  intro f a;obtain⟨j,b,rfl⟩:=B a;have r:=h.2 j (by rw[<- h.1];exact b);have d:=r.v;have g:=r.l;have hp:=r.p;grind
 exact⟨⟨by rw[h.1];exact hi,λf a=>⟨jE,(key f a).2⟩,by rw[h.1];exact c⟩,λf a=>jE,hs⟩
theorem yW.gr{a b:RSt}(h:yW m ks a.2.xs)(g:RGr k a b):yW (m+k) ks b.2.xs:=
 ⟨g.l.trans h.1,λi hi=>by
  have r:=h.2 i hi;obtain⟨_,g2,d,c,e⟩:=g.f i jE (by rw[g.l,h.1];exact hi);have j:=r.v;have c:=congrArg w c;rw[jy] at c
  exact⟨r.g,g2.trans r.p,r.l,Zd⟩⟩
noncomputable abbrev RC0:=q3x q1c q4j q4z q2m
noncomputable abbrev RC1:=q3y q1c q4j q4z q2m
theorem zxC (m:UnitG n) (b:Sl RSg) (t:List PT) (u:t.length<=100000) :
    ∃S:RSt,lpO RC0 (0,rN n,(b,mkS (t.map rT),0,0),Sl.mk [] false)=q (rN n,S)/\S.1.1=b/\S.1.2.1=mkS (t.map rT)/\(S.1.2.2.2=0->yW 0 n.K_.xs S.2.xs):=by
 have G:=@Zm n;have x:=m.size;have y:(rN n).K_.xs=n.K_.xs.map rN:=by rw[zJ]
 have z:(rN n).K_.xs.length=n.K_.xs.length:=by rw[y];simp
 rcases goE (f:=RC0) (n:=n.K_.xs.length) (A:=RSt) (st:=λi a=>((i:Int),rN n,a)) (fin:=λa=>(rN n,a)) (J:=λi a=>a.1.1=b/\a.1.2.1=mkS (t.map rT)/\a.2.xs.length<=i/\(a.1.2.2.2=0->yW 0 (n.K_.xs.take i) a.2.xs)) (bad:=λr=>∃S:RSt,r=(rN n,S)/\S.1.1=b/\S.1.2.1=mkS (t.map rT)/\S.1.2.2.2≠0)
  (λi hi S l=>by
    obtain⟨k,a2,a3,a4⟩:=l;show(∃a',q3x _ _ _ _ _=_/\_)\/∃r,q3x _ _ _ _ _=_/\_
    unfold q3x;simp only[jl,zj];rw[jv jA];simp only[jj];by_cases p:S.1.2.2.2=0
    rotate_left
    ·grind
    have v:za (rN n).K_ (i:Int)=q (rN n.K_.xs[i]):=by rw[ze Zd];grind
    simp only[p,js,jq,v,jj,ZU];by_cases j:n.K_.xs[i].k_=6
    rotate_left
    ·obtain⟨S',s1,d,H⟩:=zby (rN n.K_.xs[i]).a_ 50 S;have d:q1c ((rN n.K_.xs[i]).a_,50,S)=_:=d;simp only[j,Dc,ju,jq,d,jj];exact .inr ⟨_,rfl,S',rfl,s1.s.trans k,s1.t.trans a2,H jI⟩
    have o:FnG n.K_.xs[i]:=by
     rcases m.kid _ (gc hi) with h | h
     ·exact absurd h.1 jE
     ·exact h
    obtain⟨S',g,e,s1,c⟩:=zxB o (by have:=ZY (gc hi);omega) a2 u;have I:S'.2.xs.length<=i:=by rw[s1.f];exact a3
    simp only[j,Dc,jt,jp,e,jj];rw[ZA Zd Zd,jj,zu Zd];refine .inl ⟨(S'.1,_),rfl,s1.s.trans k,s1.t.trans a2,jE,λh0=>?_⟩;rcases c with c | ⟨F,c⟩
    ·grind
    rw[<- D7 hi];simp only[s1.f]
    exact(a4 p).snoc ⟨o,rfl,F,by simp only;omega⟩)
  (λS l=>by
    show q3x _ _ _ _ _=_;unfold q3x;simp only[jl,zj];rw[jx jA]
    rfl)
  (a:=((b,mkS (t.map rT),0,0),Sl.mk [] false)) ⟨rfl,rfl,je,λ_=>⟨je,λi hi=>by simp at hi⟩⟩ with⟨S,e,h1,h2,_,h3⟩ | ⟨r,e,S,rfl,h1,h2,h3⟩
 all_goals grind
theorem zxD (V:UnitG n) {S0:RSt}(hs:S0.1.1.xs.length<=50000) (h0:S0.1.2.2.2=0->yW 0 n.K_.xs S0.2.xs) :
    ∃S:RSt,lpO RC1 (0,rN n,S0)=q S/\(S.1.2.2.2=0->yW 5000 n.K_.xs S.2.xs):=by
 have U:=@Zm n;have N:=V.size;have X:=zk n;have O:(rN n).K_.xs=n.K_.xs.map rN:=by rw[zJ]
 have R:(rN n).K_.xs.length=n.K_.xs.length:=by rw[O];simp
 rcases goE (f:=RC1) (n:=n.K_.xs.length) (A:=RSt) (st:=λi a=>((i:Int),rN n,a)) (fin:=λa=>a) (J:=λi a=>a.1.1.xs.length<=50000/\(a.1.2.2.2=0->yW (zd (n.K_.xs.take i)) n.K_.xs a.2.xs)) (bad:=λr=>r.1.2.2.2≠0)
  (λi hi S G=>by
    obtain⟨F,a4⟩:=G;have M:=Y2 hi;show(∃a',q3y _ _ _ _ _=_/\_)\/∃r,q3y _ _ _ _ _=_/\_
    unfold q3y;simp only[jl,zj];rw[jv jA];simp only[jj];by_cases I:S.1.2.2.2=0
    rotate_left
    ·grind
    have p:=a4 I;have r:=p.2 i hi;obtain⟨_,ps,Z,b,H,_,_,_,hb⟩:=r.g;have o:n.K_.xs[i].K_.xs.length=ps.length+2:=by rw[H];simp
    have P:=@Zm n.K_.xs[i];have L:=ZY (n:=n.K_.xs[i]) (k:=b) (by rw[H];simp);have u:(rN n.K_.xs[i]).K_.xs=n.K_.xs[i].K_.xs.map rN:=by rw[zJ]
    have m:(rN n.K_.xs[i]).K_.xs.length=n.K_.xs[i].K_.xs.length:=by rw[u];simp
    have t:za (rN n.K_.xs[i]).K_ (Uw ((rN n.K_.xs[i]).K_.len - 1))=q (rN b):=by
     rw[zh,m,o,zF Zd Zd,(Zd:(((ps.length+2:Nat):Int) - 1)=((ps.length+1:Nat):Int)),ze Zd];grind
    have K:za (rN n).K_ (i:Int)=q (rN n.K_.xs[i]):=by rw[ze Zd];grind
    have Q:=p.1;simp only[I,js,jq,K,jj,ze (s:=S.2) (Zd:i < _),t];have vc:RVc i 5000 S:=p.vc F Zd Zd hi;obtain⟨S1,e,g⟩:=zxz hb Zd 100000 i S Zd (vc.mono Zd);rw[<- zJ] at e;have e:q4z ((i:Int),(rN b).K_,S)=_:=e;have gl:S1.2.xs.length=S.2.xs.length:=g.l;have x:i < S1.2.xs.length:=Zd
    have d:FnG n.K_.xs[i]->yW (zd (n.K_.xs.take (i+1))) n.K_.xs S1.2.xs:=by
     intro _;rw[<- D7 hi,zN];exact(yW.gr p g).mono (by simp only[zd];omega)
    have d:=d r.g;obtain⟨T,y⟩:=znD r.g Zd;have z:S1.1.1.xs.length<=50000:=by rw[g.s];exact F
    have W:=zu (Zd:i < 1000000000);simp only[e,jj,y,ze x];have tail:∀c:Bool,∃a':RSt,(((if c=true then(q1c ((rN n.K_.xs[i]).a_,22,S1.1,S1.2)).bind λv=>q ((i:Int),rN n,v) else q ((i:Int),rN n,S1.1,S1.2)).bind λj:Int×RNd×RSt=>q (Step.next (Uw (j.1+1),j.2.1,j.2.2):Step _ RSt)))=q (.next (((i+1:Nat):Int),rN n,a'))/\a'.1.1.xs.length<=50000/\(a'.1.2.2.2=0->yW (zd (n.K_.xs.take (i+1))) n.K_.xs a'.2.xs):=by
     intro c;cases c
     ·grind
     ·obtain⟨S',s1,y,Y⟩:=zby (rN n.K_.xs[i]).a_ 22 S1;simp only[jq,y,jj,W];exact⟨S',rfl,by rw[s1.s];exact z,λ_=>jE⟩
    by_cases h64:64 < Sl.len S1.2.xs[i].V_
    ·simp only[h64,jq,jj];exact .inl (tail true)
    · simp only[h64,jp,jj]
      exact .inl (tail (decide (512 < Sl.len T.2.2))))
  (λS G=>by
    show q3y _ _ _ _ _=_;unfold q3y;simp only[jl,zj];rw[jx jA]
    rfl)
  (a:=S0) ⟨hs,by simpa[zd] using h0⟩ with⟨S,e,h1,h3⟩ | ⟨r,e,h3⟩
 ·rw[Dl] at h3;exact⟨S,e,λh=>(h3 h).mono Zd⟩
 grind
theorem zr9 (b:UnitG n) (a:Sl RSg) (t:List PT) (hs:a.xs.length<=50000) (c:t.length<=100000) :
    ∃S:RSt,q48 (rN n,a,mkS (t.map rT))=q S/\(S.1.2.2.2≠0/\S.2.xs=[]\/S.1.2.2.2=0/\yW 5000 n.K_.xs S.2.xs):=by
 obtain⟨S1,e,h1,h2,f⟩:=zxC b a t c;obtain⟨S2,d,g⟩:=zxD b (S0:=S1) jE f;unfold q48 q90;simp only[zj,jl];rw[e];simp only[jj];rw[d];simp only[jj];by_cases h:S2.1.2.2.2=0
 ·grind
 grind
end Go.Px
