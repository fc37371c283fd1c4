/- Part Lh. -/
import Derived.Test.YtnkjgenigoecjaaGreatDoorLg
set_option linter.unusedVariables false
set_option linter.unusedSimpArgs false
namespace Go.Px
open List renaming length->w,getElem_of_mem->B,getElem_append_right->C,getElem_append_left->D,drop->E
open _root_.Option renaming some->q
variable{j k m:Nat}{ks:List Nd}{n:Nd}
abbrev RFt:=qg
abbrev RSt:=(Sl RSg×Sl RTy×Int×Int)×Sl RFt
structure RVd(j:Nat)(fs:Sl RFt):Prop where
 j:j < fs.xs.length
 v:∀f∈fs.xs,f.V_.xs.length<=60000/\0<=f.P_/\f.P_<=f.V_.xs.length
 f:fs.xs.length<=50000
theorem zmz{fs:Sl RFt}(h:RVd j fs)(n:U5):∃i:Int,q2j ((j:Int),n,fs)=q (i,fs)/\ -1<=i/\i < (fs.xs[j]'h.j).V_.xs.length:=by
 have hj:=h.j;have hv:=(h.v _ (gc hj)).1
 have:=wm (f:=q4p) (xs:=fs.xs[j].V_.xs) (p:=λx=>decide (x.N_=n)) (st:=λi=>((j:Int),n,(i:Int),fs)) (yes:=λi =>.inl ((i:Int),fs)) (no :=.inr fs)
  (λi hi=>by
   unfold q4p;simp only[jl,zg hj,jj];rw[jv (by simp only[zj];omega)];simp only[zg hi,jj,zw (show i < 1000000000 by omega)]
   grind)
  (by
   unfold q4p;simp only[jl,zg hj,jj]
   rw[jx (by simp only[zj];omega)])
 refine⟨idx (λx=>decide (x.N_=n)) fs.xs[j].V_.xs,?_,yz.1,yz.2.1⟩;unfold q2j q7s;have this:lpO q4p ((j:Int),n,0,fs)=_:=this;simp only[this];unfold idx;cases fs.xs[j].V_.xs.findIdx? _<;>rfl
theorem zev{fs:Sl RFt}(h:RVd j fs)(n:U5):∃p e,q4u ((j:Int),n,fs)=q (p,e,fs):=by
 obtain⟨i,e,h1,h2⟩:=zmz h n;have hj:=h.j;unfold q4u q9g;simp only[e,jj,jl];by_cases h0:i < 0
 ·simp only[h0,jq];grind
 obtain⟨k,rfl⟩:∃k:Nat,i=(k:Int):=⟨_,(DH (by omega)).symm⟩
 simp only[h0,jp,zg hj,jj,zg (s:=fs.xs[j].V_) (show k < _ by omega)];grind
theorem zew{fs:Sl RFt}(h:RVd j fs)(n:RNd)(p:RP):∃e,q1m ((j:Int),n,p,fs)=q (e,fs):=by
 obtain⟨k,e,hk⟩:=zev h n.T_;unfold q1m q9h;simp only[zi,jl];by_cases h1:n.T_=lit []
 ·simp only[h1,jq];by_cases h2:p.M_=1
  ·grind
  grind
 simp only[h1,jp,jj,jm,hk];by_cases h3:e=0
 rotate_left
 ·grind
 simp (decide:=true) only [h3,Dm,jt,jp];by_cases h4:p.M_=1
 ·simp only[h4,jq];by_cases h5:k.M_=1
  ·grind
  grind
 simp only[h4,jp,jj,jm];have fin':∀(b:Bool),∃e,((if¬n.n_=0 then q (true,fs) else if¬k.t_=p.t_ then q (true,fs) else if¬k.M_=p.M_ then q (!b,fs) else q (false,fs)).bind λy8:Bool×Sl RFt=>if y8.1=true then q ((40:Int),y8.2) else q (0,y8.2))=q (e,fs):=by
  intro b;split
  ·grind
  grind
 by_cases h6:p.M_=3
 ·grind
 grind
theorem zyz{fs:Sl RFt}(h:RVd j fs)(l:Sl RNd)(p:Sl RP)(hl:l.xs.length<=50000):∃e,q3f ((j:Int),l,p,fs)=q (e,fs):=by
 unfold q3f q9i;simp only[jl];by_cases hlen:Sl.len l=Sl.len p
 rotate_left
 ·simp only[hlen,Dm,ju,jq];grind
 simp only[hlen,Dm,jt,jp];simp only[zj] at hlen
 rcases goE (f:=q72 q1m) (n:=l.xs.length) (A:=Sl RFt) (st:=λi a=>((j:Int),l,p,(i:Int),a)) (fin:=λa =>.inr a) (J:=λi a=>a=fs) (bad:=λr=>∃e,r = .inl (e,fs))
  (λi hi a ha=>by
   subst ha;unfold q72;simp only[jl,zi];rw[jv (by simp only[zj];omega),zg hi,jj,zg (s:=p) (show i < _ by omega),jj];obtain⟨e,he⟩:=zew h l.xs[i] (p.xs[i]'(by omega));rw[he,jj];by_cases h0:e=0
   ·simp only[h0,Dm,jt,jp,zw (show i < 1000000000 by omega)];grind
   grind)
  (λa ha=>by
   unfold q72;simp only[jl]
   rw[jx (by simp only[zj];omega)])
  (a:=fs) rfl with⟨a,e,rfl⟩ | ⟨r,e,x,rfl⟩
 ·grind
 grind
theorem zn3{S:RSt}(h:RVd j S.2)(hs:S.1.1.xs.length<=50000)(n:RNd)(hn:n.K_.xs.length<=50000):∃p e,q2u ((j:Int),n,S)=q (p,e,S):=by
 unfold q2u q9j;simp only[zi]
 rcases goE (f:=q4h q3f) (n:=S.1.1.xs.length) (A:=Unit) (st:=λi _=>((j:Int),(i:Int),S.1,S.2,n,qi.mk (lit []) 0 0)) (fin:=λ_ =>.inr (S.1,S.2,qi.mk (lit []) 0 0)) (J:=λ_ _=>True) (bad:=λr=>∃e p,r = .inl (e,S.1,S.2,p))
  (λi hi a _=>by
   unfold q4h;simp only[jl,zi];rw[jv (by simp only[zj];omega),zg hi,jj];split
   ·rw[jj];obtain⟨e,he⟩:=zyz h n.K_ S.1.1.xs[i].P_ hn;grind
   ·rw[zw (by omega)]
    exact .inl ⟨(),rfl,trivial⟩)
  (λa _=>by
   unfold q4h;simp only[jl]
   rw[jx (by simp only[zj];omega)])
  (a:=()) trivial with⟨a,e,_⟩ | ⟨r,e,x,p,rfl⟩
 ·have e:lpO (q4h q3f) ((j:Int),0,S.1,S.2,n,qi.mk (lit []) 0 0)=_:=e;rw[e];exact⟨_,_,rfl⟩
 ·have e:lpO (q4h q3f) ((j:Int),0,S.1,S.2,n,qi.mk (lit []) 0 0)=_:=e;rw[e];exact⟨_,_,rfl⟩
theorem zvf{fs:Sl RFt}(h:RVd j fs)(l:Sl RNd)(hl:l.xs.length<=50000)(hk:k < fs.xs.length):∃e,q2v ((j:Int),l,((k:Int),0,fs.xs[k].P_),fs)=q (e,fs):=by
 obtain⟨v1,v2,v3⟩:=h.v _ (gc hk);have hgs:=YV (s:=fs.xs[k].V_) (lo:=0) (hi:=fs.xs[k].P_) (by omega) v2 v3;rw[show(0:Int).toNat=0 from rfl,Dv] at hgs;unfold q2v q7t;simp only[jl,zg hk,hgs,jj];by_cases hlen:Sl.len l=fs.xs[k].P_ - 0
 rotate_left
 ·simp only[hlen,Dm,ju,jq];grind
 simp only[hlen,Dm,jt,jp];simp only[zj] at hlen
 rcases goE (f:=q3y q1m) (n:=l.xs.length) (A:=Sl RFt) (st:=λi a=>((j:Int),l,((k:Int),0,fs.xs[k].P_),(i:Int),a)) (fin:=λa =>.inr a) (J:=λi a=>a=fs) (bad:=λr=>∃e,r = .inl (e,fs))
  (λi hi a ha=>by
   subst ha;unfold q3y;simp only[jl,zi];have hi2:i < a.xs[k].V_.xs.length:=by omega
   rw[jv (by simp only[zj];omega),zg hi,jj,zg hk,jj,hgs,jj];rw[zg (s:=⟨_,_⟩) (by grind)];simp only[jj,Int.zero_add];rw[zg hi2,jj];obtain⟨e,he⟩:=zew h l.xs[i] (a.xs[k].V_.xs[i]);rw[he,jj];by_cases h0:e=0
   ·simp only[h0,Dm,jt,jp,zw (show i < 1000000000 by omega)];grind
   grind)
  (λa ha=>by
   unfold q3y;simp only[jl]
   rw[jx (by simp only[zj];omega)])
  (a:=fs) rfl with⟨a,e,rfl⟩ | ⟨r,e,x,rfl⟩
 ·have e:lpO (q3y q1m) ((j:Int),l,((k:Int),0,a.xs[k].P_),0,a)=_:=e;grind
 ·have e:lpO (q3y q1m) ((j:Int),l,((k:Int),0,fs.xs[k].P_),0,fs)=_:=e;grind
theorem zyA{S:RSt}(h:RVd j S.2)(hs:S.1.1.xs.length<=50000)(g:ExprG n)(hn:n.K_.xs.length<=50000):∃p e,q3g ((j:Int),rN n,S)=q (p,e,S):=by
 have elim_inl:∀{α β γ:Type} (f:α->γ) (g:β->γ) (a:α),Sum.elim f g (.inl a)=f a:=λ_ _ _=>rfl
 unfold q3g q9k;simp only[zi,yS];simp only[ZT,zZ];obtain⟨k,e,hk⟩:=zev h n.T_;cases g with
 |term h5 h0=>
  simp only[h5,js,jq];by_cases ht:n.T_=lit []
  ·simp only[ht,js,jq,jj,jo];grind
  simp only[ht,jr,jk,jp,hk,jj];by_cases h1:e=0
  ·simp only[h1,js,jq];by_cases h2:(rN n).n_=0
   ·simp only[h2,Dm,jt,jr,jk,jp,jj,jo];grind
   ·simp only[h2,Dm,ju,js,jq,jj];by_cases h3:k.M_=1
    ·simp only[h3,jt,jr,jk,jp,jj,jo];grind
    ·simp only[h3,ju,js,jq,jj,jo];grind
  ·simp only[h1,jr,jk,jp,jj,jo];grind
 |leaf h5 h0=>
  rcases h5 with h5 | h5 | h5 | h5
  ·simp (decide:=true) only [h5,jr,js,jq,jp,jk,jj,jm];grind
  ·simp (decide:=true) only [h5,jr,js,jq,jp,jk,jj,jm];grind
  all_goals
   simp (decide:=true) only [h5,jr,js,jq,jp,jk,jj,zZ,ZT,hk];by_cases h1:e=0
   ·simp only[h1,Dm,jt,jr,jk,jp];by_cases h2:k.M_=2
    ·simp only[h2,jt,jr,jk,jp,jj,jo];grind
    ·simp only[h2,ju,js,jq,jj,jo];grind
   ·simp only[h1,Dm,ju,js,jq,jj,jo];grind
 |call h5=>
  obtain⟨p,e,hc⟩:=zn3 h hs (rN n) (by rw[zF];simpa using hn);simp (decide:=true) only [h5.1,jr,js,jq,jp,jk,jj,hc];by_cases h1:e=0
  ·simp only[h1,js,jq,jj];by_cases h2:p.M_=0
   ·grind
   grind
  grind
 |load h5 _ _=>
  simp (decide:=true) only [h5,jr,js,jq,jp,jk,jj,jm];grind
 | @two x y h5 h6 _ _=>
  obtain⟨k1,e1,hk1⟩:=zev h x.T_;obtain⟨k2,e2,hk2⟩:=zev h y.T_;rcases h5 with h5 | h5<;>
  ·simp (decide:=true) only [h5,jr,js,jq,jp,jk,jj,rk0 h6,rk1 h6,zZ,hk1];by_cases h1:e1=0
   rotate_left
   ·simp only[h1,Dm,ju,js,jq,jj,jo];grind
   simp only[h1,Dm,jt,jr,jk,jp,hk2,jj];by_cases h2:e2=0
   rotate_left
   ·simp only[h2,Dm,ju,js,jq,jj,jo];grind
   simp only[h2,Dm,jt,jr,jk,jp];by_cases h3:k1.M_=1<;>by_cases h4:k2.M_=1<;>
   ·simp only[h3,h4,jt,ju,js,jr,jk,jq,jp,jj,jo];exact⟨_,_,rfl⟩
structure RGr(m:Nat)(a b:RSt):Prop where
 s:b.1.1=a.1.1
 t:b.1.2.1=a.1.2.1
 l:b.2.xs.length=a.2.xs.length
 f:∀i (h:i < a.2.xs.length) (h':i < b.2.xs.length),b.2.xs[i].N_=a.2.xs[i].N_/\b.2.xs[i].P_=a.2.xs[i].P_/\∃ex,b.2.xs[i].V_.xs=a.2.xs[i].V_.xs++ex/\ex.length<=m
theorem RGr.refl{a b:RSt}(h1:b.1.1=a.1.1)(h2:b.1.2.1=a.1.2.1)(h4:b.2=a.2):RGr 0 a b:=
 ⟨h1,h2,by rw[h4],λi h h'=>by simp only[h4];exact⟨trivial,trivial,[],by simp⟩⟩
theorem RGr.trans{a b c:RSt}(h:RGr m a b)(g:RGr k b c):RGr (m+k) a c:=
 ⟨g.s.trans h.s,g.t.trans h.t,g.l.trans h.l,λi h1 h2=>by
  have hb:i < b.2.xs.length:=by rw[h.l];exact h1
  obtain⟨n1,p1,x1,v1,l1⟩:=h.f i h1 hb;obtain⟨n2,p2,x2,v2,l2⟩:=g.f i hb h2
  grind⟩
theorem RGr.mono{a b:RSt}(h:RGr m a b)(hm:m<=k):RGr k a b:=
 ⟨h.s,h.t,h.l,λi h1 h2=>by obtain⟨n1,p1,x1,v1,l1⟩:=h.f i h1 h2;grind⟩
structure RVc(j k:Nat)(S:RSt):Prop where
 d:RVd j S.2
 r:∀f∈S.2.xs,f.V_.xs.length+k<=60000
 s:S.1.1.xs.length<=50000
theorem RVc.gr{a b:RSt}(h:RVc j (m+k) a)(g:RGr m a b):RVc j k b:=by
 have key:∀f∈b.2.xs,f.V_.xs.length+k<=60000/\0<=f.P_/\f.P_<=f.V_.xs.length:=by
  intro f hf;obtain⟨i,hi,rfl⟩:=B hf;have ha:i < a.2.xs.length:=by rw[<- g.l];exact hi
  obtain⟨n1,p1,x1,v1,l1⟩:=g.f i ha hi;have h1:=h.r _ (gc ha);have h2:=h.d.v _ (gc ha);have h3:=congrArg w v1;grind
 exact⟨⟨by rw[g.l];exact h.d.j,λf hf=>⟨by grind,(key f hf).2⟩,by rw[g.l];exact h.d.f⟩,λf hf=>(key f hf).1,by rw[g.s];exact h.s⟩
theorem RVc.mono{a:RSt}(h:RVc j m a)(hk:k<=m):RVc j k a:=⟨h.d,λf hf=>by have:=h.r f hf;omega,h.s⟩
theorem zAg{S:RSt}(g:StmtG n)(hz:zl n<=40000)(h:RVc j 1 S):∃e S',q1i ((j:Int),rN n,S)=q (e,S')/\RGr 1 S S':=by
 have r0:RGr 1 S S:=(RGr.refl rfl rfl rfl).mono (by omega);have kl:∀{k:Nd},n.K_=⟨[k],true⟩->k.K_.xs.length<=50000:=λe=>zif e hz
 have two:∀(x y:Nd) (l:List Nd),n.K_=⟨x::y::l,true⟩->n.k_=15\/n.k_=16->∃e S',q1i ((j:Int),rN n,S)=q (e,S')/\RGr 1 S S':=by
  intro x y l hk hn;obtain⟨e1,h1⟩:=zew h.d (rN x) ⟨lit [],1,0⟩;obtain⟨e2,h2⟩:=zew h.d (rN y) ⟨lit [],1,0⟩;unfold q1i q2w;simp only[zi,yS];simp only[ZT];rcases hn with hn | hn<;>
  ·simp (decide:=true) only [hn,jr,js,jq,jp,jk,jj,rk0 hk,rk1 hk,h1];by_cases h3:e1=0
   ·simp only[h3,Dm,jt,jr,jk,jp,h2,jj,jo];grind
   ·simp only[h3,Dm,ju,js,jq,jj,jo];grind
 cases g with
 |ite=>grind
 |whl=>grind
 | @leaf k t m a c=>
  unfold q1i q2w;simp only[zi,yS];simp only[ZT];have hk:∀k:Int,(Sl.len (rN ⟨k,t,m,a,nilS⟩).K_)=0:=by intros;rw[zF];rfl
  rcases c with rfl | rfl | rfl | rfl | rfl<;>
  ·simp (decide:=true) only [jr,js,jq,jp,jk,jj,hk,jo,jm];exact⟨_,S,rfl,r0⟩
 | @ret t m a x c=>
  unfold q1i q2w;simp only[zi,yS];simp only[ZT];have hk:(Sl.len (rN ⟨17,t,m,a,⟨[x],true⟩⟩).K_)=1:=by intros;rw[zF];rfl
  simp (decide:=true) only [jr,js,jq,jp,jk,jj,hk,jo,jm];grind
 |store c d=>
  unfold q1i q2w;simp only[zi,yS];simp only[ZT];simp (decide:=true) only [jr,js,jq,jp,jk,jj,jo,jm];grind
 | @call t m a x c=>
  obtain⟨p,e,hc⟩:=zn3 h.d h.s (rN x) (by rw[zF];grind);unfold q1i q2w;simp only[zi,yS];simp only[ZT];simp (decide:=true) only [jr,js,jq,jp,jk,jj,rk0 (n:=⟨20,t,m,a,⟨[x],true⟩⟩) rfl,hc,jo,jm];grind
 | @fork t m a ks c=>
  have hkl:=@Zl ⟨19,t,m,a,ks⟩;simp only at hkl;have hrk:(rN ⟨19,t,m,a,ks⟩).K_.xs.length<=50000:=by rw[zF];simp;omega
  unfold q1i q2w;simp only[zi,yS];simp only[ZT];simp (decide:=true) only [jr,js,jq,jp,jk,jj];generalize rN ⟨19,t,m,a,ks⟩=R at *
  have hf:=h.d.f
  rcases goE (f:=q4v q3g q2j q2u q2v q1m) (n:=S.2.xs.length) (A:=Unit) (st:=λi _=>((j:Int),(i:Int),S.1,S.2,R)) (fin:=λ_ =>.inr (S.1,S.2)) (J:=λ_ _=>True) (bad:=λr=>∃e,r = .inl (e,S.1,S.2))
   (λi hi u _=>by
    unfold q4v;simp only[jl,zi];obtain⟨v1,v2,v3⟩:=h.d.v _ (gc hi);rw[jv (by simp only[zj];omega)];simp only[zg hi,jj];split
    ·obtain⟨e,he⟩:=zvf h.d R.K_ hrk hi;rw[YV (s:=S.2.xs[i].V_) (by omega) v2 v3,jj,he,jj];grind
    ·rw[zw (by omega)]
     exact .inl ⟨(),rfl,trivial⟩)
   (λu _=>by
    unfold q4v;simp only[jl]
    rw[jx (by simp only[zj];omega)])
   (a:=()) trivial with⟨u,e,_⟩ | ⟨r,e,x,rfl⟩
  ·have e:lpO (q4v q3g q2j q2u q2v q1m) ((j:Int),0,S.1,S.2,R)=_:=e;rw[e];exact⟨_,S,rfl,r0⟩
  ·have e:lpO (q4v q3g q2j q2u q2v q1m) ((j:Int),0,S.1,S.2,R)=_:=e;grind
 | @set t m a x c=>
  obtain⟨p,e,hc⟩:=zyA h.d h.s c (kl rfl);obtain⟨i,hfi,hi1,hi2⟩:=zmz h.d t;have hj:=h.d.j;have hb:=h.r _ (gc hj);unfold q1i q2w;simp only[zi,yS];simp only[ZT,zZ];simp (decide:=true) only [jr,js,jq,jp,jk,jj,rk0 (n:=⟨10,t,m,a,⟨[x],true⟩⟩) rfl,hc];by_cases h0:e=0
  rotate_left
  ·grind
  simp only[h0,Dm,jt,jr,jk,jp,hfi,jj,zg hj];by_cases h1:i < 0
  ·simp only[h1,js,jq,D1];rw[Zz (by omega) (by omega)];refine⟨_,_,rfl,rfl,rfl,by simp[Sl.set],λk h1 h2=>?_⟩;simp only[Sl.set,Int.toNat_natCast,List.getElem_set];by_cases hij:j=k
   ·grind
   ·simp only[hij,jp];exact⟨trivial,trivial,[],by simp⟩
  ·obtain⟨k,rfl⟩:∃k:Nat,i=(k:Int):=⟨_,(DH (by omega)).symm⟩
   simp only[h1,jr,jk,jp,zg (s:=S.2.xs[j].V_) (show k < _ by omega),jj];grind
theorem zn4(a e:Int)(S:RSt):∃S',q1b (a,e,S)=q S'/\S'.1.1=S.1.1/\S'.1.2.1=S.1.2.1/\S'.2=S.2/\(e≠0->S'.1.2.2.2≠0):=by
 unfold q1b q9l;simp only[jl];by_cases h:S.1.2.2.2=0
 ·grind
 grind
noncomputable abbrev LR(F:Nat):=q3k q1i q1b (q2x F)
def zAh(m:Nat)(S:RSt)(r:RSt⊕RSt):Prop:=∃S',(r = .inl S'\/r = .inr S')/\RGr m S S'
def StR(s:Nd):Prop:=∀F (j:Nat) (S:RSt) (l:Sl RNd) (i:Nat) (hi:i < l.xs.length),l.xs[i]=rN s->l.xs.length<=50000->zl s<=F->RVc j (zl s) S->
 (∃S',LR F ((j:Int),l,(i:Int),S)=q (.next ((j:Int),l,((i+1:Nat):Int),S'))/\RGr (zl s) S S')\/∃r,LR F ((j:Int),l,(i:Int),S)=q (.done r)/\zAh (zl s) S r
def BlR(n:Nat)(ks:Sl Nd):Prop:=∀F (j:Nat) (S:RSt),n<=F->RVc j n S->∃S',q2x F ((j:Int),⟨ks.xs.map rN,ks.nn⟩,S)=q S'/\RGr n S S'
theorem zmA{ks:Sl Nd}(h:∀s∈ks.xs,StR s)(hl:zd ks.xs<=40000):BlR (zd ks.xs+1) ks:=by
 intro F j S hF hv;obtain⟨F,rfl⟩:∃k,F=k+1:=⟨F - 1,by omega⟩
 have hk:=Wt ks.xs
 have key:=goE (f:=LR F) (n:=ks.xs.length) (A:=RSt) (st:=λi a=>((j:Int),⟨ks.xs.map rN,ks.nn⟩,(i:Int),a)) (fin:=λa =>.inr a) (J:=λi a=>RGr (zd (ks.xs.take i)) S a) (bad:=zAh (zd ks.xs+1) S)
  (λi hi a ha=>by
   have hz:=Y1 hi;have ha2:RVc j (zl ks.xs[i]) a:=RVc.gr (hv.mono (show zd (ks.xs.take i)+zl ks.xs[i]<=_ by omega)) ha;rcases h _ (gc hi) F j a ⟨ks.xs.map rN,ks.nn⟩ i (by simpa using hi) (by simp) (by simp;omega) (by omega) ha2 with⟨b,e,g⟩ | ⟨r,e,S',hr,g⟩
   ·refine .inl ⟨b,e,?_⟩;rw[<- DI hi,zL];exact(ha.trans g).mono (by simp[zd])
   ·exact .inr ⟨r,e,S',hr,(ha.trans g).mono (by omega)⟩)
  (λa ha=>by
   show q3k _ _ _ _=_;unfold q3k;simp only[jl];rw[jx (by simp only[zj,D4];omega)]
   rfl)
  (a:=S) ((RGr.refl rfl rfl rfl).mono (by omega))
 have fin':∀(o:U7 (RSt⊕RSt)) (r:RSt⊕RSt) (S':RSt),o=q r->(r = .inl S'\/r = .inr S')->(o.bind λy11=>Sum.elim (λy12=>q y12) (λy13=>q y13) y11)=q S':=by
  grind
 rcases key with⟨a,e,g⟩ | ⟨r,e,S',hr,g⟩
 ·exact⟨a,fin' _ _ a e (.inr rfl),g.mono (by grind)⟩
 ·exact⟨S',fin' _ _ S' e hr,g⟩
def vK(s:Nd):List Nd:=s.K_.xs.drop 2
theorem zax{s:Nd}(g:StmtG s)(hz:zl s<=40000)(hb:s.k_=15\/s.k_=16->2<=s.K_.xs.length/\zd (vK s)+2<=zl s/\∀b∈vK s,BlR (zl b) b.K_):StR s:=by
 intro F j S l i hi hs hl hF hv;have ps:=z6 s;show(∃S',q3k _ _ _ _=_/\_)\/∃r,q3k _ _ _ _=_/\_
 unfold q3k;simp only[jl,zi];rw[jv (by simp only[zj];omega)];simp only[jj];by_cases hc:S.1.2.2.2=0
 rotate_left
 ·simp only[hc,jr,jk,jp];exact .inr ⟨_,rfl,S,.inr rfl,(RGr.refl rfl rfl rfl).mono (by omega)⟩
 simp only[hc,js,jq,zg hi,hs,jj];obtain⟨e,S1,ho,g1⟩:=zAg g hz (hv.mono (by omega));rw[ho,jj];by_cases h0:e=0
 rotate_left
 ·obtain⟨S2,hf,f1,f2,f3,_⟩:=zn4 (rN s).a_ e S1;simp only[h0,Dm,ju,jq,hf,jj];exact .inr ⟨_,rfl,S2,.inl rfl,(g1.trans (RGr.refl f1 f2 f3)).mono (by omega)⟩
 simp only[h0,Dm,jt,jp,ZT];have wk:=zw (show i < 1000000000 by omega);have main:(s.k_=15\/s.k_=16)->∃S',lpO (q55 q1i q1b (q2x F)) ((j:Int),l,(i:Int),2,S1.1,S1.2,rN s)=q ((j:Int),l,(i:Int),S'.1,S'.2)/\RGr (zl s) S S':=by
  intro hk;obtain⟨b1,b2,b3⟩:=hb hk;have hkl:(rN s).K_.xs=s.K_.xs.map rN:=by rw[zF]
  have hkn:(rN s).K_.xs.length=s.K_.xs.length:=by rw[hkl];simp
  have hbl:(vK s).length=s.K_.xs.length - 2:=by simp[vK]
  have hsl:=@Zl s
  obtain⟨S',e1,e2⟩:=go (f:=q55 q1i q1b (q2x F)) (n:=(vK s).length) (A:=RSt) (st:=λk a=>((j:Int),l,(i:Int),((k+2:Nat):Int),a.1,a.2,rN s)) (fin:=λa=>((j:Int),l,(i:Int),a.1,a.2)) (J:=λk a=>RGr (1+zd ((vK s).take k)) S a)
   (λk hk a ha=>by
    have hz:=Y1 hk;have hx:(vK s)[k]=s.K_.xs[k+2]'(by omega):=by simp[vK,Nat.add_comm]
    obtain⟨S2,q1,q2⟩:=b3 _ (gc hk) F j a (by omega) (RVc.gr (hv.mono (show(1+zd ((vK s).take k))+zl (vK s)[k]<=_ by omega)) ha);refine⟨S2,?_,?_⟩
    ·unfold q55;simp only[jl,zi];rw[jv (by simp only[zj];omega),zg (by omega),jj];simp only[hkl,List.getElem_map];rw[<- hx,zF];show((q2x F ((j:Int),_,a)).bind _)=_;rw[q1,jj,zw (by omega)]
    ·rw[<- DI hk,zL]
     exact(ha.trans q2).mono (by simp only[zd];omega))
   (λa ha=>by
    unfold q55;simp only[jl,zi]
    rw[jx (by simp only[zj];omega)])
   (a:=S1) (g1.mono (by omega))
  exact⟨S',e1,e2.mono (by grind)⟩
 by_cases h15:s.k_=15
 ·grind
 by_cases h16:s.k_=16
 ·obtain⟨S',m1,m2⟩:=main (.inr h16);grind
 ·simp only[h15,h16,jp,jr,jk,jj,wk];exact .inl ⟨S1,rfl,g1.mono (by omega)⟩
theorem zyB{s:Nd}(h:StmtG s)(hs:zl s<=40000):StR s:=by
 have blk:∀(a:Int) (b:List Nd),(∀s∈b,zl s<=40000->StR s)->zl ⟨9,lit [],0,a,mkS b⟩<=40000->BlR (zl ⟨9,lit [],0,a,mkS b⟩) (q8.mk 9 (lit []) 0 a (mkS b)).K_:=λa b ih hz=>by
  rw[zk] at hz |-
  exact zmA (λs hs=>ih s hs (by have:=X7 hs;omega)) (by omega)
 induction h with
 | @ite op n a x y b1 a1 b2 a2 hx hy h1 h2 i1 i2=>
  refine zax (.ite hx hy h1 h2) hs λ_=>?_
  have px:=z6 x;have py:=z6 y;rw[zk] at hs |-;simp only[zd] at hs;refine⟨by simp,by simp only[vK,E,zd];omega,λb hb=>?_⟩;rcases De.1 hb with rfl | hb
  all_goals grind
 | @whl op n a x y b1 a1 hx hy h1 i1=>
  refine zax (.whl hx hy h1) hs λ_=>?_
  have px:=z6 x;have py:=z6 y;rw[zk] at hs |-;simp only[zd] at hs;refine⟨by simp,by simp only[vK,E,zd];omega,λb hb=>?_⟩;rw[D2.1 hb];grind
 | @leaf k t n a c=>exact zax (.leaf c) hs λh=>by grind
 |ret c=>exact zax (.ret c) hs λh=>by simp at h
 |fork c=>exact zax (.fork c) hs λh=>by simp at h
 |call c=>exact zax (.call c) hs λh=>by simp at h
 |store c d=>exact zax (.store c d) hs λh=>by simp at h
 |set c=>exact zax (.set c) hs λh=>by simp at h
theorem zyC{b:Nd}(h:V5 b)(hs:zl b<=40000):BlR (zl b) b.K_:=by
 obtain⟨a,l,rfl,hl⟩:=h;rw[zk] at hs |-
 have hs:zd l+1<=40000:=hs;exact zmA (λs hs'=>zyB (hl s hs') (by have:zl s<=zd l:=X7 hs';omega)) (by grind)
structure Smr(S S':RSt):Prop where
 s:S'.1.1=S.1.1
 t:S'.1.2.1=S.1.2.1
 f:S'.2=S.2
theorem Smr.refl{S:RSt}:Smr S S:=⟨rfl,rfl,rfl⟩
theorem Smr.trans{a b c:RSt}(h:Smr a b)(g:Smr b c):Smr a c:=⟨g.s.trans h.s,g.t.trans h.t,g.f.trans h.f⟩
theorem zbv(a e:Int)(S:RSt):∃S',Smr S S'/\q1b (a,e,S.1,S.2)=q S'/\(e≠0->S'.1.2.2.2≠0):=by
 obtain⟨S',h,h1,h2,h3,h4⟩:=zn4 a e S;exact⟨S',⟨h1,h2,h3⟩,h,h4⟩
theorem zig(c:Prop)[Decidable c](a e:Int)(S:RSt):∃S',Smr S S'/\∀(β:Type) (g:RSt->U7 β),(if c then(q1b (a,e,S.1,S.2)).bind g else g S)=g S':=by
 by_cases h:c
 ·obtain⟨S',h1,h2,_⟩:=zbv a e S;grind
 ·exact⟨S,.refl,λβ g=>jx h⟩
theorem zyD(n:U5)(z:U5×Int)(v:Sl RP)(h:v.xs.length<=1000000):∃i,q46 (n,z,v)=q (i,z,v):=by
 have:=wm (f:=q5l) (xs:=v.xs) (p:=λx=>decide (x.N_=n)) (st:=λi=>(n,(i:Int),z,v)) (yes:=λi =>.inl ((i:Int),z,v)) (no :=.inr (z,v))
  (λi hi=>by
   unfold q5l;simp only[jl];rw[jv (by simp only[zj];omega),zg hi,jj,jj,zw (by omega)]
   split<;>rfl)
  (by unfold q5l;simp only[jl];rw[jx (by simp only[zj];omega)])
 unfold q46 q9m;have this:lpO q5l (n,0,z,v)=_:=this;simp only[this];cases v.xs.findIdx? _<;>exact⟨_,rfl⟩
theorem zyE {k:Nd}(h:FnG k) (hs:zl k<=40000) {S:RSt}{t:List PT}(hS:S.1.2.1=mkS (t.map rT)) (ht:t.length<=100000) :
    ∃S' vars,q47 (rN k,S)=q ((k.T_,((Xo k).length:Int)),S'.1,S'.2,vars)/\Smr S S'/\(S'.1.2.2.2≠0\/(Xo k).length<=8/\vars.xs.length=(Xo k).length):=by
 obtain⟨h6,ps,r,b,hk,hp,hr,hr8,hb⟩:=h;have hlen:k.K_.xs.length=ps.length+2:=by rw[hk];simp
 have hps:Xo k=ps:=by unfold Xo;grind
 have hkl:=@Zl k;have ek:(rN k).K_.xs=k.K_.xs.map rN:=by rw[zF]
 have ekl:(rN k).K_.xs.length=k.K_.xs.length:=by rw[ek];simp
 rw[hps];have hc:U8 ((rN k).K_.len - 2)=(ps.length:Int):=by rw[zj,ekl,hlen,zK (by omega) (by omega)];omega
 have hgr:za (rN k).K_ (ps.length:Int)=q (rN r):=by rw[zg (by omega)];grind
 unfold q47 q9n;simp only[zi];simp only[hc,jl,zZ];by_cases h8:8 < (ps.length:Int)
 ·obtain⟨S',s1,e1,e2⟩:=zbv (rN k).a_ 22 S;have e1:q1b ((rN k).a_,22,S)=_:=e1;simp only[h8,jq,e1,jj];grind
 simp only[h8,jp]
 obtain⟨⟨S1,vars⟩,e1,s1,v1⟩:=go (f:=q5m q1b q46 q1a) (n:=ps.length) (A:=RSt×Sl RP)
  (st:=λi a=>((ps.length:Int),(i:Int),a.1.1,a.1.2,rN k,(lit [],0),(k.T_,(ps.length:Int)),a.2)) (fin:=λa=>((ps.length:Int),a.1.1,a.1.2,rN k,(lit [],0),(k.T_,(ps.length:Int)),a.2))
  (J:=λi a=>Smr S a.1/\a.2.xs.length=i)
  (λi hi a ha=>by
    obtain⟨a,vars⟩:=a;obtain⟨hsm,hv⟩:=ha;simp only at hv hsm;obtain⟨_,m,hm,hmg⟩:=hp _ (gc hi);have hx:za (rN k).K_ (i:Int)=q (rN ps[i]):=by
     rw[zg (by omega)];grind
    obtain⟨x,hfx⟩:=zyD ps[i].T_ (k.T_,(ps.length:Int)) vars (by omega);obtain⟨a1,q1,q2⟩:=zig (0<=x) (rN ps[i]).a_ 30 a;unfold q5m;simp only[jl,zi];rw[jv (by omega)];simp only[hx,jj,rk0 hm];simp only[zZ,hfx,jj,zi];rw[q2];simp only[jj];have wk:=zw (show i < 1000000000 by omega);have hT:m.T_=lit [105,110,116]\/m.T_=lit [111,119,110]\/m.T_=lit [38]\/m.T_=lit [38,109,117,116]:=by
     rcases hmg.2 with⟨h1,_⟩ | ⟨h1,_⟩
     all_goals grind
    rcases hT with hT | hT | hT | hT
    ·simp (decide:=true) only [hT,Z7,jp,jr,jk,jj,zZ];rw[Zz (by omega) (by omega)];simp only[jj,wk];exact⟨(a1,_),rfl,hsm.trans q1,by simp[hv]⟩
    · obtain⟨y,hy⟩:=zmy hmg hT;obtain⟨a2,q3,q4⟩:=zig (idT y.T_ t < 0) (rN m).a_ 31 a1;have ht1:a1.1.2.1=mkS (t.map rT):=by rw[q1.t,hsm.t,hS]
      simp (decide:=true) only [hT,Z7,jp,jr,jk,jj,zZ,jq,rk0 hy,ht1,zav t _ (show t.length<=1000000 by omega)];rw[q4];simp only[jj];rw[Zz (by omega) (by omega)];simp only[jj,wk];exact⟨(a2,_),rfl,(hsm.trans q1).trans q3,by simp[hv]⟩
    ·obtain⟨a2,q3,q4,_⟩:=zbv (rN m).a_ 34 a1;simp (decide:=true) only [hT,Z7,jp,jq,jr,jk,jj,zZ,q4];rw[Zz (by omega) (by omega)];simp only[jj,wk];exact⟨(a2,_),rfl,(hsm.trans q1).trans q3,by simp[hv]⟩
    · obtain⟨a2,q3,q4,_⟩:=zbv (rN m).a_ 34 a1;simp (decide:=true) only [hT,Z7,jp,jq,js,jr,jk,jj,zZ,q4];rw[Zz (by omega) (by omega)];simp only[jj,wk]
      exact⟨(a2,_),rfl,(hsm.trans q1).trans q3,by simp[hv]⟩)
  (λa ha=>by
    unfold q5m;simp only[jl,zi]
    grind)
  (a:=(S,Sl.mk [] false)) ⟨.refl,by simp⟩
 have e1:lpO (q5m q1b q46 q1a) ((ps.length:Int),0,S.1,S.2,rN k,(lit [],0),(k.T_,(ps.length:Int)),Sl.mk [] false)=_:=e1;rw[e1];simp only[jj,hgr];obtain⟨S2,q1,q2⟩:=zig (¬(rN r).T_=lit []) (rN r).a_ 35 S1;simp only[zZ,Dm] at q2 |-
 rw[q2];exact⟨S2,vars,rfl,s1.trans q1,.inr ⟨by omega,v1⟩⟩
structure RFnR(m:Nat)(k:Nd)(f:RFt):Prop where
 g:FnG k
 p:f.P_=((Xo k).length:Int)
 l:(Xo k).length<=8
 v:(Xo k).length<=f.V_.xs.length/\f.V_.xs.length<=(Xo k).length+m
def yT(m:Nat)(ks:List Nd)(fs:List RFt):Prop:=∃h:fs.length=ks.length,∀i (hi:i < ks.length),RFnR m ks[i] (fs[i]'(by omega))
theorem yT.mono{fs:List RFt}(h:yT m ks fs)(hm:m<=k):yT k ks fs:=⟨h.1,λi hi=>by obtain⟨a,b,c,d⟩:=h.2 i hi;exact⟨a,b,c,by omega⟩⟩
theorem yT.snoc{fs:List RFt}{k:Nd}{f:RFt}(h:yT m ks fs)(g:RFnR m k f):yT m (ks++[k]) (fs++[f]):=by
 have hl:=h.1;refine⟨by simp[hl],λi hi=>?_⟩;rw[jy,g9] at hi;by_cases c:i < ks.length
 ·rw[D c,D (by omega)];exact h.2 i c
 ·obtain rfl:i=ks.length:=by omega
  rw[C (UN _),C (by omega)];grind
theorem yT.vc{S:RSt}(h:yT m ks S.2.xs)(hs:S.1.1.xs.length<=50000)(hk:ks.length<=50000)(hm:m+5000<=50000){i:Nat}(hi:i < ks.length):RVc i 5000 S:=by
 have key:∀f∈S.2.xs,f.V_.xs.length<=m+8/\0<=f.P_/\f.P_<=f.V_.xs.length:=by
  intro f hf;obtain⟨j,hj,rfl⟩:=B hf;have r:=h.2 j (by rw[<- h.1];exact hj);have hv:=r.v;have h8:=r.l;have hp:=r.p;grind
 exact⟨⟨by rw[h.1];exact hi,λf hf=>⟨by grind,(key f hf).2⟩,by rw[h.1];exact hk⟩,λf hf=>by grind,hs⟩
theorem yT.gr{a b:RSt}(h:yT m ks a.2.xs)(g:RGr k a b):yT (m+k) ks b.2.xs:=
 ⟨g.l.trans h.1,λi hi=>by
  have r:=h.2 i hi;obtain⟨_,g2,ex,g3,g4⟩:=g.f i (by grind) (by rw[g.l,h.1];exact hi);have hv:=r.v;have g3:=congrArg w g3;rw[jy] at g3
  exact⟨r.g,g2.trans r.p,r.l,by omega⟩⟩
noncomputable abbrev RC0:=q3l q1b q47 q4i q2d
noncomputable abbrev RC1:=q3m q1b q47 q4i q2d
theorem zyF (hg:UnitG n) (sg:Sl RSg) (t:List PT) (ht:t.length<=100000) :
    ∃S:RSt,lpO RC0 (0,rN n,(sg,mkS (t.map rT),0,0),Sl.mk [] false)=q (rN n,S)/\S.1.1=sg/\S.1.2.1=mkS (t.map rT)/\(S.1.2.2.2=0->yT 0 n.K_.xs S.2.xs):=by
 have hkl:=@Zl n;have hsz:=hg.size;have ek:(rN n).K_.xs=n.K_.xs.map rN:=by rw[zF]
 have ekl:(rN n).K_.xs.length=n.K_.xs.length:=by rw[ek];simp
 rcases goE (f:=RC0) (n:=n.K_.xs.length) (A:=RSt) (st:=λi a=>((i:Int),rN n,a)) (fin:=λa=>(rN n,a)) (J:=λi a=>a.1.1=sg/\a.1.2.1=mkS (t.map rT)/\a.2.xs.length<=i/\(a.1.2.2.2=0->yT 0 (n.K_.xs.take i) a.2.xs)) (bad:=λr=>∃S:RSt,r=(rN n,S)/\S.1.1=sg/\S.1.2.1=mkS (t.map rT)/\S.1.2.2.2≠0)
  (λi hi S ha=>by
    obtain⟨a1,a2,a3,a4⟩:=ha;show(∃a',q3l _ _ _ _ _=_/\_)\/∃r,q3l _ _ _ _ _=_/\_
    unfold q3l;simp only[jl,zi];rw[jv (by simp only[zj];omega)];simp only[jj];by_cases hc:S.1.2.2.2=0
    rotate_left
    ·grind
    have hx:za (rN n).K_ (i:Int)=q (rN n.K_.xs[i]):=by rw[zg (by omega)];grind
    simp only[hc,js,jq,hx,jj,ZT];by_cases h6:n.K_.xs[i].k_=6
    rotate_left
    ·obtain⟨S',s1,e1,e2⟩:=zbv (rN n.K_.xs[i]).a_ 50 S;have e1:q1b ((rN n.K_.xs[i]).a_,50,S)=_:=e1;simp only[h6,Dm,ju,jq,e1,jj];exact .inr ⟨_,rfl,S',rfl,s1.s.trans a1,s1.t.trans a2,e2 (by decide)⟩
    have hf:FnG n.K_.xs[i]:=by
     rcases hg.kid _ (gc hi) with h | h
     ·exact absurd h.1 (by grind)
     ·exact h
    obtain⟨S',vars,e,s1,hv⟩:=zyE hf (by have:=ZX (gc hi);omega) a2 ht;have hl:S'.2.xs.length<=i:=by rw[s1.f];exact a3
    simp only[h6,Dm,jt,jp,e,jj];rw[Zz (by omega) (by omega),jj,zw (by omega)];refine .inl ⟨(S'.1,_),rfl,s1.s.trans a1,s1.t.trans a2,by grind,λh0=>?_⟩;rcases hv with hv | ⟨h8,hv⟩
    ·grind
    rw[<- DI hi];simp only[s1.f]
    exact(a4 hc).snoc ⟨hf,rfl,h8,by simp only;omega⟩)
  (λS ha=>by
    show q3l _ _ _ _ _=_;unfold q3l;simp only[jl,zi];rw[jx (by simp only[zj];omega)]
    rfl)
  (a:=((sg,mkS (t.map rT),0,0),Sl.mk [] false)) ⟨rfl,rfl,by simp,λ_=>⟨by simp,λi hi=>by simp at hi⟩⟩ with⟨S,e,h1,h2,_,h3⟩ | ⟨r,e,S,rfl,h1,h2,h3⟩
 all_goals grind
theorem zyG (hg:UnitG n) {S0:RSt}(hs:S0.1.1.xs.length<=50000) (h0:S0.1.2.2.2=0->yT 0 n.K_.xs S0.2.xs) :
    ∃S:RSt,lpO RC1 (0,rN n,S0)=q S/\(S.1.2.2.2=0->yT 5000 n.K_.xs S.2.xs):=by
 have hkl:=@Zl n;have hsz:=hg.size;have hse:=zk n;have ek:(rN n).K_.xs=n.K_.xs.map rN:=by rw[zF]
 have ekl:(rN n).K_.xs.length=n.K_.xs.length:=by rw[ek];simp
 rcases goE (f:=RC1) (n:=n.K_.xs.length) (A:=RSt) (st:=λi a=>((i:Int),rN n,a)) (fin:=λa=>a) (J:=λi a=>a.1.1.xs.length<=50000/\(a.1.2.2.2=0->yT (zd (n.K_.xs.take i)) n.K_.xs a.2.xs)) (bad:=λr=>r.1.2.2.2≠0)
  (λi hi S ha=>by
    obtain⟨a1,a4⟩:=ha;have hst:=Y1 hi;show(∃a',q3m _ _ _ _ _=_/\_)\/∃r,q3m _ _ _ _ _=_/\_
    unfold q3m;simp only[jl,zi];rw[jv (by simp only[zj];omega)];simp only[jj];by_cases hc:S.1.2.2.2=0
    rotate_left
    ·grind
    have hR:=a4 hc;have r:=hR.2 i hi;obtain⟨_,ps,rr,b,hk,_,_,_,hb⟩:=r.g;have hlen:n.K_.xs[i].K_.xs.length=ps.length+2:=by rw[hk];simp
    have hki:=@Zl n.K_.xs[i];have hbz:=ZX (n:=n.K_.xs[i]) (k:=b) (by rw[hk];simp);have ek2:(rN n.K_.xs[i]).K_.xs=n.K_.xs[i].K_.xs.map rN:=by rw[zF]
    have ekl2:(rN n.K_.xs[i]).K_.xs.length=n.K_.xs[i].K_.xs.length:=by rw[ek2];simp
    have hgl:za (rN n.K_.xs[i]).K_ (U8 ((rN n.K_.xs[i]).K_.len - 1))=q (rN b):=by
     rw[zj,ekl2,hlen,zK (by omega) (by omega),show(((ps.length+2:Nat):Int) - 1)=((ps.length+1:Nat):Int) by omega,zg (by omega)];grind
    have hx:za (rN n).K_ (i:Int)=q (rN n.K_.xs[i]):=by rw[zg (by omega)];grind
    have hfl:=hR.1;simp only[hc,js,jq,hx,jj,zg (s:=S.2) (show i < _ by omega),hgl];have vc:RVc i 5000 S:=hR.vc a1 (by omega) (by omega) hi;obtain⟨S1,e,g⟩:=zyC hb (by omega) 100000 i S (by omega) (vc.mono (by omega));rw[<- zF] at e;have e:q4i ((i:Int),(rN b).K_,S)=_:=e;have gl:S1.2.xs.length=S.2.xs.length:=g.l;have hci:i < S1.2.xs.length:=by omega
    have fin':FnG n.K_.xs[i]->yT (zd (n.K_.xs.take (i+1))) n.K_.xs S1.2.xs:=by
     intro _;rw[<- DI hi,zL];exact(yT.gr hR g).mono (by simp only[zd];omega)
    have fin':=fin' r.g;obtain⟨rc,e1⟩:=zn1 r.g (by omega);have a1':S1.1.1.xs.length<=50000:=by rw[g.s];exact a1
    have wk:=zw (show i < 1000000000 by omega);simp only[e,jj,e1,zg hci];have tail:∀c:Bool,∃a':RSt,(((if c=true then(q1b ((rN n.K_.xs[i]).a_,22,S1.1,S1.2)).bind λy20=>q ((i:Int),rN n,y20) else q ((i:Int),rN n,S1.1,S1.2)).bind λy21:Int×RNd×RSt=>q (Step.next (U8 (y21.1+1),y21.2.1,y21.2.2):Step _ RSt)))=q (.next (((i+1:Nat):Int),rN n,a'))/\a'.1.1.xs.length<=50000/\(a'.1.2.2.2=0->yT (zd (n.K_.xs.take (i+1))) n.K_.xs a'.2.xs):=by
     intro c;cases c
     ·grind
     ·obtain⟨S',s1,e1,e2⟩:=zbv (rN n.K_.xs[i]).a_ 22 S1;simp only[jq,e1,jj,wk];exact⟨S',rfl,by rw[s1.s];exact a1',λ_=>by grind⟩
    by_cases h64:64 < Sl.len S1.2.xs[i].V_
    ·simp only[h64,jq,jj];exact .inl (tail true)
    · simp only[h64,jp,jj]
      exact .inl (tail (decide (512 < Sl.len rc.2.2))))
  (λS ha=>by
    show q3m _ _ _ _ _=_;unfold q3m;simp only[jl,zi];rw[jx (by simp only[zj];omega)]
    rfl)
  (a:=S0) ⟨hs,by simpa[zd] using h0⟩ with⟨S,e,h1,h3⟩ | ⟨r,e,h3⟩
 ·rw[Dw] at h3;exact⟨S,e,λh=>(h3 h).mono (by omega)⟩
 grind
theorem zs4 (hg:UnitG n) (sg:Sl RSg) (t:List PT) (hs:sg.xs.length<=50000) (ht:t.length<=100000) :
    ∃S:RSt,q3v (rN n,sg,mkS (t.map rT))=q S/\(S.1.2.2.2≠0/\S.2.xs=[]\/S.1.2.2.2=0/\yT 5000 n.K_.xs S.2.xs):=by
 obtain⟨S1,e1,h1,h2,h3⟩:=zyF hg sg t ht;obtain⟨S2,e2,h4⟩:=zyG hg (S0:=S1) (by grind) h3;unfold q3v q8d;simp only[zi,jl];rw[e1];simp only[jj];rw[e2];simp only[jj];by_cases hc:S2.1.2.2.2=0
 ·grind
 grind
end Go.Px
