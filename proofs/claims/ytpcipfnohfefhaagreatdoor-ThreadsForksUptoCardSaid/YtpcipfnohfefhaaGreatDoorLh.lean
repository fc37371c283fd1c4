/- Part Lh: Px22RJ Px22RK Px22RL Px22RM Px22RN. -/
import Derived.Test.YtpcipfnohfefhaaGreatDoorLg
set_option linter.unusedVariables false
set_option linter.unusedSimpArgs false
namespace Go.Px
open List renaming length->w,getElem_of_mem->B,getElem_append_right->C,getElem_append_left->D,drop->E
open _root_.Option renaming some->q
variable{j k m:Nat}{ks:List Nd}{n:Nd}{t:List PT}
abbrev RFt:=qe
abbrev RSt:=(Sl RSg×Sl RTy×Int×Int)×Sl RFt
structure RVd(j:Nat)(fs:Sl RFt):Prop where
 j:j < fs.xs.length
 v:∀f∈fs.xs,f.V_.xs.length<=60000/\0<=f.P_/\f.P_<=f.V_.xs.length
 f:fs.xs.length<=50000
theorem zlF{fs:Sl RFt}(h:RVd j fs)(n:Uq):∃i:Int,q2c ((j:Int),n,fs)=q (i,fs)/\ -1<=i/\i < (fs.xs[j]'h.j).V_.xs.length:=by
 have hj:=h.j;have hv:=(h.v _ (g9 hj)).1
 have:=XB (f:=q4j) (xs:=fs.xs[j].V_.xs) (p:=λx=>decide (x.N_=n)) (st:=λi=>((j:Int),n,(i:Int),fs)) (yes:=λi =>.inl ((i:Int),fs)) (no :=.inr fs)
  (λi hi=>by
   unfold q4j;simp only[jk,zh hj,ji];rw[ju (by simp only[zo];omega)];simp only[zh hi,ji,zw (show i < 1000000000 by omega)]
   grind)
  (by
   unfold q4j;simp only[jk,zh hj,ji]
   rw[jv (by simp only[zo];omega)])
 refine⟨idx (λx=>decide (x.N_=n)) fs.xs[j].V_.xs,?_,xB.1,xB.2.1⟩;unfold q2c q7j;have this:lpO q4j ((j:Int),n,0,fs)=_:=this;simp only[this];unfold idx;cases fs.xs[j].V_.xs.findIdx? _<;>rfl
theorem zd0{fs:Sl RFt}(h:RVd j fs)(n:Uq):∃p e,q4o ((j:Int),n,fs)=q (p,e,fs):=by
 obtain⟨i,e,h1,h2⟩:=zlF h n;have hj:=h.j;unfold q4o q9b;simp only[e,ji,jk];by_cases h0:i < 0
 ·simp only[h0,jp];grind
 obtain⟨k,rfl⟩:∃k:Nat,i=(k:Int):=⟨_,(Dz (by omega)).symm⟩
 simp only[h0,jo,zh hj,ji,zh (s:=fs.xs[j].V_) (show k < _ by omega)];grind
theorem zd1{fs:Sl RFt}(h:RVd j fs)(n:RNd)(p:RP):∃e,q1h ((j:Int),n,p,fs)=q (e,fs):=by
 obtain⟨k,e,hk⟩:=zd0 h n.T_;unfold q1h q9c;simp only[zk,jk];by_cases h1:n.T_=lit []
 ·simp only[h1,jp];by_cases h2:p.M_=1
  ·grind
  grind
 simp only[h1,jo,ji,jl,hk];by_cases h3:e=0
 rotate_left
 ·grind
 simp (decide:=true) only [h3,UW,js,jo];by_cases h4:p.M_=1
 ·simp only[h4,jp];by_cases h5:k.M_=1
  ·grind
  grind
 simp only[h4,jo,ji,jl];have fin':∀(b:Bool),∃e,((if¬n.n_=0 then q (true,fs) else if¬k.t_=p.t_ then q (true,fs) else if¬k.M_=p.M_ then q (!b,fs) else q (false,fs)).bind λy8:Bool×Sl RFt=>if y8.1=true then q ((40:Int),y8.2) else q (0,y8.2))=q (e,fs):=by
  intro b;split
  ·grind
  grind
 by_cases h6:p.M_=3
 ·grind
 grind
theorem zxm{fs:Sl RFt}(h:RVd j fs)(l:Sl RNd)(p:Sl RP)(hl:l.xs.length<=50000):∃e,q38 ((j:Int),l,p,fs)=q (e,fs):=by
 unfold q38 q9d;simp only[jk];by_cases hlen:Sl.len l=Sl.len p
 rotate_left
 ·simp only[hlen,UW,jt,jp];grind
 simp only[hlen,UW,js,jo];simp only[zo] at hlen
 rcases goE (f:=q6u q1h) (n:=l.xs.length) (A:=Sl RFt) (st:=λi a=>((j:Int),l,p,(i:Int),a)) (fin:=λa =>.inr a) (J:=λi a=>a=fs) (bad:=λr=>∃e,r = .inl (e,fs))
  (λi hi a ha=>by
   subst ha;unfold q6u;simp only[jk,zk];rw[ju (by simp only[zo];omega),zh hi,ji,zh (s:=p) (show i < _ by omega),ji];obtain⟨e,he⟩:=zd1 h l.xs[i] (p.xs[i]'(by omega));rw[he,ji];by_cases h0:e=0
   ·simp only[h0,UW,js,jo,zw (show i < 1000000000 by omega)];grind
   grind)
  (λa ha=>by
   unfold q6u;simp only[jk]
   rw[jv (by simp only[zo];omega)])
  (a:=fs) rfl with⟨a,e,rfl⟩ | ⟨r,e,x,rfl⟩
 ·grind
 grind
theorem zm8{S:RSt}(h:RVd j S.2)(hs:S.1.1.xs.length<=50000)(n:RNd)(hn:n.K_.xs.length<=50000):∃p e,q2n ((j:Int),n,S)=q (p,e,S):=by
 unfold q2n q9e;simp only[zk]
 rcases goE (f:=q4b q38) (n:=S.1.1.xs.length) (A:=Unit) (st:=λi _=>((j:Int),(i:Int),S.1,S.2,n,qh.mk (lit []) 0 0)) (fin:=λ_ =>.inr (S.1,S.2,qh.mk (lit []) 0 0)) (J:=λ_ _=>True) (bad:=λr=>∃e p,r = .inl (e,S.1,S.2,p))
  (λi hi a _=>by
   unfold q4b;simp only[jk,zk];rw[ju (by simp only[zo];omega),zh hi,ji];split
   ·rw[ji];obtain⟨e,he⟩:=zxm h n.K_ S.1.1.xs[i].P_ hn;grind
   ·rw[zw (by omega)]
    exact .inl ⟨(),rfl,trivial⟩)
  (λa _=>by
   unfold q4b;simp only[jk]
   rw[jv (by simp only[zo];omega)])
  (a:=()) trivial with⟨a,e,_⟩ | ⟨r,e,x,p,rfl⟩
 ·have e:lpO (q4b q38) ((j:Int),0,S.1,S.2,n,qh.mk (lit []) 0 0)=_:=e;rw[e];exact⟨_,_,rfl⟩
 ·have e:lpO (q4b q38) ((j:Int),0,S.1,S.2,n,qh.mk (lit []) 0 0)=_:=e;rw[e];exact⟨_,_,rfl⟩
theorem zt7{fs:Sl RFt}(h:RVd j fs)(l:Sl RNd)(hl:l.xs.length<=50000)(hk:k < fs.xs.length):∃e,q2o ((j:Int),l,((k:Int),0,fs.xs[k].P_),fs)=q (e,fs):=by
 obtain⟨v1,v2,v3⟩:=h.v _ (g9 hk);have hgs:=Yk (s:=fs.xs[k].V_) (lo:=0) (hi:=fs.xs[k].P_) (by omega) v2 v3;rw[show(0:Int).toNat=0 from rfl,De] at hgs;unfold q2o q7k;simp only[jk,zh hk,hgs,ji];by_cases hlen:Sl.len l=fs.xs[k].P_ - 0
 rotate_left
 ·simp only[hlen,UW,jt,jp];grind
 simp only[hlen,UW,js,jo];simp only[zo] at hlen
 rcases goE (f:=q3w q1h) (n:=l.xs.length) (A:=Sl RFt) (st:=λi a=>((j:Int),l,((k:Int),0,fs.xs[k].P_),(i:Int),a)) (fin:=λa =>.inr a) (J:=λi a=>a=fs) (bad:=λr=>∃e,r = .inl (e,fs))
  (λi hi a ha=>by
   subst ha;unfold q3w;simp only[jk,zk];have hi2:i < a.xs[k].V_.xs.length:=by omega
   rw[ju (by simp only[zo];omega),zh hi,ji,zh hk,ji,hgs,ji];rw[zh (s:=⟨_,_⟩) (by grind)];simp only[ji,Int.zero_add];rw[zh hi2,ji];obtain⟨e,he⟩:=zd1 h l.xs[i] (a.xs[k].V_.xs[i]);rw[he,ji];by_cases h0:e=0
   ·simp only[h0,UW,js,jo,zw (show i < 1000000000 by omega)];grind
   grind)
  (λa ha=>by
   unfold q3w;simp only[jk]
   rw[jv (by simp only[zo];omega)])
  (a:=fs) rfl with⟨a,e,rfl⟩ | ⟨r,e,x,rfl⟩
 ·have e:lpO (q3w q1h) ((j:Int),l,((k:Int),0,a.xs[k].P_),0,a)=_:=e;grind
 ·have e:lpO (q3w q1h) ((j:Int),l,((k:Int),0,fs.xs[k].P_),0,fs)=_:=e;grind
theorem zxn{S:RSt}(h:RVd j S.2)(hs:S.1.1.xs.length<=50000)(g:ExprG n)(hn:n.K_.xs.length<=50000):∃p e,q39 ((j:Int),rN n,S)=q (p,e,S):=by
 have elim_inl:∀{α β γ:Type} (f:α->γ) (g:β->γ) (a:α),Sum.elim f g (.inl a)=f a:=λ_ _ _=>rfl
 unfold q39 q9f;simp only[zk,yR];simp only[ZT,zX];obtain⟨k,e,hk⟩:=zd0 h n.T_;cases g with
 |term h5 h0=>
  simp only[h5,jr,jp];by_cases ht:n.T_=lit []
  ·simp only[ht,jr,jp,ji,jm];grind
  simp only[ht,jq,jj,jo,hk,ji];by_cases h1:e=0
  ·simp only[h1,jr,jp];by_cases h2:(rN n).n_=0
   ·simp only[h2,UW,js,jq,jj,jo,ji,jm];grind
   ·simp only[h2,UW,jt,jr,jp,ji];by_cases h3:k.M_=1
    ·simp only[h3,js,jq,jj,jo,ji,jm];grind
    ·simp only[h3,jt,jr,jp,ji,jm];grind
  ·simp only[h1,jq,jj,jo,ji,jm];grind
 |leaf h5 h0=>
  rcases h5 with h5 | h5 | h5 | h5
  ·simp (decide:=true) only [h5,jq,jr,jp,jo,jj,ji,jl];grind
  ·simp (decide:=true) only [h5,jq,jr,jp,jo,jj,ji,jl];grind
  all_goals
   simp (decide:=true) only [h5,jq,jr,jp,jo,jj,ji,zX,ZT,hk];by_cases h1:e=0
   ·simp only[h1,UW,js,jq,jj,jo];by_cases h2:k.M_=2
    ·simp only[h2,js,jq,jj,jo,ji,jm];grind
    ·simp only[h2,jt,jr,jp,ji,jm];grind
   ·simp only[h1,UW,jt,jr,jp,ji,jm];grind
 |call h5=>
  obtain⟨p,e,hc⟩:=zm8 h hs (rN n) (by rw[zD];simpa using hn);simp (decide:=true) only [h5.1,jq,jr,jp,jo,jj,ji,hc];by_cases h1:e=0
  ·simp only[h1,jr,jp,ji];by_cases h2:p.M_=0
   ·grind
   grind
  grind
 |load h5 _ _=>
  simp (decide:=true) only [h5,jq,jr,jp,jo,jj,ji,jl];grind
 | @two x y h5 h6 _ _=>
  obtain⟨k1,e1,hk1⟩:=zd0 h x.T_;obtain⟨k2,e2,hk2⟩:=zd0 h y.T_;rcases h5 with h5 | h5<;>
  ·simp (decide:=true) only [h5,jq,jr,jp,jo,jj,ji,rk0 h6,rk1 h6,zX,hk1];by_cases h1:e1=0
   rotate_left
   ·simp only[h1,UW,jt,jr,jp,ji,jm];grind
   simp only[h1,UW,js,jq,jj,jo,hk2,ji];by_cases h2:e2=0
   rotate_left
   ·simp only[h2,UW,jt,jr,jp,ji,jm];grind
   simp only[h2,UW,js,jq,jj,jo];by_cases h3:k1.M_=1<;>by_cases h4:k2.M_=1<;>
   ·simp only[h3,h4,js,jt,jr,jq,jj,jp,jo,ji,jm];exact⟨_,_,rfl⟩
structure RGr(m:Nat)(a b:RSt):Prop where
 s:b.1.1=a.1.1
 t:b.1.2.1=a.1.2.1
 l:b.2.xs.length=a.2.xs.length
 f:∀i (h:i < a.2.xs.length) (h':i < b.2.xs.length),b.2.xs[i].N_=a.2.xs[i].N_/\b.2.xs[i].P_=a.2.xs[i].P_/\∃ex,b.2.xs[i].V_.xs=a.2.xs[i].V_.xs++ex/\ex.length<=m
theorem RGr.refl{a b:RSt}(h1:b.1.1=a.1.1)(h2:b.1.2.1=a.1.2.1)(h4:b.2=a.2):RGr 0 a b:=
 ⟨h1,h2,by rw[h4],λi h h'=>by simp only[h4];exact⟨trivial,trivial,[],by simp⟩⟩
theorem RGr.trans{a b c:RSt}(h:RGr m a b)(g:RGr k b c):RGr (m+k) a c:=
 ⟨g.s.trans h.s,g.t.trans h.t,g.l.trans h.l,λi h1 h2=>by
  have hb:i < b.2.xs.length:=by rw[h.l];exact h1
  obtain⟨n1,p1,x1,v1,l1⟩:=h.f i h1 hb;obtain⟨n2,p2,x2,v2,l2⟩:=g.f i hb h2
  grind⟩
theorem RGr.mono{a b:RSt}(h:RGr m a b)(hm:m<=k):RGr k a b:=
 ⟨h.s,h.t,h.l,λi h1 h2=>by obtain⟨n1,p1,x1,v1,l1⟩:=h.f i h1 h2;grind⟩
structure RVc(j k:Nat)(S:RSt):Prop where
 d:RVd j S.2
 r:∀f∈S.2.xs,f.V_.xs.length+k<=60000
 s:S.1.1.xs.length<=50000
theorem RVc.gr{a b:RSt}(h:RVc j (m+k) a)(g:RGr m a b):RVc j k b:=by
 have key:∀f∈b.2.xs,f.V_.xs.length+k<=60000/\0<=f.P_/\f.P_<=f.V_.xs.length:=by
  intro f hf;obtain⟨i,hi,rfl⟩:=B hf;have ha:i < a.2.xs.length:=by rw[<- g.l];exact hi
  obtain⟨n1,p1,x1,v1,l1⟩:=g.f i ha hi;have h1:=h.r _ (g9 ha);have h2:=h.d.v _ (g9 ha);have h3:=congrArg w v1;grind
 exact⟨⟨by rw[g.l];exact h.d.j,λf hf=>⟨by grind,(key f hf).2⟩,by rw[g.l];exact h.d.f⟩,λf hf=>(key f hf).1,by rw[g.s];exact h.s⟩
theorem RVc.mono{a:RSt}(h:RVc j m a)(hk:k<=m):RVc j k a:=⟨h.d,λf hf=>by have:=h.r f hf;omega,h.s⟩
theorem zzl{S:RSt}(g:StmtG n)(hz:zm n<=40000)(h:RVc j 1 S):∃e S',q1g ((j:Int),rN n,S)=q (e,S')/\RGr 1 S S':=by
 have r0:RGr 1 S S:=(RGr.refl rfl rfl rfl).mono (by omega);have kl:∀{k:Nd},n.K_=⟨[k],true⟩->k.K_.xs.length<=50000:=λe=>zhB e hz
 have two:∀(x y:Nd) (l:List Nd),n.K_=⟨x::y::l,true⟩->n.k_=15\/n.k_=16->∃e S',q1g ((j:Int),rN n,S)=q (e,S')/\RGr 1 S S':=by
  intro x y l hk hn;obtain⟨e1,h1⟩:=zd1 h.d (rN x) ⟨lit [],1,0⟩;obtain⟨e2,h2⟩:=zd1 h.d (rN y) ⟨lit [],1,0⟩;unfold q1g q2p;simp only[zk,yR];simp only[ZT];rcases hn with hn | hn<;>
  ·simp (decide:=true) only [hn,jq,jr,jp,jo,jj,ji,rk0 hk,rk1 hk,h1];by_cases h3:e1=0
   ·simp only[h3,UW,js,jq,jj,jo,h2,ji,jm];grind
   ·simp only[h3,UW,jt,jr,jp,ji,jm];grind
 cases g with
 |ite=>grind
 |whl=>grind
 | @leaf k t m a c=>
  unfold q1g q2p;simp only[zk,yR];simp only[ZT];have hk:∀k:Int,(Sl.len (rN ⟨k,t,m,a,nilS⟩).K_)=0:=by intros;rw[zD];rfl
  rcases c with rfl | rfl | rfl | rfl | rfl<;>
  ·simp (decide:=true) only [jq,jr,jp,jo,jj,ji,hk,jm,jl];exact⟨_,S,rfl,r0⟩
 | @ret t m a x c=>
  unfold q1g q2p;simp only[zk,yR];simp only[ZT];have hk:(Sl.len (rN ⟨17,t,m,a,⟨[x],true⟩⟩).K_)=1:=by intros;rw[zD];rfl
  simp (decide:=true) only [jq,jr,jp,jo,jj,ji,hk,jm,jl];grind
 |store c d=>
  unfold q1g q2p;simp only[zk,yR];simp only[ZT];simp (decide:=true) only [jq,jr,jp,jo,jj,ji,jm,jl];grind
 | @call t m a x c=>
  obtain⟨p,e,hc⟩:=zm8 h.d h.s (rN x) (by rw[zD];grind);unfold q1g q2p;simp only[zk,yR];simp only[ZT];simp (decide:=true) only [jq,jr,jp,jo,jj,ji,rk0 (n:=⟨20,t,m,a,⟨[x],true⟩⟩) rfl,hc,jm,jl];grind
 | @fork t m a ks c=>
  have hkl:=@Zl ⟨19,t,m,a,ks⟩;simp only at hkl;have hrk:(rN ⟨19,t,m,a,ks⟩).K_.xs.length<=50000:=by rw[zD];simp;omega
  unfold q1g q2p;simp only[zk,yR];simp only[ZT];simp (decide:=true) only [jq,jr,jp,jo,jj,ji];generalize rN ⟨19,t,m,a,ks⟩=R at *
  have hf:=h.d.f
  rcases goE (f:=q4p q39 q2c q2n q2o q1h) (n:=S.2.xs.length) (A:=Unit) (st:=λi _=>((j:Int),(i:Int),S.1,S.2,R)) (fin:=λ_ =>.inr (S.1,S.2)) (J:=λ_ _=>True) (bad:=λr=>∃e,r = .inl (e,S.1,S.2))
   (λi hi u _=>by
    unfold q4p;simp only[jk,zk];obtain⟨v1,v2,v3⟩:=h.d.v _ (g9 hi);rw[ju (by simp only[zo];omega)];simp only[zh hi,ji];split
    ·obtain⟨e,he⟩:=zt7 h.d R.K_ hrk hi;rw[Yk (s:=S.2.xs[i].V_) (by omega) v2 v3,ji,he,ji];grind
    ·rw[zw (by omega)]
     exact .inl ⟨(),rfl,trivial⟩)
   (λu _=>by
    unfold q4p;simp only[jk]
    rw[jv (by simp only[zo];omega)])
   (a:=()) trivial with⟨u,e,_⟩ | ⟨r,e,x,rfl⟩
  ·have e:lpO (q4p q39 q2c q2n q2o q1h) ((j:Int),0,S.1,S.2,R)=_:=e;rw[e];exact⟨_,S,rfl,r0⟩
  ·have e:lpO (q4p q39 q2c q2n q2o q1h) ((j:Int),0,S.1,S.2,R)=_:=e;grind
 | @set t m a x c=>
  obtain⟨p,e,hc⟩:=zxn h.d h.s c (kl rfl);obtain⟨i,hfi,hi1,hi2⟩:=zlF h.d t;have hj:=h.d.j;have hb:=h.r _ (g9 hj);unfold q1g q2p;simp only[zk,yR];simp only[ZT,zX];simp (decide:=true) only [jq,jr,jp,jo,jj,ji,rk0 (n:=⟨10,t,m,a,⟨[x],true⟩⟩) rfl,hc];by_cases h0:e=0
  rotate_left
  ·grind
  simp only[h0,UW,js,jq,jj,jo,hfi,ji,zh hj];by_cases h1:i < 0
  ·simp only[h1,jr,jp,Dk];rw[ZA (by omega) (by omega)];refine⟨_,_,rfl,rfl,rfl,by simp[Sl.set],λk h1 h2=>?_⟩;simp only[Sl.set,Int.toNat_natCast,List.getElem_set];by_cases hij:j=k
   ·grind
   ·simp only[hij,jo];exact⟨trivial,trivial,[],by simp⟩
  ·obtain⟨k,rfl⟩:∃k:Nat,i=(k:Int):=⟨_,(Dz (by omega)).symm⟩
   simp only[h1,jq,jj,jo,zh (s:=S.2.xs[j].V_) (show k < _ by omega),ji];grind
theorem zm9(a e:Int)(S:RSt):∃S',q17 (a,e,S)=q S'/\S'.1.1=S.1.1/\S'.1.2.1=S.1.2.1/\S'.2=S.2/\(e≠0->S'.1.2.2.2≠0):=by
 unfold q17 q9g;simp only[jk];by_cases h:S.1.2.2.2=0
 ·grind
 grind
noncomputable abbrev LR(F:Nat):=q3d q1g q17 (q2q F)
def zzm(m:Nat)(S:RSt)(r:RSt⊕RSt):Prop:=∃S',(r = .inl S'\/r = .inr S')/\RGr m S S'
def StR(s:Nd):Prop:=∀F (j:Nat) (S:RSt) (l:Sl RNd) (i:Nat) (hi:i < l.xs.length),l.xs[i]=rN s->l.xs.length<=50000->zm s<=F->RVc j (zm s) S->
 (∃S',LR F ((j:Int),l,(i:Int),S)=q (.next ((j:Int),l,((i+1:Nat):Int),S'))/\RGr (zm s) S S')\/∃r,LR F ((j:Int),l,(i:Int),S)=q (.done r)/\zzm (zm s) S r
def BlR(n:Nat)(ks:Sl Nd):Prop:=∀F (j:Nat) (S:RSt),n<=F->RVc j n S->∃S',q2q F ((j:Int),⟨ks.xs.map rN,ks.nn⟩,S)=q S'/\RGr n S S'
theorem zlG{ks:Sl Nd}(h:∀s∈ks.xs,StR s)(hl:zf ks.xs<=40000):BlR (zf ks.xs+1) ks:=by
 intro F j S hF hv;obtain⟨F,rfl⟩:∃k,F=k+1:=⟨F - 1,by omega⟩
 have hk:=Wb ks.xs
 have key:=goE (f:=LR F) (n:=ks.xs.length) (A:=RSt) (st:=λi a=>((j:Int),⟨ks.xs.map rN,ks.nn⟩,(i:Int),a)) (fin:=λa =>.inr a) (J:=λi a=>RGr (zf (ks.xs.take i)) S a) (bad:=zzm (zf ks.xs+1) S)
  (λi hi a ha=>by
   have hz:=YT hi;have ha2:RVc j (zm ks.xs[i]) a:=RVc.gr (hv.mono (show zf (ks.xs.take i)+zm ks.xs[i]<=_ by omega)) ha;rcases h _ (g9 hi) F j a ⟨ks.xs.map rN,ks.nn⟩ i (by simpa using hi) (by simp) (by simp;omega) (by omega) ha2 with⟨b,e,g⟩ | ⟨r,e,S',hr,g⟩
   ·refine .inl ⟨b,e,?_⟩;rw[<- D0 hi,zR];exact(ha.trans g).mono (by simp[zf])
   ·exact .inr ⟨r,e,S',hr,(ha.trans g).mono (by omega)⟩)
  (λa ha=>by
   show q3d _ _ _ _=_;unfold q3d;simp only[jk];rw[jv (by simp only[zo,Dn];omega)]
   rfl)
  (a:=S) ((RGr.refl rfl rfl rfl).mono (by omega))
 have fin':∀(o:Us (RSt⊕RSt)) (r:RSt⊕RSt) (S':RSt),o=q r->(r = .inl S'\/r = .inr S')->(o.bind λy11=>Sum.elim (λy12=>q y12) (λy13=>q y13) y11)=q S':=by
  grind
 rcases key with⟨a,e,g⟩ | ⟨r,e,S',hr,g⟩
 ·exact⟨a,fin' _ _ a e (.inr rfl),g.mono (by grind)⟩
 ·exact⟨S',fin' _ _ S' e hr,g⟩
def vm(s:Nd):List Nd:=s.K_.xs.drop 2
theorem zae{s:Nd}(g:StmtG s)(hz:zm s<=40000)(hb:s.k_=15\/s.k_=16->2<=s.K_.xs.length/\zf (vm s)+2<=zm s/\∀b∈vm s,BlR (zm b) b.K_):StR s:=by
 intro F j S l i hi hs hl hF hv;have ps:=Zh s;show(∃S',q3d _ _ _ _=_/\_)\/∃r,q3d _ _ _ _=_/\_
 unfold q3d;simp only[jk,zk];rw[ju (by simp only[zo];omega)];simp only[ji];by_cases hc:S.1.2.2.2=0
 rotate_left
 ·simp only[hc,jq,jj,jo];exact .inr ⟨_,rfl,S,.inr rfl,(RGr.refl rfl rfl rfl).mono (by omega)⟩
 simp only[hc,jr,jp,zh hi,hs,ji];obtain⟨e,S1,ho,g1⟩:=zzl g hz (hv.mono (by omega));rw[ho,ji];by_cases h0:e=0
 rotate_left
 ·obtain⟨S2,hf,f1,f2,f3,_⟩:=zm9 (rN s).a_ e S1;simp only[h0,UW,jt,jp,hf,ji];exact .inr ⟨_,rfl,S2,.inl rfl,(g1.trans (RGr.refl f1 f2 f3)).mono (by omega)⟩
 simp only[h0,UW,js,jo,ZT];have wk:=zw (show i < 1000000000 by omega);have main:(s.k_=15\/s.k_=16)->∃S',lpO (q4z q1g q17 (q2q F)) ((j:Int),l,(i:Int),2,S1.1,S1.2,rN s)=q ((j:Int),l,(i:Int),S'.1,S'.2)/\RGr (zm s) S S':=by
  intro hk;obtain⟨b1,b2,b3⟩:=hb hk;have hkl:(rN s).K_.xs=s.K_.xs.map rN:=by rw[zD]
  have hkn:(rN s).K_.xs.length=s.K_.xs.length:=by rw[hkl];simp
  have hbl:(vm s).length=s.K_.xs.length - 2:=by simp[vm]
  have hsl:=@Zl s
  obtain⟨S',e1,e2⟩:=go (f:=q4z q1g q17 (q2q F)) (n:=(vm s).length) (A:=RSt) (st:=λk a=>((j:Int),l,(i:Int),((k+2:Nat):Int),a.1,a.2,rN s)) (fin:=λa=>((j:Int),l,(i:Int),a.1,a.2)) (J:=λk a=>RGr (1+zf ((vm s).take k)) S a)
   (λk hk a ha=>by
    have hz:=YT hk;have hx:(vm s)[k]=s.K_.xs[k+2]'(by omega):=by simp[vm,Nat.add_comm]
    obtain⟨S2,q1,q2⟩:=b3 _ (g9 hk) F j a (by omega) (RVc.gr (hv.mono (show(1+zf ((vm s).take k))+zm (vm s)[k]<=_ by omega)) ha);refine⟨S2,?_,?_⟩
    ·unfold q4z;simp only[jk,zk];rw[ju (by simp only[zo];omega),zh (by omega),ji];simp only[hkl,List.getElem_map];rw[<- hx,zD];show((q2q F ((j:Int),_,a)).bind _)=_;rw[q1,ji,zw (by omega)]
    ·rw[<- D0 hk,zR]
     exact(ha.trans q2).mono (by simp only[zf];omega))
   (λa ha=>by
    unfold q4z;simp only[jk,zk]
    rw[jv (by simp only[zo];omega)])
   (a:=S1) (g1.mono (by omega))
  exact⟨S',e1,e2.mono (by grind)⟩
 by_cases h15:s.k_=15
 ·grind
 by_cases h16:s.k_=16
 ·obtain⟨S',m1,m2⟩:=main (.inr h16);grind
 ·simp only[h15,h16,jo,jq,jj,ji,wk];exact .inl ⟨S1,rfl,g1.mono (by omega)⟩
theorem zxo{s:Nd}(h:StmtG s)(hs:zm s<=40000):StR s:=by
 have blk:∀(a:Int) (b:List Nd),(∀s∈b,zm s<=40000->StR s)->zm ⟨9,lit [],0,a,mkS b⟩<=40000->BlR (zm ⟨9,lit [],0,a,mkS b⟩) (q6.mk 9 (lit []) 0 a (mkS b)).K_:=λa b ih hz=>by
  rw[zl] at hz |-
  exact zlG (λs hs=>ih s hs (by have:=XR hs;omega)) (by omega)
 induction h with
 | @ite op n a x y b1 a1 b2 a2 hx hy h1 h2 i1 i2=>
  refine zae (.ite hx hy h1 h2) hs λ_=>?_
  have px:=Zh x;have py:=Zh y;rw[zl] at hs |-;simp only[zf] at hs;refine⟨by simp,by simp only[vm,E,zf];omega,λb hb=>?_⟩;rcases UO.1 hb with rfl | hb
  all_goals grind
 | @whl op n a x y b1 a1 hx hy h1 i1=>
  refine zae (.whl hx hy h1) hs λ_=>?_
  have px:=Zh x;have py:=Zh y;rw[zl] at hs |-;simp only[zf] at hs;refine⟨by simp,by simp only[vm,E,zf];omega,λb hb=>?_⟩;rw[Dl.1 hb];grind
 | @leaf k t n a c=>exact zae (.leaf c) hs λh=>by grind
 |ret c=>exact zae (.ret c) hs λh=>by simp at h
 |fork c=>exact zae (.fork c) hs λh=>by simp at h
 |call c=>exact zae (.call c) hs λh=>by simp at h
 |store c d=>exact zae (.store c d) hs λh=>by simp at h
 |set c=>exact zae (.set c) hs λh=>by simp at h
theorem zxp{b:Nd}(h:VI b)(hs:zm b<=40000):BlR (zm b) b.K_:=by
 obtain⟨a,l,rfl,hl⟩:=h;rw[zl] at hs |-
 have hs:zf l+1<=40000:=hs;exact zlG (λs hs'=>zxo (hl s hs') (by have:zm s<=zf l:=XR hs';omega)) (by grind)
structure Smr(S S':RSt):Prop where
 s:S'.1.1=S.1.1
 t:S'.1.2.1=S.1.2.1
 f:S'.2=S.2
theorem Smr.refl{S:RSt}:Smr S S:=⟨rfl,rfl,rfl⟩
theorem Smr.trans{a b c:RSt}(h:Smr a b)(g:Smr b c):Smr a c:=⟨g.s.trans h.s,g.t.trans h.t,g.f.trans h.f⟩
theorem za9(a e:Int)(S:RSt):∃S',Smr S S'/\q17 (a,e,S.1,S.2)=q S'/\(e≠0->S'.1.2.2.2≠0):=by
 obtain⟨S',h,h1,h2,h3,h4⟩:=zm9 a e S;exact⟨S',⟨h1,h2,h3⟩,h,h4⟩
theorem zhC(c:Prop)[Decidable c](a e:Int)(S:RSt):∃S',Smr S S'/\∀(β:Type) (g:RSt->Us β),(if c then(q17 (a,e,S.1,S.2)).bind g else g S)=g S':=by
 by_cases h:c
 ·obtain⟨S',h1,h2,_⟩:=za9 a e S;grind
 ·exact⟨S,.refl,λβ g=>jv h⟩
theorem zxq(n:Uq)(z:Uq×Int)(v:Sl RP)(h:v.xs.length<=1000000):∃i,q40 (n,z,v)=q (i,z,v):=by
 have:=XB (f:=q5g) (xs:=v.xs) (p:=λx=>decide (x.N_=n)) (st:=λi=>(n,(i:Int),z,v)) (yes:=λi =>.inl ((i:Int),z,v)) (no :=.inr (z,v))
  (λi hi=>by
   unfold q5g;simp only[jk];rw[ju (by simp only[zo];omega),zh hi,ji,ji,zw (by omega)]
   split<;>rfl)
  (by unfold q5g;simp only[jk];rw[jv (by simp only[zo];omega)])
 unfold q40 q9h;have this:lpO q5g (n,0,z,v)=_:=this;simp only[this];cases v.xs.findIdx? _<;>exact⟨_,rfl⟩
theorem zxr {k:Nd}(h:FnG k) (hs:zm k<=40000) {S:RSt}(hS:S.1.2.1=mkS (t.map rT)) (ht:t.length<=100000) :
    ∃S' vars,q41 (rN k,S)=q ((k.T_,((yl k).length:Int)),S'.1,S'.2,vars)/\Smr S S'/\(S'.1.2.2.2≠0\/(yl k).length<=8/\vars.xs=(yl k).map λx=>rP (ZH t x)):=by
  obtain⟨h6,ps,r,b,hk,hp,hr,hr8,hb⟩:=h;have hlen:k.K_.xs.length=ps.length+2:=by rw[hk];simp
  have hps:yl k=ps:=by unfold yl;grind
  have hkl:=@Zl k;have ek:(rN k).K_.xs=k.K_.xs.map rN:=by rw[zD]
  have ekl:(rN k).K_.xs.length=k.K_.xs.length:=by rw[ek];simp
  rw[hps];have hc:Ut ((rN k).K_.len - 2)=(ps.length:Int):=by rw[zo,ekl,hlen,zK (by omega) (by omega)];omega
  have hgr:zb (rN k).K_ (ps.length:Int)=q (rN r):=by rw[zh (by omega)];grind
  unfold q41 q9i;simp only[zk];simp only[hc,jk,zX];by_cases h8:8 < (ps.length:Int)
  ·obtain⟨S',s1,e1,e2⟩:=za9 (rN k).a_ 22 S;have e1:q17 ((rN k).a_,22,S)=_:=e1;simp only[h8,jp,e1,ji];grind
  simp only[h8,jo]
  obtain⟨⟨S1,vars⟩,e1,s1,v1⟩:=go (f:=q5h q17 q40 q16) (n:=ps.length) (A:=RSt×Sl RP)
    (st:=λi a=>((ps.length:Int),(i:Int),a.1.1,a.1.2,rN k,(lit [],0),(k.T_,(ps.length:Int)),a.2)) (fin:=λa=>((ps.length:Int),a.1.1,a.1.2,rN k,(lit [],0),(k.T_,(ps.length:Int)),a.2))
    (J:=λi a=>Smr S a.1/\a.2.xs=(ps.take i).map λx=>rP (ZH t x))
    (λi hi a ha=>by
      obtain⟨a,vars⟩:=a;obtain⟨hsm,hv⟩:=ha;simp only at hv hsm;obtain⟨_,m,hm,hmg⟩:=hp _ (g9 hi);have vl:vars.xs.length<=40000:=by grind
      have k0:zQ ps[i]=m:=by unfold zQ;rw[hm];rfl
      have fin':∀p:RP,rP (ZH t ps[i])=p->(⟨vars.xs++[p],true⟩:Sl RP).xs=(ps.take (i+1)).map λx=>rP (ZH t x):=by
        intro p hp;rw[<- D0 hi];grind
      have hx:zb (rN k).K_ (i:Int)=q (rN ps[i]):=by
        rw[zh (by omega)];grind
      obtain⟨x,hfx⟩:=zxq ps[i].T_ (k.T_,(ps.length:Int)) vars (by omega);obtain⟨a1,q1,q2⟩:=zhC (0<=x) (rN ps[i]).a_ 30 a;unfold q5h;simp only[jk,zk];rw[ju (by omega)];simp only[hx,ji,rk0 hm];simp only[zX,hfx,ji,zk];rw[q2];simp only[ji];have hno:m.T_≠lit [111,119,110]->rP (ZH t ps[i])=⟨ps[i].T_,1,0⟩:=λh=>by unfold ZH;rw[k0,jv h];rfl
      have wk:=zw (show i < 1000000000 by omega);have hT:m.T_=lit [105,110,116]\/m.T_=lit [111,119,110]\/m.T_=lit [38]\/m.T_=lit [38,109,117,116]:=by
        rcases hmg.2 with⟨h1,_⟩ | ⟨h1,_⟩
        all_goals grind
      rcases hT with hT | hT | hT | hT
      ·simp (decide:=true) only [hT,Zy,jo,jq,jj,ji,zX];rw[ZA (by omega) (by omega)];simp only[ji,wk];exact⟨(a1,_),rfl,hsm.trans q1,fin' _ (hno (by rw[hT];simp (decide:=true) only [UW,Zy]))⟩
      · obtain⟨y,hy⟩:=zlD hmg hT;have hpo:rP (ZH t ps[i])=⟨ps[i].T_,2,idT y.T_ t⟩:=by unfold ZH;rw[k0,ju hT];unfold zQ;rw[hy];rfl
        obtain⟨a2,q3,q4⟩:=zhC (idT y.T_ t < 0) (rN m).a_ 31 a1;have ht1:a1.1.2.1=mkS (t.map rT):=by rw[q1.t,hsm.t,hS]
        simp (decide:=true) only [hT,Zy,jo,jq,jj,ji,zX,jp,rk0 hy,ht1,zac t _ (show t.length<=1000000 by omega)];rw[q4];simp only[ji];rw[ZA (by omega) (by omega)];simp only[ji,wk];exact⟨(a2,_),rfl,(hsm.trans q1).trans q3,fin' _ hpo⟩
      ·obtain⟨a2,q3,q4,_⟩:=za9 (rN m).a_ 34 a1;simp (decide:=true) only [hT,Zy,jo,jp,jq,jj,ji,zX,q4];rw[ZA (by omega) (by omega)];simp only[ji,wk];exact⟨(a2,_),rfl,(hsm.trans q1).trans q3,fin' _ (hno (by rw[hT];simp (decide:=true) only [UW,Zy]))⟩
      · obtain⟨a2,q3,q4,_⟩:=za9 (rN m).a_ 34 a1;simp (decide:=true) only [hT,Zy,jo,jp,jr,jq,jj,ji,zX,q4];rw[ZA (by omega) (by omega)];simp only[ji,wk]
        exact⟨(a2,_),rfl,(hsm.trans q1).trans q3,fin' _ (hno (by rw[hT];simp (decide:=true) only [UW,Zy]))⟩)
    (λa ha=>by
      unfold q5h;simp only[jk,zk]
      grind)
    (a:=(S,Sl.mk [] false)) ⟨.refl,by simp⟩
  have e1:lpO (q5h q17 q40 q16) ((ps.length:Int),0,S.1,S.2,rN k,(lit [],0),(k.T_,(ps.length:Int)),Sl.mk [] false)=_:=e1;rw[e1];simp only[ji,hgr];rw[Df] at v1;obtain⟨S2,q1,q2⟩:=zhC (¬(rN r).T_=lit []) (rN r).a_ 35 S1;simp only[zX,UW] at q2 |-
  rw[q2];exact⟨S2,vars,rfl,s1.trans q1,.inr ⟨by omega,v1⟩⟩
structure RFnR(m:Nat)(t:List PT)(k:Nd)(f:RFt):Prop where
 g:FnG k
 n:f.N_=k.T_
 p:f.P_=((yl k).length:Int)
 l:(yl k).length<=8
 v:∃ex,f.V_.xs=((yl k).map λx=>rP (ZH t x))++ex/\ex.length<=m
theorem RFnR.mono{a:RFt}(h:RFnR m t n a)(hm:m<=k):RFnR k t n a:=⟨h.g,h.n,h.p,h.l,by obtain⟨e1,v1,l1⟩:=h.v;grind⟩
def yz(m:Nat)(t:List PT)(ks:List Nd)(fs:List RFt):Prop:=∃h:fs.length=ks.length,∀i (hi:i < ks.length),RFnR m t ks[i] (fs[i]'(by omega))
theorem yz.mono{fs:List RFt}(h:yz m t ks fs)(hm:m<=k):yz k t ks fs:=⟨h.1,λi hi=>(h.2 i hi).mono hm⟩
theorem yz.snoc{fs:List RFt}{k:Nd}{f:RFt}(h:yz m t ks fs)(g:RFnR m t k f):yz m t (ks++[k]) (fs++[f]):=by
 have hl:=h.1;refine⟨by simp[hl],λi hi=>?_⟩;rw[jx,jz] at hi;by_cases c:i < ks.length
 ·rw[D c,D (by omega)];exact h.2 i c
 ·obtain rfl:i=ks.length:=by omega
  rw[C (U7 _),C (by omega)];grind
theorem yz.vc{S:RSt}(h:yz m t ks S.2.xs)(hs:S.1.1.xs.length<=50000)(hk:ks.length<=50000)(hm:m+5000<=50000){i:Nat}(hi:i < ks.length):RVc i 5000 S:=by
 have key:∀f∈S.2.xs,f.V_.xs.length<=m+8/\0<=f.P_/\f.P_<=f.V_.xs.length:=by
  intro f hf;obtain⟨j,hj,rfl⟩:=B hf;have r:=h.2 j (by rw[<- h.1];exact hj);obtain⟨e1,v1,l1⟩:=r.v;have:=congrArg w v1;rw[jx,Dn] at this;have h8:=r.l;have hp:=r.p;grind
 exact⟨⟨by rw[h.1];exact hi,λf hf=>⟨by grind,(key f hf).2⟩,by rw[h.1];exact hk⟩,λf hf=>by grind,hs⟩
theorem yz.gr{a b:RSt}(h:yz m t ks a.2.xs)(g:RGr k a b):yz (m+k) t ks b.2.xs:=
 ⟨g.l.trans h.1,λi hi=>by
  have r:=h.2 i hi;obtain⟨g1,g2,ex,g3,g4⟩:=g.f i (by grind) (by rw[g.l,h.1];exact hi);obtain⟨e1,v1,l1⟩:=r.v
  exact⟨r.g,g1.trans r.n,g2.trans r.p,r.l,e1++ex,by grind,by grind⟩⟩
noncomputable abbrev RC0:=q3e q17 q41 q4c q26
noncomputable abbrev RC1:=q3f q17 q41 q4c q26
theorem zxs (hg:UnitG n) (sg:Sl RSg) (t:List PT) (ht:t.length<=100000) :
    ∃S:RSt,lpO RC0 (0,rN n,(sg,mkS (t.map rT),0,0),Sl.mk [] false)=q (rN n,S)/\S.1.1=sg/\S.1.2.1=mkS (t.map rT)/\(S.1.2.2.2=0->yz 0 t n.K_.xs S.2.xs):=by
  have hkl:=@Zl n;have hsz:=hg.size;have ek:(rN n).K_.xs=n.K_.xs.map rN:=by rw[zD]
  have ekl:(rN n).K_.xs.length=n.K_.xs.length:=by rw[ek];simp
  rcases goE (f:=RC0) (n:=n.K_.xs.length) (A:=RSt) (st:=λi a=>((i:Int),rN n,a)) (fin:=λa=>(rN n,a)) (J:=λi a=>a.1.1=sg/\a.1.2.1=mkS (t.map rT)/\a.2.xs.length<=i/\(a.1.2.2.2=0->yz 0 t (n.K_.xs.take i) a.2.xs)) (bad:=λr=>∃S:RSt,r=(rN n,S)/\S.1.1=sg/\S.1.2.1=mkS (t.map rT)/\S.1.2.2.2≠0)
    (λi hi S ha=>by
      obtain⟨a1,a2,a3,a4⟩:=ha;show(∃a',q3e _ _ _ _ _=_/\_)\/∃r,q3e _ _ _ _ _=_/\_
      unfold q3e;simp only[jk,zk];rw[ju (by simp only[zo];omega)];simp only[ji];by_cases hc:S.1.2.2.2=0
      rotate_left
      ·grind
      have hx:zb (rN n).K_ (i:Int)=q (rN n.K_.xs[i]):=by rw[zh (by omega)];grind
      simp only[hc,jr,jp,hx,ji,ZT];by_cases h6:n.K_.xs[i].k_=6
      rotate_left
      ·obtain⟨S',s1,e1,e2⟩:=za9 (rN n.K_.xs[i]).a_ 50 S;have e1:q17 ((rN n.K_.xs[i]).a_,50,S)=_:=e1;simp only[h6,UW,jt,jp,e1,ji];exact .inr ⟨_,rfl,S',rfl,s1.s.trans a1,s1.t.trans a2,e2 (by decide)⟩
      have hf:FnG n.K_.xs[i]:=by
        rcases hg.kid _ (g9 hi) with h | h
        ·exact absurd h.1 (by grind)
        ·exact h
      obtain⟨S',vars,e,s1,hv⟩:=zxr hf (by have:=yF (g9 hi);omega) a2 ht;have hl:S'.2.xs.length<=i:=by rw[s1.f];exact a3
      simp only[h6,UW,js,jo,e,ji];rw[ZA (by omega) (by omega),ji,zw (by omega)];refine .inl ⟨(S'.1,_),rfl,s1.s.trans a1,s1.t.trans a2,by grind,λh0=>?_⟩;rcases hv with hv | ⟨h8,hv⟩
      ·grind
      rw[<- D0 hi];simp only[s1.f]
      exact(a4 hc).snoc ⟨hf,rfl,rfl,h8,[],by simp[hv],by simp⟩)
    (λS ha=>by
      show q3e _ _ _ _ _=_;unfold q3e;simp only[jk,zk];rw[jv (by simp only[zo];omega)]
      rfl)
    (a:=((sg,mkS (t.map rT),0,0),Sl.mk [] false)) ⟨rfl,rfl,by simp,λ_=>⟨by simp,λi hi=>by simp at hi⟩⟩ with⟨S,e,h1,h2,_,h3⟩ | ⟨r,e,S,rfl,h1,h2,h3⟩
  all_goals grind
theorem zxt (hg:UnitG n) (t:List PT) {S0:RSt}(hs:S0.1.1.xs.length<=50000) (h0:S0.1.2.2.2=0->yz 0 t n.K_.xs S0.2.xs) :
    ∃S:RSt,lpO RC1 (0,rN n,S0)=q S/\(S.1.2.2.2=0->yz 5000 t n.K_.xs S.2.xs):=by
  have hkl:=@Zl n;have hsz:=hg.size;have hse:=zl n;have ek:(rN n).K_.xs=n.K_.xs.map rN:=by rw[zD]
  have ekl:(rN n).K_.xs.length=n.K_.xs.length:=by rw[ek];simp
  rcases goE (f:=RC1) (n:=n.K_.xs.length) (A:=RSt) (st:=λi a=>((i:Int),rN n,a)) (fin:=λa=>a) (J:=λi a=>a.1.1.xs.length<=50000/\(a.1.2.2.2=0->yz (zf (n.K_.xs.take i)) t n.K_.xs a.2.xs)) (bad:=λr=>r.1.2.2.2≠0)
    (λi hi S ha=>by
      obtain⟨a1,a4⟩:=ha;have hst:=YT hi;show(∃a',q3f _ _ _ _ _=_/\_)\/∃r,q3f _ _ _ _ _=_/\_
      unfold q3f;simp only[jk,zk];rw[ju (by simp only[zo];omega)];simp only[ji];by_cases hc:S.1.2.2.2=0
      rotate_left
      ·grind
      have hR:=a4 hc;have r:=hR.2 i hi;obtain⟨_,ps,rr,b,hk,_,_,_,hb⟩:=r.g;have hlen:n.K_.xs[i].K_.xs.length=ps.length+2:=by rw[hk];simp
      have hki:=@Zl n.K_.xs[i];have hbz:=yF (n:=n.K_.xs[i]) (k:=b) (by rw[hk];simp);have ek2:(rN n.K_.xs[i]).K_.xs=n.K_.xs[i].K_.xs.map rN:=by rw[zD]
      have ekl2:(rN n.K_.xs[i]).K_.xs.length=n.K_.xs[i].K_.xs.length:=by rw[ek2];simp
      have hgl:zb (rN n.K_.xs[i]).K_ (Ut ((rN n.K_.xs[i]).K_.len - 1))=q (rN b):=by
        rw[zo,ekl2,hlen,zK (by omega) (by omega),show(((ps.length+2:Nat):Int) - 1)=((ps.length+1:Nat):Int) by omega,zh (by omega)];grind
      have hx:zb (rN n).K_ (i:Int)=q (rN n.K_.xs[i]):=by rw[zh (by omega)];grind
      have hfl:=hR.1;simp only[hc,jr,jp,hx,ji,zh (s:=S.2) (show i < _ by omega),hgl];have vc:RVc i 5000 S:=hR.vc a1 (by omega) (by omega) hi;obtain⟨S1,e,g⟩:=zxp hb (by omega) 100000 i S (by omega) (vc.mono (by omega));rw[<- zD] at e;have e:q4c ((i:Int),(rN b).K_,S)=_:=e;have gl:S1.2.xs.length=S.2.xs.length:=g.l;have hci:i < S1.2.xs.length:=by omega
      have fin':FnG n.K_.xs[i]->yz (zf (n.K_.xs.take (i+1))) t n.K_.xs S1.2.xs:=by
        intro _;rw[<- D0 hi,zR];exact(yz.gr hR g).mono (by simp only[zf];omega)
      have fin':=fin' r.g;obtain⟨cc,rc,_,e1,_,_,_⟩:=zlB r.g (by omega);have a1':S1.1.1.xs.length<=50000:=by rw[g.s];exact a1
      have wk:=zw (show i < 1000000000 by omega);simp only[e,ji,e1,zh hci];have tail:∀c:Bool,∃a':RSt,(((if c=true then(q17 ((rN n.K_.xs[i]).a_,22,S1.1,S1.2)).bind λy20=>q ((i:Int),rN n,y20) else q ((i:Int),rN n,S1.1,S1.2)).bind λy21:Int×RNd×RSt=>q (Step.next (Ut (y21.1+1),y21.2.1,y21.2.2):Step _ RSt)))=q (.next (((i+1:Nat):Int),rN n,a'))/\a'.1.1.xs.length<=50000/\(a'.1.2.2.2=0->yz (zf (n.K_.xs.take (i+1))) t n.K_.xs a'.2.xs):=by
        intro c;cases c
        ·grind
        ·obtain⟨S',s1,e1,e2⟩:=za9 (rN n.K_.xs[i]).a_ 22 S1;simp only[jp,e1,ji,wk];exact⟨S',rfl,by rw[s1.s];exact a1',λ_=>by grind⟩
      by_cases h64:64 < Sl.len S1.2.xs[i].V_
      ·simp only[h64,jp,ji];exact .inl (tail true)
      · simp only[h64,jo,ji]
        exact .inl (tail (decide (512 < Sl.len rc.2.2))))
    (λS ha=>by
      show q3f _ _ _ _ _=_;unfold q3f;simp only[jk,zk];rw[jv (by simp only[zo];omega)]
      rfl)
    (a:=S0) ⟨hs,by simpa[zf] using h0⟩ with⟨S,e,h1,h3⟩ | ⟨r,e,h3⟩
  ·rw[Df] at h3;exact⟨S,e,λh=>(h3 h).mono (by omega)⟩
  grind
theorem zrS (hg:UnitG n) (sg:Sl RSg) (t:List PT) (hs:sg.xs.length<=50000) (ht:t.length<=100000) :
    ∃S:RSt,q3s (rN n,sg,mkS (t.map rT))=q S/\(S.1.2.2.2≠0/\S.2.xs=[]\/S.1.2.2.2=0/\yz 5000 t n.K_.xs S.2.xs):=by
  obtain⟨S1,e1,h1,h2,h3⟩:=zxs hg sg t ht;obtain⟨S2,e2,h4⟩:=zxt hg t (S0:=S1) (by grind) h3;unfold q3s q89;simp only[zk,jk];rw[e1];simp only[ji];rw[e2];simp only[ji];by_cases hc:S2.1.2.2.2=0
  ·grind
  grind
end Go.Px
