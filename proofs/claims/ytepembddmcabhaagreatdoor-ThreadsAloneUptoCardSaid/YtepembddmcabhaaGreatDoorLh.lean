/- Part Lh. -/
import Derived.Test.YtepembddmcabhaaGreatDoorLg
set_option linter.unusedVariables false
set_option linter.unusedSimpArgs false
namespace Go.Px
variable{j k m:Nat}{ks:List Nd}{n:Nd}{t:List PT}
abbrev RFt:=qe
abbrev RSt:=(Sl RSg×Sl RTy×Int×Int)×Sl RFt
structure RVd (j:Nat) (fs:Sl RFt):Prop where
 j:j < fs.xs.length
 v:∀ f∈fs.xs,f.V_.xs.length<=60000/\0<=f.P_/\f.P_<=f.V_.xs.length
 f:fs.xs.length<=50000
theorem zkP {fs:Sl RFt}(h:RVd j fs) (n:Ua):∃ i:Int,q2a ((j:Int),n,fs)=some (i,fs)/\ -1<=i/\i < (fs.xs[j]'h.j).V_.xs.length:=by
 have hj:=h.j;have hv:=(h.v _ (jx hj)).1
 have:=x9 (f:=q4d) (xs:=fs.xs[j].V_.xs) (p:=fun x=>decide (x.n_=n)) (st:=fun i=>((j:Int),n,(i:Int),fs)) (yes:=fun i =>.inl ((i:Int),fs)) (no :=.inr fs)
  (fun i hi=>by
   unfold q4d;simp only [jh,zi hj,jf];rw [jr (by simp only [zo];omega)];simp only [zi hi,jf,zx (show i < 1000000000 by omega)]
   grind)
  (by
   unfold q4d;simp only [jh,zi hj,jf]
   rw [js (by simp only [zo];omega)])
 refine ⟨idx (fun x=>decide (x.n_=n)) fs.xs[j].V_.xs,?_,YO.1,YO.2.1⟩;unfold q2a q7f;have this:lpO q4d ((j:Int),n,0,fs)=_:=this;simp only [this];unfold idx;cases fs.xs[j].V_.xs.findIdx? _ <;> rfl
theorem zdw {fs:Sl RFt}(h:RVd j fs) (n:Ua):∃ p e,q4i ((j:Int),n,fs)=some (p,e,fs):=by
 obtain ⟨i,e,h1,h2⟩:=zkP h n;have hj:=h.j;unfold q4i q94;simp only [e,jf,jh];by_cases h0:i < 0
 ·simp only [h0,jl];grind
 obtain ⟨k,rfl⟩:∃ k:Nat,i=(k:Int):=⟨_,(Dg (by omega)).symm⟩
 simp only [h0,jk,zi hj,jf,zi (s:=fs.xs[j].V_) (show k < _ by omega)];grind
theorem zdx {fs:Sl RFt}(h:RVd j fs) (n:RNd) (p:RP):∃ e,q1h ((j:Int),n,p,fs)=some (e,fs):=by
 obtain ⟨k,e,hk⟩:=zdw h n.T_;unfold q1h q95;simp only [zk,jh];by_cases h1:n.T_=lit []
 ·simp only [h1,jl];by_cases h2:p.M_=1
  ·grind
  grind
 simp only [h1,jk,jf,ji,hk];by_cases h3:e=0
 rotate_left
 ·grind
 simp (decide:=true) only [h3,UF,jp,jk];by_cases h4:p.M_=1
 ·simp only [h4,jl];by_cases h5:k.M_=1
  ·grind
  grind
 simp only [h4,jk,jf,ji];have fin':∀ (b:Bool),∃ e,((if ¬n.N_=0 then some (true,fs) else if ¬k.t_=p.t_ then some (true,fs) else if ¬k.M_=p.M_ then some (!b,fs) else some (false,fs)).bind fun y8:Bool×Sl RFt=>if y8.1=true then some ((40:Int),y8.2) else some (0,y8.2))=some (e,fs):=by
  intro b;split
  ·grind
  grind
 by_cases h6:p.M_=3
 ·grind
 grind
theorem zv6 {fs:Sl RFt}(h:RVd j fs) (l:Sl RNd) (p:Sl RP) (hl:l.xs.length<=50000):∃ e,q32 ((j:Int),l,p,fs)=some (e,fs):=by
 unfold q32 q96;simp only [jh];by_cases hlen:Sl.len l=Sl.len p
 rotate_left
 ·simp only [hlen,UF,jq,jl];grind
 simp only [hlen,UF,jp,jk];simp only [zo] at hlen
 rcases goE (f:=q6q q1h) (n:=l.xs.length) (A:=Sl RFt) (st:=fun i a=>((j:Int),l,p,(i:Int),a)) (fin:=fun a =>.inr a) (J:=fun i a=>a=fs) (bad:=fun r=>∃ e,r = .inl (e,fs))
  (fun i hi a ha=>by
   subst ha;unfold q6q;simp only [jh,zk];rw [jr (by simp only [zo];omega),zi hi,jf,zi (s:=p) (show i < _ by omega),jf];obtain ⟨e,he⟩:=zdx h l.xs[i] (p.xs[i]'(by omega));rw [he,jf];by_cases h0:e=0
   ·simp only [h0,UF,jp,jk,zx (show i < 1000000000 by omega)];grind
   grind)
  (fun a ha=>by
   unfold q6q;simp only [jh]
   rw [js (by simp only [zo];omega)])
  (a:=fs) rfl with ⟨a,e,rfl⟩ | ⟨r,e,x,rfl⟩
 ·grind
 grind
theorem zmb {S:RSt}(h:RVd j S.2) (hs:S.1.1.xs.length<=50000) (n:RNd) (hn:n.K_.xs.length<=50000):∃ p e,q2l ((j:Int),n,S)=some (p,e,S):=by
 unfold q2l q97;simp only [zk]
 rcases goE (f:=q43 q32) (n:=S.1.1.xs.length) (A:=Unit) (st:=fun i _=>((j:Int),(i:Int),S.1,S.2,n,qf.mk (lit []) 0 0)) (fin:=fun _ =>.inr (S.1,S.2,qf.mk (lit []) 0 0)) (J:=fun _ _=>True) (bad:=fun r=>∃ e p,r = .inl (e,S.1,S.2,p))
  (fun i hi a _=>by
   unfold q43;simp only [jh,zk];rw [jr (by simp only [zo];omega),zi hi,jf];split
   ·rw [jf];obtain ⟨e,he⟩:=zv6 h n.K_ S.1.1.xs[i].P_ hn;grind
   ·rw [zx (by omega)]
    exact .inl ⟨(),rfl,trivial⟩)
  (fun a _=>by
   unfold q43;simp only [jh]
   rw [js (by simp only [zo];omega)])
  (a:=()) trivial with ⟨a,e,_⟩ | ⟨r,e,x,p,rfl⟩
 ·have e:lpO (q43 q32) ((j:Int),0,S.1,S.2,n,qf.mk (lit []) 0 0)=_:=e;rw [e];exact ⟨_,_,rfl⟩
 ·have e:lpO (q43 q32) ((j:Int),0,S.1,S.2,n,qf.mk (lit []) 0 0)=_:=e;rw [e];exact ⟨_,_,rfl⟩
theorem zsV {fs:Sl RFt}(h:RVd j fs) (l:Sl RNd) (hl:l.xs.length<=50000) (hk:k < fs.xs.length):∃ e,q2m ((j:Int),l,((k:Int),0,fs.xs[k].P_),fs)=some (e,fs):=by
 obtain ⟨v1,v2,v3⟩:=h.v _ (jx hk);have hgs:=YJ (s:=fs.xs[k].V_) (lo:=0) (hi:=fs.xs[k].P_) (by omega) v2 v3;rw [show (0:Int).toNat=0 from rfl,UN] at hgs;unfold q2m q7g;simp only [jh,zi hk,hgs,jf];by_cases hlen:Sl.len l=fs.xs[k].P_ - 0
 rotate_left
 ·simp only [hlen,UF,jq,jl];grind
 simp only [hlen,UF,jp,jk];simp only [zo] at hlen
 rcases goE (f:=q3m q1h) (n:=l.xs.length) (A:=Sl RFt) (st:=fun i a=>((j:Int),l,((k:Int),0,fs.xs[k].P_),(i:Int),a)) (fin:=fun a =>.inr a) (J:=fun i a=>a=fs) (bad:=fun r=>∃ e,r = .inl (e,fs))
  (fun i hi a ha=>by
   subst ha;unfold q3m;simp only [jh,zk];have hi2:i < a.xs[k].V_.xs.length:=by omega
   rw [jr (by simp only [zo];omega),zi hi,jf,zi hk,jf,hgs,jf];rw [zi (s:=⟨_,_⟩) (by grind)];simp only [jf,Int.zero_add];rw [zi hi2,jf];obtain ⟨e,he⟩:=zdx h l.xs[i] (a.xs[k].V_.xs[i]);rw [he,jf];by_cases h0:e=0
   ·simp only [h0,UF,jp,jk,zx (show i < 1000000000 by omega)];grind
   grind)
  (fun a ha=>by
   unfold q3m;simp only [jh]
   rw [js (by simp only [zo];omega)])
  (a:=fs) rfl with ⟨a,e,rfl⟩ | ⟨r,e,x,rfl⟩
 ·have e:lpO (q3m q1h) ((j:Int),l,((k:Int),0,a.xs[k].P_),0,a)=_:=e;grind
 ·have e:lpO (q3m q1h) ((j:Int),l,((k:Int),0,fs.xs[k].P_),0,fs)=_:=e;grind
theorem zv7 {S:RSt}(h:RVd j S.2) (hs:S.1.1.xs.length<=50000) (g:ExprG n) (hn:n.K_.xs.length<=50000):∃ p e,q33 ((j:Int),rN n,S)=some (p,e,S):=by
 have elim_inl:∀ {α β γ:Type} (f:α->γ) (g:β->γ) (a:α),Sum.elim f g (.inl a)=f a:=fun _ _ _=>rfl
 unfold q33 q98;simp only [zk,yP];simp only [ZT,z6];obtain ⟨k,e,hk⟩:=zdw h n.T_;cases g with
 |term h5 h0=>
  simp only [h5,jo,jl];by_cases ht:n.T_=lit []
  ·simp only [ht,jo,jl,jf,jj];grind
  simp only [ht,jm,jg,jk,hk,jf];by_cases h1:e=0
  ·simp only [h1,jo,jl];by_cases h2:(rN n).N_=0
   ·simp only [h2,UF,jp,jm,jg,jk,jf,jj];grind
   ·simp only [h2,UF,jq,jo,jl,jf];by_cases h3:k.M_=1
    ·simp only [h3,jp,jm,jg,jk,jf,jj];grind
    ·simp only [h3,jq,jo,jl,jf,jj];grind
  ·simp only [h1,jm,jg,jk,jf,jj];grind
 |leaf h5 h0=>
  rcases h5 with h5 | h5 | h5 | h5
  ·simp (decide:=true) only [h5,jm,jo,jl,jk,jg,jf,ji];grind
  ·simp (decide:=true) only [h5,jm,jo,jl,jk,jg,jf,ji];grind
  all_goals
   simp (decide:=true) only [h5,jm,jo,jl,jk,jg,jf,z6,ZT,hk];by_cases h1:e=0
   ·simp only [h1,UF,jp,jm,jg,jk];by_cases h2:k.M_=2
    ·simp only [h2,jp,jm,jg,jk,jf,jj];grind
    ·simp only [h2,jq,jo,jl,jf,jj];grind
   ·simp only [h1,UF,jq,jo,jl,jf,jj];grind
 |call h5=>
  obtain ⟨p,e,hc⟩:=zmb h hs (rN n) (by rw [zF];simpa using hn);simp (decide:=true) only [h5.1,jm,jo,jl,jk,jg,jf,hc];by_cases h1:e=0
  ·simp only [h1,jo,jl,jf];by_cases h2:p.M_=0
   ·grind
   grind
  grind
 |load h5 _ _=>
  simp (decide:=true) only [h5,jm,jo,jl,jk,jg,jf,ji];grind
 | @two x y h5 h6 _ _=>
  obtain ⟨k1,e1,hk1⟩:=zdw h x.T_;obtain ⟨k2,e2,hk2⟩:=zdw h y.T_;rcases h5 with h5 | h5 <;>
  ·simp (decide:=true) only [h5,jm,jo,jl,jk,jg,jf,rk0 h6,rk1 h6,z6,hk1];by_cases h1:e1=0
   rotate_left
   ·simp only [h1,UF,jq,jo,jl,jf,jj];grind
   simp only [h1,UF,jp,jm,jg,jk,hk2,jf];by_cases h2:e2=0
   rotate_left
   ·simp only [h2,UF,jq,jo,jl,jf,jj];grind
   simp only [h2,UF,jp,jm,jg,jk];by_cases h3:k1.M_=1 <;> by_cases h4:k2.M_=1 <;>
   ·simp only [h3,h4,jp,jq,jo,jm,jg,jl,jk,jf,jj];exact ⟨_,_,rfl⟩
structure RGr (m:Nat) (a b:RSt):Prop where
 s:b.1.1=a.1.1
 t:b.1.2.1=a.1.2.1
 l:b.2.xs.length=a.2.xs.length
 f:∀ i (h:i < a.2.xs.length) (h':i < b.2.xs.length),b.2.xs[i].n_=a.2.xs[i].n_/\b.2.xs[i].P_=a.2.xs[i].P_/\∃ ex,b.2.xs[i].V_.xs=a.2.xs[i].V_.xs++ex/\ex.length<=m
theorem RGr.refl {a b:RSt}(h1:b.1.1=a.1.1) (h2:b.1.2.1=a.1.2.1) (h4:b.2=a.2):RGr 0 a b:=
 ⟨h1,h2,by rw [h4],fun i h h'=>by simp only [h4];exact ⟨trivial,trivial,[],by simp⟩⟩
theorem RGr.trans {a b c:RSt}(h:RGr m a b) (g:RGr k b c):RGr (m+k) a c:=
 ⟨g.s.trans h.s,g.t.trans h.t,g.l.trans h.l,fun i h1 h2=>by
  have hb:i < b.2.xs.length:=by rw [h.l];exact h1
  obtain ⟨n1,p1,x1,v1,l1⟩:=h.f i h1 hb;obtain ⟨n2,p2,x2,v2,l2⟩:=g.f i hb h2
  grind⟩
theorem RGr.mono {a b:RSt}(h:RGr m a b) (hm:m<=k):RGr k a b:=
 ⟨h.s,h.t,h.l,fun i h1 h2=>by obtain ⟨n1,p1,x1,v1,l1⟩:=h.f i h1 h2;grind⟩
structure RVc (j k:Nat) (S:RSt):Prop where
 d:RVd j S.2
 r:∀ f∈S.2.xs,f.V_.xs.length+k<=60000
 s:S.1.1.xs.length<=50000
theorem RVc.gr {a b:RSt}(h:RVc j (m+k) a) (g:RGr m a b):RVc j k b:=by
 have key:∀ f∈b.2.xs,f.V_.xs.length+k<=60000/\0<=f.P_/\f.P_<=f.V_.xs.length:=by
  intro f hf;obtain ⟨i,hi,rfl⟩:=List.getElem_of_mem hf;have ha:i < a.2.xs.length:=by rw [<- g.l];exact hi
  obtain ⟨n1,p1,x1,v1,l1⟩:=g.f i ha hi;have h1:=h.r _ (jx ha);have h2:=h.d.v _ (jx ha);have h3:=congrArg List.length v1;grind
 exact ⟨⟨by rw [g.l];exact h.d.j,fun f hf=>⟨by grind,(key f hf).2⟩,by rw [g.l];exact h.d.f⟩,fun f hf=>(key f hf).1,by rw [g.s];exact h.s⟩
theorem RVc.mono {a:RSt}(h:RVc j m a) (hk:k<=m):RVc j k a:=⟨h.d,fun f hf=>by have:=h.r f hf;omega,h.s⟩
theorem zxX {S:RSt}(g:StmtG n) (hz:zm n<=40000) (h:RVc j 1 S):∃ e S',q1f ((j:Int),rN n,S)=some (e,S')/\RGr 1 S S':=by
 have r0:RGr 1 S S:=(RGr.refl rfl rfl rfl).mono (by omega);have kl:∀ {k:Nd},n.K_=⟨[k],true⟩->k.K_.xs.length<=50000:=fun e=>zg0 e hz
 have two:∀ (x y:Nd) (l:List Nd),n.K_=⟨x::y::l,true⟩->n.k_=15\/n.k_=16->∃ e S',q1f ((j:Int),rN n,S)=some (e,S')/\RGr 1 S S':=by
  intro x y l hk hn;obtain ⟨e1,h1⟩:=zdx h.d (rN x) ⟨lit [],1,0⟩;obtain ⟨e2,h2⟩:=zdx h.d (rN y) ⟨lit [],1,0⟩;unfold q1f q2n;simp only [zk,yP];simp only [ZT];rcases hn with hn | hn <;>
  ·simp (decide:=true) only [hn,jm,jo,jl,jk,jg,jf,rk0 hk,rk1 hk,h1];by_cases h3:e1=0
   ·simp only [h3,UF,jp,jm,jg,jk,h2,jf,jj];grind
   ·simp only [h3,UF,jq,jo,jl,jf,jj];grind
 cases g with
 |ite=>grind
 |whl=>grind
 | @leaf k t m a c=>
  unfold q1f q2n;simp only [zk,yP];simp only [ZT];have hk:∀ k:Int,(Sl.len (rN ⟨k,t,m,a,nilS⟩).K_)=0:=by intros;rw [zF];rfl
  rcases c with rfl | rfl | rfl | rfl | rfl <;>
  ·simp (decide:=true) only [jm,jo,jl,jk,jg,jf,hk,jj,ji];exact ⟨_,S,rfl,r0⟩
 | @ret t m a x c=>
  unfold q1f q2n;simp only [zk,yP];simp only [ZT];have hk:(Sl.len (rN ⟨17,t,m,a,⟨[x],true⟩⟩).K_)=1:=by intros;rw [zF];rfl
  simp (decide:=true) only [jm,jo,jl,jk,jg,jf,hk,jj,ji];grind
 |store c d=>
  unfold q1f q2n;simp only [zk,yP];simp only [ZT];simp (decide:=true) only [jm,jo,jl,jk,jg,jf,jj,ji];grind
 | @call t m a x c=>
  obtain ⟨p,e,hc⟩:=zmb h.d h.s (rN x) (by rw [zF];grind);unfold q1f q2n;simp only [zk,yP];simp only [ZT];simp (decide:=true) only [jm,jo,jl,jk,jg,jf,rk0 (n:=⟨20,t,m,a,⟨[x],true⟩⟩) rfl,hc,jj,ji];grind
 | @fork t m a ks c=>
  have hkl:=@Zm ⟨19,t,m,a,ks⟩;simp only at hkl;have hrk:(rN ⟨19,t,m,a,ks⟩).K_.xs.length<=50000:=by rw [zF];simp;omega
  unfold q1f q2n;simp only [zk,yP];simp only [ZT];simp (decide:=true) only [jm,jo,jl,jk,jg,jf];generalize rN ⟨19,t,m,a,ks⟩=R at *
  have hf:=h.d.f
  rcases goE (f:=q4j q33 q2a q2l q2m q1h) (n:=S.2.xs.length) (A:=Unit) (st:=fun i _=>((j:Int),(i:Int),S.1,S.2,R)) (fin:=fun _ =>.inr (S.1,S.2)) (J:=fun _ _=>True) (bad:=fun r=>∃ e,r = .inl (e,S.1,S.2))
   (fun i hi u _=>by
    unfold q4j;simp only [jh,zk];obtain ⟨v1,v2,v3⟩:=h.d.v _ (jx hi);rw [jr (by simp only [zo];omega)];simp only [zi hi,jf];split
    ·obtain ⟨e,he⟩:=zsV h.d R.K_ hrk hi;rw [YJ (s:=S.2.xs[i].V_) (by omega) v2 v3,jf,he,jf];grind
    ·rw [zx (by omega)]
     exact .inl ⟨(),rfl,trivial⟩)
   (fun u _=>by
    unfold q4j;simp only [jh]
    rw [js (by simp only [zo];omega)])
   (a:=()) trivial with ⟨u,e,_⟩ | ⟨r,e,x,rfl⟩
  ·have e:lpO (q4j q33 q2a q2l q2m q1h) ((j:Int),0,S.1,S.2,R)=_:=e;rw [e];exact ⟨_,S,rfl,r0⟩
  ·have e:lpO (q4j q33 q2a q2l q2m q1h) ((j:Int),0,S.1,S.2,R)=_:=e;grind
 | @set t m a x c=>
  obtain ⟨p,e,hc⟩:=zv7 h.d h.s c (kl rfl);obtain ⟨i,hfi,hi1,hi2⟩:=zkP h.d t;have hj:=h.d.j;have hb:=h.r _ (jx hj);unfold q1f q2n;simp only [zk,yP];simp only [ZT,z6];simp (decide:=true) only [jm,jo,jl,jk,jg,jf,rk0 (n:=⟨10,t,m,a,⟨[x],true⟩⟩) rfl,hc];by_cases h0:e=0
  rotate_left
  ·grind
  simp only [h0,UF,jp,jm,jg,jk,hfi,jf,zi hj];by_cases h1:i < 0
  ·simp only [h1,jo,jl,US];rw [ZG (by omega) (by omega)];refine ⟨_,_,rfl,rfl,rfl,by simp [Sl.set],fun k h1 h2=>?_⟩;simp only [Sl.set,Int.toNat_natCast,List.getElem_set];by_cases hij:j=k
   ·grind
   ·simp only [hij,jk];exact ⟨trivial,trivial,[],by simp⟩
  ·obtain ⟨k,rfl⟩:∃ k:Nat,i=(k:Int):=⟨_,(Dg (by omega)).symm⟩
   simp only [h1,jm,jg,jk,zi (s:=S.2.xs[j].V_) (show k < _ by omega),jf];grind
theorem zmc (a e:Int) (S:RSt):∃ S',q16 (a,e,S)=some S'/\S'.1.1=S.1.1/\S'.1.2.1=S.1.2.1/\S'.2=S.2/\(e≠0->S'.1.2.2.2≠0):=by
 unfold q16 q99;simp only [jh];by_cases h:S.1.2.2.2=0
 ·grind
 grind
noncomputable abbrev LR (F:Nat):=q37 q1f q16 (q2o F)
def zxY (m:Nat) (S:RSt) (r:RSt⊕RSt):Prop:=∃ S',(r = .inl S'\/r = .inr S')/\RGr m S S'
def StR (s:Nd):Prop:=∀ F (j:Nat) (S:RSt) (l:Sl RNd) (i:Nat) (hi:i < l.xs.length),l.xs[i]=rN s->l.xs.length<=50000->zm s<=F->RVc j (zm s) S->
 (∃ S',LR F ((j:Int),l,(i:Int),S)=some (.next ((j:Int),l,((i+1:Nat):Int),S'))/\RGr (zm s) S S')\/∃ r,LR F ((j:Int),l,(i:Int),S)=some (.done r)/\zxY (zm s) S r
def BlR (n:Nat) (ks:Sl Nd):Prop:=∀ F (j:Nat) (S:RSt),n<=F->RVc j n S->∃ S',q2o F ((j:Int),⟨ks.xs.map rN,ks.nn⟩,S)=some S'/\RGr n S S'
theorem zkQ {ks:Sl Nd}(h:∀ s∈ks.xs,StR s) (hl:ze ks.xs<=40000):BlR (ze ks.xs+1) ks:=by
 intro F j S hF hv;obtain ⟨F,rfl⟩:∃ k,F=k+1:=⟨F - 1,by omega⟩
 have hk:=wU ks.xs
 have key:=goE (f:=LR F) (n:=ks.xs.length) (A:=RSt) (st:=fun i a=>((j:Int),⟨ks.xs.map rN,ks.nn⟩,(i:Int),a)) (fin:=fun a =>.inr a) (J:=fun i a=>RGr (ze (ks.xs.take i)) S a) (bad:=zxY (ze ks.xs+1) S)
  (fun i hi a ha=>by
   have hz:=YS hi;have ha2:RVc j (zm ks.xs[i]) a:=RVc.gr (hv.mono (show ze (ks.xs.take i)+zm ks.xs[i]<=_ by omega)) ha;rcases h _ (jx hi) F j a ⟨ks.xs.map rN,ks.nn⟩ i (by simpa using hi) (by simp) (by simp;omega) (by omega) ha2 with ⟨b,e,g⟩ | ⟨r,e,S',hr,g⟩
   ·refine .inl ⟨b,e,?_⟩;rw [<- Dh hi,zQ];exact (ha.trans g).mono (by simp [ze])
   ·exact .inr ⟨r,e,S',hr,(ha.trans g).mono (by omega)⟩)
  (fun a ha=>by
   show q37 _ _ _ _=_;unfold q37;simp only [jh];rw [js (by simp only [zo,UV];omega)]
   rfl)
  (a:=S) ((RGr.refl rfl rfl rfl).mono (by omega))
 have fin':∀ (o:Uc (RSt⊕RSt)) (r:RSt⊕RSt) (S':RSt),o=some r->(r = .inl S'\/r = .inr S')->(o.bind fun y11=>Sum.elim (fun y12=>some y12) (fun y13=>some y13) y11)=some S':=by
  grind
 rcases key with ⟨a,e,g⟩ | ⟨r,e,S',hr,g⟩
 ·exact ⟨a,fin' _ _ a e (.inr rfl),g.mono (by grind)⟩
 ·exact ⟨S',fin' _ _ S' e hr,g⟩
def W4 (s:Nd):List Nd:=s.K_.xs.drop 2
theorem VT {s:Nd}(g:StmtG s) (hz:zm s<=40000) (hb:s.k_=15\/s.k_=16->2<=s.K_.xs.length/\ze (W4 s)+2<=zm s/\∀ b∈W4 s,BlR (zm b) b.K_):StR s:=by
 intro F j S l i hi hs hl hF hv;have ps:=Zi s;show (∃ S',q37 _ _ _ _=_/\_)\/∃ r,q37 _ _ _ _=_/\_
 unfold q37;simp only [jh,zk];rw [jr (by simp only [zo];omega)];simp only [jf];by_cases hc:S.1.2.2.2=0
 rotate_left
 ·simp only [hc,jm,jg,jk];exact .inr ⟨_,rfl,S,.inr rfl,(RGr.refl rfl rfl rfl).mono (by omega)⟩
 simp only [hc,jo,jl,zi hi,hs,jf];obtain ⟨e,S1,ho,g1⟩:=zxX g hz (hv.mono (by omega));rw [ho,jf];by_cases h0:e=0
 rotate_left
 ·obtain ⟨S2,hf,f1,f2,f3,_⟩:=zmc (rN s).a_ e S1;simp only [h0,UF,jq,jl,hf,jf];exact .inr ⟨_,rfl,S2,.inl rfl,(g1.trans (RGr.refl f1 f2 f3)).mono (by omega)⟩
 simp only [h0,UF,jp,jk,ZT];have wk:=zx (show i < 1000000000 by omega);have main:(s.k_=15\/s.k_=16)->∃ S',lpO (q4s q1f q16 (q2o F)) ((j:Int),l,(i:Int),2,S1.1,S1.2,rN s)=some ((j:Int),l,(i:Int),S'.1,S'.2)/\RGr (zm s) S S':=by
  intro hk;obtain ⟨b1,b2,b3⟩:=hb hk;have hkl:(rN s).K_.xs=s.K_.xs.map rN:=by rw [zF]
  have hkn:(rN s).K_.xs.length=s.K_.xs.length:=by rw [hkl];simp
  have hbl:(W4 s).length=s.K_.xs.length - 2:=by simp [W4]
  have hsl:=@Zm s
  obtain ⟨S',e1,e2⟩:=go (f:=q4s q1f q16 (q2o F)) (n:=(W4 s).length) (A:=RSt) (st:=fun k a=>((j:Int),l,(i:Int),((k+2:Nat):Int),a.1,a.2,rN s)) (fin:=fun a=>((j:Int),l,(i:Int),a.1,a.2)) (J:=fun k a=>RGr (1+ze ((W4 s).take k)) S a)
   (fun k hk a ha=>by
    have hz:=YS hk;have hx:(W4 s)[k]=s.K_.xs[k+2]'(by omega):=by simp [W4,Nat.add_comm]
    obtain ⟨S2,q1,q2⟩:=b3 _ (jx hk) F j a (by omega) (RVc.gr (hv.mono (show (1+ze ((W4 s).take k))+zm (W4 s)[k]<=_ by omega)) ha);refine ⟨S2,?_,?_⟩
    ·unfold q4s;simp only [jh,zk];rw [jr (by simp only [zo];omega),zi (by omega),jf];simp only [hkl,List.getElem_map];rw [<- hx,zF];show ((q2o F ((j:Int),_,a)).bind _)=_;rw [q1,jf,zx (by omega)]
    ·rw [<- Dh hk,zQ]
     exact (ha.trans q2).mono (by simp only [ze];omega))
   (fun a ha=>by
    unfold q4s;simp only [jh,zk]
    rw [js (by simp only [zo];omega)])
   (a:=S1) (g1.mono (by omega))
  exact ⟨S',e1,e2.mono (by grind)⟩
 by_cases h15:s.k_=15
 ·grind
 by_cases h16:s.k_=16
 ·obtain ⟨S',m1,m2⟩:=main (.inr h16);grind
 ·simp only [h15,h16,jk,jm,jg,jf,wk];exact .inl ⟨S1,rfl,g1.mono (by omega)⟩
theorem zv8 {s:Nd}(h:StmtG s) (hs:zm s<=40000):StR s:=by
 have blk:∀ (a:Int) (b:List Nd),(∀ s∈b,zm s<=40000->StR s)->zm ⟨9,lit [],0,a,mkS b⟩<=40000->BlR (zm ⟨9,lit [],0,a,mkS b⟩) (q8.mk 9 (lit []) 0 a (mkS b)).K_:=fun a b ih hz=>by
  rw [zl] at hz |-
  exact zkQ (fun s hs=>ih s hs (by have:=XL hs;omega)) (by omega)
 induction h with
 | @ite op n a x y b1 a1 b2 a2 hx hy h1 h2 i1 i2=>
  refine VT (.ite hx hy h1 h2) hs fun _=>?_
  have px:=Zi x;have py:=Zi y;rw [zl] at hs |-;simp only [ze] at hs;refine ⟨by simp,by simp only [W4,List.drop,ze];omega,fun b hb=>?_⟩;rcases U7.1 hb with rfl | hb
  all_goals grind
 | @whl op n a x y b1 a1 hx hy h1 i1=>
  refine VT (.whl hx hy h1) hs fun _=>?_
  have px:=Zi x;have py:=Zi y;rw [zl] at hs |-;simp only [ze] at hs;refine ⟨by simp,by simp only [W4,List.drop,ze];omega,fun b hb=>?_⟩;rw [UT.1 hb];grind
 | @leaf k t n a c=>exact VT (.leaf c) hs fun h=>by grind
 |ret c=>exact VT (.ret c) hs fun h=>by simp at h
 |fork c=>exact VT (.fork c) hs fun h=>by simp at h
 |call c=>exact VT (.call c) hs fun h=>by simp at h
 |store c d=>exact VT (.store c d) hs fun h=>by simp at h
 |set c=>exact VT (.set c) hs fun h=>by simp at h
theorem zv9 {b:Nd}(h:Vq b) (hs:zm b<=40000):BlR (zm b) b.K_:=by
 obtain ⟨a,l,rfl,hl⟩:=h;rw [zl] at hs |-
 have hs:ze l+1<=40000:=hs;exact zkQ (fun s hs'=>zv8 (hl s hs') (by have:zm s<=ze l:=XL hs';omega)) (by grind)
structure Smr (S S':RSt):Prop where
 s:S'.1.1=S.1.1
 t:S'.1.2.1=S.1.2.1
 f:S'.2=S.2
theorem Smr.refl {S:RSt}:Smr S S:=⟨rfl,rfl,rfl⟩
theorem Smr.trans {a b c:RSt}(h:Smr a b) (g:Smr b c):Smr a c:=⟨g.s.trans h.s,g.t.trans h.t,g.f.trans h.f⟩
theorem zaP (a e:Int) (S:RSt):∃ S',Smr S S'/\q16 (a,e,S.1,S.2)=some S'/\(e≠0->S'.1.2.2.2≠0):=by
 obtain ⟨S',h,h1,h2,h3,h4⟩:=zmc a e S;exact ⟨S',⟨h1,h2,h3⟩,h,h4⟩
theorem zg1 (c:Prop) [Decidable c] (a e:Int) (S:RSt):∃ S',Smr S S'/\∀ (β:Type) (g:RSt->Uc β),(if c then (q16 (a,e,S.1,S.2)).bind g else g S)=g S':=by
 by_cases h:c
 ·obtain ⟨S',h1,h2,_⟩:=zaP a e S;grind
 ·exact ⟨S,.refl,fun β g=>js h⟩
theorem zwa (n:Ua) (z:Ua×Int) (v:Sl RP) (h:v.xs.length<=1000000):∃ i,q3q (n,z,v)=some (i,z,v):=by
 have:=x9 (f:=q59) (xs:=v.xs) (p:=fun x=>decide (x.n_=n)) (st:=fun i=>(n,(i:Int),z,v)) (yes:=fun i =>.inl ((i:Int),z,v)) (no :=.inr (z,v))
  (fun i hi=>by
   unfold q59;simp only [jh];rw [jr (by simp only [zo];omega),zi hi,jf,jf,zx (by omega)]
   split <;> rfl)
  (by unfold q59;simp only [jh];rw [js (by simp only [zo];omega)])
 unfold q3q q9a;have this:lpO q59 (n,0,z,v)=_:=this;simp only [this];cases v.xs.findIdx? _ <;> exact ⟨_,rfl⟩
theorem zwb {k:Nd}(h:FnG k) (hs:zm k<=40000) {S:RSt}(hS:S.1.2.1=mkS (t.map rT)) (ht:t.length<=100000) :
    ∃ S' vars,q3r (rN k,S)=some ((k.T_,((yk k).length:Int)),S'.1,S'.2,vars)/\Smr S S'/\(S'.1.2.2.2≠0\/(yk k).length<=8/\vars.xs=(yk k).map fun x=>rP (Zd t x)):=by
  obtain ⟨h6,ps,r,b,hk,hp,hr,hr8,hb⟩:=h;have hlen:k.K_.xs.length=ps.length+2:=by rw [hk];simp
  have hps:yk k=ps:=by unfold yk;grind
  have hkl:=@Zm k;have ek:(rN k).K_.xs=k.K_.xs.map rN:=by rw [zF]
  have ekl:(rN k).K_.xs.length=k.K_.xs.length:=by rw [ek];simp
  rw [hps];have hc:Ud ((rN k).K_.len - 2)=(ps.length:Int):=by rw [zo,ekl,hlen,zM (by omega) (by omega)];omega
  have hgr:zb (rN k).K_ (ps.length:Int)=some (rN r):=by rw [zi (by omega)];grind
  unfold q3r q9b;simp only [zk];simp only [hc,jh,z6];by_cases h8:8 < (ps.length:Int)
  ·obtain ⟨S',s1,e1,e2⟩:=zaP (rN k).a_ 22 S;have e1:q16 ((rN k).a_,22,S)=_:=e1;simp only [h8,jl,e1,jf];grind
  simp only [h8,jk]
  obtain ⟨⟨S1,vars⟩,e1,s1,v1⟩:=go (f:=q5a q16 q3q q15) (n:=ps.length) (A:=RSt×Sl RP)
    (st:=fun i a=>((ps.length:Int),(i:Int),a.1.1,a.1.2,rN k,(lit [],0),(k.T_,(ps.length:Int)),a.2)) (fin:=fun a=>((ps.length:Int),a.1.1,a.1.2,rN k,(lit [],0),(k.T_,(ps.length:Int)),a.2))
    (J:=fun i a=>Smr S a.1/\a.2.xs=(ps.take i).map fun x=>rP (Zd t x))
    (fun i hi a ha=>by
      obtain ⟨a,vars⟩:=a;obtain ⟨hsm,hv⟩:=ha;simp only at hv hsm;obtain ⟨_,m,hm,hmg⟩:=hp _ (jx hi);have vl:vars.xs.length<=40000:=by grind
      have k0:zP ps[i]=m:=by unfold zP;rw [hm];rfl
      have fin':∀ p:RP,rP (Zd t ps[i])=p->(⟨vars.xs++[p],true⟩:Sl RP).xs=(ps.take (i+1)).map fun x=>rP (Zd t x):=by
        intro p hp;rw [<- Dh hi];grind
      have hx:zb (rN k).K_ (i:Int)=some (rN ps[i]):=by
        rw [zi (by omega)];grind
      obtain ⟨x,hfx⟩:=zwa ps[i].T_ (k.T_,(ps.length:Int)) vars (by omega);obtain ⟨a1,q1,q2⟩:=zg1 (0<=x) (rN ps[i]).a_ 30 a;unfold q5a;simp only [jh,zk];rw [jr (by omega)];simp only [hx,jf,rk0 hm];simp only [z6,hfx,jf,zk];rw [q2];simp only [jf];have hno:m.T_≠lit [111,119,110]->rP (Zd t ps[i])=⟨ps[i].T_,1,0⟩:=fun h=>by unfold Zd;rw [k0,js h];rfl
      have wk:=zx (show i < 1000000000 by omega);have hT:m.T_=lit [105,110,116]\/m.T_=lit [111,119,110]\/m.T_=lit [38]\/m.T_=lit [38,109,117,116]:=by
        rcases hmg.2 with ⟨h1,_⟩ | ⟨h1,_⟩
        all_goals grind
      rcases hT with hT | hT | hT | hT
      ·simp (decide:=true) only [hT,Zy,jk,jm,jg,jf,z6];rw [ZG (by omega) (by omega)];simp only [jf,wk];exact ⟨(a1,_),rfl,hsm.trans q1,fin' _ (hno (by rw [hT];simp (decide:=true) only [UF,Zy]))⟩
      · obtain ⟨y,hy⟩:=zkO hmg hT;have hpo:rP (Zd t ps[i])=⟨ps[i].T_,2,idT y.T_ t⟩:=by unfold Zd;rw [k0,jr hT];unfold zP;rw [hy];rfl
        obtain ⟨a2,q3,q4⟩:=zg1 (idT y.T_ t < 0) (rN m).a_ 31 a1;have ht1:a1.1.2.1=mkS (t.map rT):=by rw [q1.t,hsm.t,hS]
        simp (decide:=true) only [hT,Zy,jk,jm,jg,jf,z6,jl,rk0 hy,ht1,VQ t _ (show t.length<=1000000 by omega)];rw [q4];simp only [jf];rw [ZG (by omega) (by omega)];simp only [jf,wk];exact ⟨(a2,_),rfl,(hsm.trans q1).trans q3,fin' _ hpo⟩
      ·obtain ⟨a2,q3,q4,_⟩:=zaP (rN m).a_ 34 a1;simp (decide:=true) only [hT,Zy,jk,jl,jm,jg,jf,z6,q4];rw [ZG (by omega) (by omega)];simp only [jf,wk];exact ⟨(a2,_),rfl,(hsm.trans q1).trans q3,fin' _ (hno (by rw [hT];simp (decide:=true) only [UF,Zy]))⟩
      · obtain ⟨a2,q3,q4,_⟩:=zaP (rN m).a_ 34 a1;simp (decide:=true) only [hT,Zy,jk,jl,jo,jm,jg,jf,z6,q4];rw [ZG (by omega) (by omega)];simp only [jf,wk]
        exact ⟨(a2,_),rfl,(hsm.trans q1).trans q3,fin' _ (hno (by rw [hT];simp (decide:=true) only [UF,Zy]))⟩)
    (fun a ha=>by
      unfold q5a;simp only [jh,zk]
      grind)
    (a:=(S,Sl.mk [] false)) ⟨.refl,by simp⟩
  have e1:lpO (q5a q16 q3q q15) ((ps.length:Int),0,S.1,S.2,rN k,(lit [],0),(k.T_,(ps.length:Int)),Sl.mk [] false)=_:=e1;rw [e1];simp only [jf,hgr];rw [List.take_length] at v1;obtain ⟨S2,q1,q2⟩:=zg1 (¬(rN r).T_=lit []) (rN r).a_ 35 S1;simp only [z6,UF] at q2 |-
  rw [q2];exact ⟨S2,vars,rfl,s1.trans q1,.inr ⟨by omega,v1⟩⟩
structure RFnR (m:Nat) (t:List PT) (k:Nd) (f:RFt):Prop where
 g:FnG k
 n:f.n_=k.T_
 p:f.P_=((yk k).length:Int)
 l:(yk k).length<=8
 v:∃ ex,f.V_.xs=((yk k).map fun x=>rP (Zd t x))++ex/\ex.length<=m
theorem RFnR.mono {a:RFt}(h:RFnR m t n a) (hm:m<=k):RFnR k t n a:=⟨h.g,h.n,h.p,h.l,by obtain ⟨e1,v1,l1⟩:=h.v;grind⟩
def Z8 (m:Nat) (t:List PT) (ks:List Nd) (fs:List RFt):Prop:=∃ h:fs.length=ks.length,∀ i (hi:i < ks.length),RFnR m t ks[i] (fs[i]'(by omega))
theorem Z8.mono {fs:List RFt}(h:Z8 m t ks fs) (hm:m<=k):Z8 k t ks fs:=⟨h.1,fun i hi=>(h.2 i hi).mono hm⟩
theorem Z8.snoc {fs:List RFt}{k:Nd}{f:RFt}(h:Z8 m t ks fs) (g:RFnR m t k f):Z8 m t (ks++[k]) (fs++[f]):=by
 have hl:=h.1;refine ⟨by simp [hl],fun i hi=>?_⟩;rw [jt,jv] at hi;by_cases c:i < ks.length
 ·rw [List.getElem_append_left c,List.getElem_append_left (by omega)];exact h.2 i c
 ·obtain rfl:i=ks.length:=by omega
  rw [List.getElem_append_right (Ur _),List.getElem_append_right (by omega)];grind
theorem Z8.vc {S:RSt}(h:Z8 m t ks S.2.xs) (hs:S.1.1.xs.length<=50000) (hk:ks.length<=50000) (hm:m+5000<=50000) {i:Nat}(hi:i < ks.length):RVc i 5000 S:=by
 have key:∀ f∈S.2.xs,f.V_.xs.length<=m+8/\0<=f.P_/\f.P_<=f.V_.xs.length:=by
  intro f hf;obtain ⟨j,hj,rfl⟩:=List.getElem_of_mem hf;have r:=h.2 j (by rw [<- h.1];exact hj);obtain ⟨e1,v1,l1⟩:=r.v;have:=congrArg List.length v1;rw [jt,UV] at this;have h8:=r.l;have hp:=r.p;grind
 exact ⟨⟨by rw [h.1];exact hi,fun f hf=>⟨by grind,(key f hf).2⟩,by rw [h.1];exact hk⟩,fun f hf=>by grind,hs⟩
theorem Z8.gr {a b:RSt}(h:Z8 m t ks a.2.xs) (g:RGr k a b):Z8 (m+k) t ks b.2.xs:=
 ⟨g.l.trans h.1,fun i hi=>by
  have r:=h.2 i hi;obtain ⟨g1,g2,ex,g3,g4⟩:=g.f i (by grind) (by rw [g.l,h.1];exact hi);obtain ⟨e1,v1,l1⟩:=r.v
  exact ⟨r.g,g1.trans r.n,g2.trans r.p,r.l,e1++ex,by grind,by grind⟩⟩
noncomputable abbrev RC0:=q38 q16 q3r q44 q25
noncomputable abbrev RC1:=q39 q16 q3r q44 q25
theorem zwc (hg:UnitG n) (sg:Sl RSg) (t:List PT) (ht:t.length<=100000) :
    ∃ S:RSt,lpO RC0 (0,rN n,(sg,mkS (t.map rT),0,0),Sl.mk [] false)=some (rN n,S)/\S.1.1=sg/\S.1.2.1=mkS (t.map rT)/\(S.1.2.2.2=0->Z8 0 t n.K_.xs S.2.xs):=by
  have hkl:=@Zm n;have hsz:=hg.size;have ek:(rN n).K_.xs=n.K_.xs.map rN:=by rw [zF]
  have ekl:(rN n).K_.xs.length=n.K_.xs.length:=by rw [ek];simp
  rcases goE (f:=RC0) (n:=n.K_.xs.length) (A:=RSt) (st:=fun i a=>((i:Int),rN n,a)) (fin:=fun a=>(rN n,a)) (J:=fun i a=>a.1.1=sg/\a.1.2.1=mkS (t.map rT)/\a.2.xs.length<=i/\(a.1.2.2.2=0->Z8 0 t (n.K_.xs.take i) a.2.xs)) (bad:=fun r=>∃ S:RSt,r=(rN n,S)/\S.1.1=sg/\S.1.2.1=mkS (t.map rT)/\S.1.2.2.2≠0)
    (fun i hi S ha=>by
      obtain ⟨a1,a2,a3,a4⟩:=ha;show (∃ a',q38 _ _ _ _ _=_/\_)\/∃ r,q38 _ _ _ _ _=_/\_
      unfold q38;simp only [jh,zk];rw [jr (by simp only [zo];omega)];simp only [jf];by_cases hc:S.1.2.2.2=0
      rotate_left
      ·grind
      have hx:zb (rN n).K_ (i:Int)=some (rN n.K_.xs[i]):=by rw [zi (by omega)];grind
      simp only [hc,jo,jl,hx,jf,ZT];by_cases h6:n.K_.xs[i].k_=6
      rotate_left
      ·obtain ⟨S',s1,e1,e2⟩:=zaP (rN n.K_.xs[i]).a_ 50 S;have e1:q16 ((rN n.K_.xs[i]).a_,50,S)=_:=e1;simp only [h6,UF,jq,jl,e1,jf];exact .inr ⟨_,rfl,S',rfl,s1.s.trans a1,s1.t.trans a2,e2 (by decide)⟩
      have hf:FnG n.K_.xs[i]:=by
        rcases hg.kid _ (jx hi) with h | h
        ·exact absurd h.1 (by grind)
        ·exact h
      obtain ⟨S',vars,e,s1,hv⟩:=zwb hf (by have:=yD (jx hi);omega) a2 ht;have hl:S'.2.xs.length<=i:=by rw [s1.f];exact a3
      simp only [h6,UF,jp,jk,e,jf];rw [ZG (by omega) (by omega),jf,zx (by omega)];refine .inl ⟨(S'.1,_),rfl,s1.s.trans a1,s1.t.trans a2,by grind,fun h0=>?_⟩;rcases hv with hv | ⟨h8,hv⟩
      ·grind
      rw [<- Dh hi];simp only [s1.f]
      exact (a4 hc).snoc ⟨hf,rfl,rfl,h8,[],by simp [hv],by simp⟩)
    (fun S ha=>by
      show q38 _ _ _ _ _=_;unfold q38;simp only [jh,zk];rw [js (by simp only [zo];omega)]
      rfl)
    (a:=((sg,mkS (t.map rT),0,0),Sl.mk [] false)) ⟨rfl,rfl,by simp,fun _=>⟨by simp,fun i hi=>by simp at hi⟩⟩ with ⟨S,e,h1,h2,_,h3⟩ | ⟨r,e,S,rfl,h1,h2,h3⟩
  all_goals grind
theorem zwd (hg:UnitG n) (t:List PT) {S0:RSt}(hs:S0.1.1.xs.length<=50000) (h0:S0.1.2.2.2=0->Z8 0 t n.K_.xs S0.2.xs) :
    ∃ S:RSt,lpO RC1 (0,rN n,S0)=some S/\(S.1.2.2.2=0->Z8 5000 t n.K_.xs S.2.xs):=by
  have hkl:=@Zm n;have hsz:=hg.size;have hse:=zl n;have ek:(rN n).K_.xs=n.K_.xs.map rN:=by rw [zF]
  have ekl:(rN n).K_.xs.length=n.K_.xs.length:=by rw [ek];simp
  rcases goE (f:=RC1) (n:=n.K_.xs.length) (A:=RSt) (st:=fun i a=>((i:Int),rN n,a)) (fin:=fun a=>a) (J:=fun i a=>a.1.1.xs.length<=50000/\(a.1.2.2.2=0->Z8 (ze (n.K_.xs.take i)) t n.K_.xs a.2.xs)) (bad:=fun r=>r.1.2.2.2≠0)
    (fun i hi S ha=>by
      obtain ⟨a1,a4⟩:=ha;have hst:=YS hi;show (∃ a',q39 _ _ _ _ _=_/\_)\/∃ r,q39 _ _ _ _ _=_/\_
      unfold q39;simp only [jh,zk];rw [jr (by simp only [zo];omega)];simp only [jf];by_cases hc:S.1.2.2.2=0
      rotate_left
      ·grind
      have hR:=a4 hc;have r:=hR.2 i hi;obtain ⟨_,ps,rr,b,hk,_,_,_,hb⟩:=r.g;have hlen:n.K_.xs[i].K_.xs.length=ps.length+2:=by rw [hk];simp
      have hki:=@Zm n.K_.xs[i];have hbz:=yD (n:=n.K_.xs[i]) (k:=b) (by rw [hk];simp);have ek2:(rN n.K_.xs[i]).K_.xs=n.K_.xs[i].K_.xs.map rN:=by rw [zF]
      have ekl2:(rN n.K_.xs[i]).K_.xs.length=n.K_.xs[i].K_.xs.length:=by rw [ek2];simp
      have hgl:zb (rN n.K_.xs[i]).K_ (Ud ((rN n.K_.xs[i]).K_.len - 1))=some (rN b):=by
        rw [zo,ekl2,hlen,zM (by omega) (by omega),show (((ps.length+2:Nat):Int) - 1)=((ps.length+1:Nat):Int) by omega,zi (by omega)];grind
      have hx:zb (rN n).K_ (i:Int)=some (rN n.K_.xs[i]):=by rw [zi (by omega)];grind
      have hfl:=hR.1;simp only [hc,jo,jl,hx,jf,zi (s:=S.2) (show i < _ by omega),hgl];have vc:RVc i 5000 S:=hR.vc a1 (by omega) (by omega) hi;obtain ⟨S1,e,g⟩:=zv9 hb (by omega) 100000 i S (by omega) (vc.mono (by omega));rw [<- zF] at e;have e:q44 ((i:Int),(rN b).K_,S)=_:=e;have gl:S1.2.xs.length=S.2.xs.length:=g.l;have hci:i < S1.2.xs.length:=by omega
      have fin':FnG n.K_.xs[i]->Z8 (ze (n.K_.xs.take (i+1))) t n.K_.xs S1.2.xs:=by
        intro _;rw [<- Dh hi,zQ];exact (Z8.gr hR g).mono (by simp only [ze];omega)
      have fin':=fin' r.g;obtain ⟨cc,rc,_,e1,_,_⟩:=zkM r.g (by omega);have a1':S1.1.1.xs.length<=50000:=by rw [g.s];exact a1
      have wk:=zx (show i < 1000000000 by omega);simp only [e,jf,e1,zi hci];have tail:∀ c:Bool,∃ a':RSt,(((if c=true then (q16 ((rN n.K_.xs[i]).a_,22,S1.1,S1.2)).bind fun y20=>some ((i:Int),rN n,y20) else some ((i:Int),rN n,S1.1,S1.2)).bind fun y21:Int×RNd×RSt=>some (Step.next (Ud (y21.1+1),y21.2.1,y21.2.2):Step _ RSt)))=some (.next (((i+1:Nat):Int),rN n,a'))/\a'.1.1.xs.length<=50000/\(a'.1.2.2.2=0->Z8 (ze (n.K_.xs.take (i+1))) t n.K_.xs a'.2.xs):=by
        intro c;cases c
        ·grind
        ·obtain ⟨S',s1,e1,e2⟩:=zaP (rN n.K_.xs[i]).a_ 22 S1;simp only [jl,e1,jf,wk];exact ⟨S',rfl,by rw [s1.s];exact a1',fun _=>by grind⟩
      by_cases h64:64 < Sl.len S1.2.xs[i].V_
      ·simp only [h64,jl,jf];exact .inl (tail true)
      · simp only [h64,jk,jf]
        exact .inl (tail (decide (512 < Sl.len rc.2.2))))
    (fun S ha=>by
      show q39 _ _ _ _ _=_;unfold q39;simp only [jh,zk];rw [js (by simp only [zo];omega)]
      rfl)
    (a:=S0) ⟨hs,by simpa [ze] using h0⟩ with ⟨S,e,h1,h3⟩ | ⟨r,e,h3⟩
  ·rw [List.take_length] at h3;exact ⟨S,e,fun h=>(h3 h).mono (by omega)⟩
  grind
theorem zqO (hg:UnitG n) (sg:Sl RSg) (t:List PT) (hs:sg.xs.length<=50000) (ht:t.length<=100000) :
    ∃ S:RSt,q3i (rN n,sg,mkS (t.map rT))=some S/\(S.1.2.2.2≠0/\S.2.xs=[]\/S.1.2.2.2=0/\Z8 5000 t n.K_.xs S.2.xs):=by
  obtain ⟨S1,e1,h1,h2,h3⟩:=zwc hg sg t ht;obtain ⟨S2,e2,h4⟩:=zwd hg t (S0:=S1) (by grind) h3;unfold q3i q82;simp only [zk,jh];rw [e1];simp only [jf];rw [e2];simp only [jf];by_cases hc:S2.1.2.2.2=0
  ·grind
  grind
end Go.Px
