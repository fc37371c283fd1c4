/- Part Li: Px22RO Px18O Px18S Px18K Px22I0. -/
import Derived.Test.YtpcipfnohfefhaaGreatDoorB2
set_option linter.unusedVariables false
set_option linter.unusedSimpArgs false
namespace Go.Px
variable{l:List Nd}{n:Nd}{t:List PT}
theorem znd (h:zaG l = .ok t):t.length<=l.length:=by
 have:=zbI (I:=fun i (a:List PT)=>a.length<=i) l 0 [] (by simp) (fun i hi a a' ha e=>by
  split at e
  ·cases hx:YX a l[i] with
   |error x=>rw [hx] at e;cases e
   |ok x=>rw [hx] at e;cases e;simp;omega
  grind) t h
 omega
theorem zpQ {s:List PSg}(h:zbL t l = .ok s):s.length<=l.length:=by
 have:=zbI (I:=fun i (a:List PSg)=>a.length<=i) l 0 [] (by simp) (fun i hi a a' ha e=>by
  split at e
  ·cases hx:YR t l[i] with
   |error x=>rw [hx] at e;cases e
   |ok x=>rw [hx] at e;cases e;simp;omega
  grind) s h
 omega
theorem zpR {p:PP}(h:zcU n) (e:xY t n=some p):p.M_=0\/OkP t p:=by
 unfold xY at e;rcases h with ⟨h1,h2⟩ | ⟨_,⟨h1,h2⟩ | ⟨h1,k,h2,_⟩⟩
 ·rw [h1,h2,jr rfl] at e;cases e;exact .inl (by decide)
 ·rw [h1,h2,jr rfl] at e;cases e;exact .inr (.inl ⟨by decide,rfl⟩)
 ·rw [js (by rw [h2];simp)] at e;split at e
  ·cases e
  rename_i c;cases e;refine .inr (.inr ⟨?_,?_,by show 0<=idT (zO n).T_ t;omega,xK.2.1⟩)
  ·show 2<=mI n.T_;rcases h1 with h1 | h1 | h1 <;> rw [h1] <;> decide
  ·show mI n.T_<=4;rcases h1 with h1 | h1 | h1 <;> rw [h1] <;> decide
theorem zrL {s:PSg}(hg:FnG n) (h:YR t n = .ok s):s.R_.M_=0\/OkP t s.R_:=by
 obtain ⟨_,ps,r,b,hk,_,hr,_,_⟩:=hg;have e:zcW n (n.K_.xs.length - 2)=r:=by unfold zcW;rw [hk];simp
 unfold YR at h;simp only [e] at h;split at h
 ·cases h
 cases hx:(n.K_.xs.take (n.K_.xs.length - 2)).foldlM (yc t) [] with
 |error x=>rw [hx] at h;cases h
 |ok q=>
  rw [hx] at h;simp only [Except.bind] at h;split at h
  ·cases h
  ·rename_i q hq;cases h;exact zpR hr hq
theorem zpS {s:List PSg}(hl:∀ k∈l,k.k_=6->FnG k) (h:zbL t l = .ok s):∀ g∈s,g.R_.M_=0\/OkP t g.R_:=by
 exact zbI (I:=fun i (a:List PSg)=>∀ g∈a,g.R_.M_=0\/OkP t g.R_) l 0 [] (by simp) (fun i hi a a' ha e=>by
  split at e
  ·rename_i h6;cases hx:YR t l[i] with
   |error x=>rw [hx] at e;cases e
   |ok x=>
    rw [hx] at e;cases e;intro g hg;rcases G5.1 hg with hg | hg
    ·exact ha g hg
    ·obtain rfl:=Uw.1 hg;exact zrL (hl _ (jx hi) h6) hx
  ·cases e;exact ha) s h
theorem UnitG.kids (h:UnitG n):n.K_.xs.length<=4096:=by have:=h.size;have:=@ZV n;omega
theorem UnitG.ty (h:UnitG n):∀ k∈n.K_.xs,k.k_=1->XW k/\k.K_.xs.length<=20000:=by
 intro k hk h1;have:=YQ hk;have:=@ZV k;have:=h.size;rcases h.kid k hk with h | h
 ·grind
 ·rw [h.1] at h1;grind
theorem UnitG.fn (h:UnitG n):∀ k∈n.K_.xs,k.k_=6->FnG k/\k.K_.xs.length<=20000:=by
 intro k hk h1;have:=YQ hk;have:=@ZV k;have:=h.size;rcases h.kid k hk with h | h
 ·rw [h.1] at h1;grind
 grind
theorem zv2 (h:UnitG n):∃ (a b c d a' b' c' d':Int) (t:List PT) (s:Sl PSg) (rs:Sl RSg),q3f n=some (a,b,mkS t)/\q3y (n,mkS t)=some (c,d,s)/\q1t (rN n)=some (a',b',mkS (t.map rT))/\q1r (rN n,mkS (t.map rT))=some (c',d',rs)/\t.length<=20000/\s.xs.length<=50000/\rs.xs.length<=50000/\∀ g∈s.xs,g.R_.M_=0\/OkP t g.R_:=by
 have hk:=h.kids;have h1:=zrB h.ty (by omega);have h2:=zpG h.ty (by omega);have sg:∀ t:List PT,t.length<=20000->∃ (c d c' d':Int) (s:Sl PSg) (rs:Sl RSg),q3y (n,mkS t)=some (c,d,s)/\q1r (rN n,mkS (t.map rT))=some (c',d',rs)/\s.xs.length<=50000/\rs.xs.length<=50000/\∀ g∈s.xs,g.R_.M_=0\/OkP t g.R_:=by
  intro t ht;have h3:=zuo (t:=mkS t) h.fn ht (by omega);have h4:=zrF (t:=t) h.fn ht (by omega);rw [show (mkS t).xs=t from rfl] at h3;cases e:zbL t n.K_.xs with
  |error x=>grind
  |ok s=>
   have:=zpQ e;rw [e] at h3 h4;exact ⟨_,_,_,_,_,_,h3,h4,by show s.length<=_;omega,by show (s.map rG).length<=_;grind,zpS (fun k hk h6=>(h.fn k hk h6).1) e⟩
 cases e:zaG n.K_.xs with
 |error x=>
  rw [e] at h1 h2;obtain ⟨c,d,c',d',s,rs,q1,q2,q3,q4,q5⟩:=sg [] (by simp);exact ⟨_,_,c,d,_,_,c',d',[],s,rs,h1,q1,h2,q2,by simp,q3,q4,q5⟩
 |ok t=>
  have ht:=znd e;rw [e] at h1 h2;obtain ⟨c,d,c',d',s,rs,q1,q2,q3,q4,q5⟩:=sg t (by omega);grind
def zsB (L:qw):Prop:=∃ t:List PT,L.Z_=mkS t/\L.I_=mkS (t.map rT)/\t.length<=20000/\L.s_.xs.length<=50000/\L.E_.xs.length<=50000/\∀ g∈L.s_.xs,g.R_.M_=0\/OkP t g.R_
theorem zkf (libs:G0):∃ L b,q1c libs=some (L,b)/\(b=true->zsB L):=by
 unfold q1c q5v;rw [zet,jf];simp only [jh,zj];by_cases hp:(xJ libs).2.2=0
 rotate_left
 ·rw [jr hp];grind
 have hg:=zj9 hp;rw [js (by simp [hp])];generalize hn:(xJ libs).1=n at hg;obtain ⟨a,b,c,d,a',b',c',d',t,s,rs,h1,h2,h3,h4,ht,hs,hrs,hsg⟩:=zv2 hg;have hk:=hg.kids;simp only [h1,jf,h2,zhi,hn,zt,h3,h4];have ek:(rN n).K_.xs=n.K_.xs.map rN:=by rw [zV]
 have ekl:(rN n).K_.xs.length=n.K_.xs.length:=by rw [ek];simp
 obtain ⟨⟨fs,rfs⟩,e,_⟩:=go (f:=q3j q1o q3f q3y q22 q1t q1r) (n:=n.K_.xs.length) (A:=Sl Nd×Sl RNd)
  (st:=fun i x=>(b,d,n.K_,n.K_.len,(i:Int),s,rN n,rs,(mkS t,mkS (t.map rT)),x.1,x.2)) (fin:=fun x=>(b,d,s,rs,(mkS t,mkS (t.map rT)),x.1,x.2)) (J:=fun i x=>x.1.xs.length<=i/\x.2.xs.length<=i)
  (fun i hi x hx=>by
   obtain ⟨fs,rfs⟩:=x;obtain ⟨x1,x2⟩:=hx;simp only at x1 x2;unfold q3j;simp only [jh,zj,zt];rw [jr (by simp only [zu];omega),zr hi,jf,yT (by omega) (by omega)];have wk:=zL (show i < 1000000000 by omega);split
   ·simp only [jf];rw [zr (by omega),jf,yT (by omega) (by omega)];simp only [jf,wk];exact ⟨(_,_),rfl,by simp;omega,by simp;omega⟩
   ·simp only [jf,wk]
    exact ⟨(fs,rfs),rfl,by grind,by grind⟩)
  (fun x hx=>by
   unfold q3j;simp only [jh]
   rw [js (by simp only [zu];omega)])
  (a:=(Sl.mk [] false,Sl.mk [] false)) ⟨by simp,by simp⟩
 have e:lpO (q3j q1o q3f q3y q22 q1t q1r) (b,d,n.K_,n.K_.len,0,s,rN n,rs,(mkS t,mkS (t.map rT)),Sl.mk [] false,Sl.mk [] false)=_:=e;rw [e];simp only [jf];have G:∀ f rf,zsB ⟨f,mkS t,s,rf,mkS (t.map rT),rs⟩:=fun f rf=>⟨t,rfl,rfl,ht,hs,hrs,hsg⟩
 by_cases c1:b=0 <;> by_cases c2:d=0 <;> by_cases c3:Sl.len s=Sl.len fs <;>
 ·simp only [c1,c2,c3,jl,jk,jf];exact ⟨_,_,rfl,fun _=>G _ _⟩
section
variable {α:Type}[DecidableEq α]
theorem zcX (k k':α) (v:Int):∀ l:List (α×Int),Zz k (Zp k' v l)=if k'=k then v else Zz k l
 |[]=>by
  unfold Zz Zp W3;by_cases h:k'=k <;> simp [h,W3]
 |(a,u)::l=>by
  have ih:=zcX k k' v l;unfold Zz at ih |-
  unfold Zp;by_cases h:a=k'
  ·subst h;rw [jr rfl];unfold W3;by_cases h2:a=k <;> simp [h2]
  ·rw [js h];unfold W3;by_cases h2:a=k
   ·have:¬ k'=k:=fun e=>h (h2.trans e.symm)
    simp [h2,this]
   ·simp only [h2,jk];exact ih
end
noncomputable abbrev KL0:=q34 q1c q1o q1e q2g
noncomputable abbrev KL1:=q2m q1c q1o q1e q2g
theorem zux {L:qw}(hL:L.Z_=mkS t) {fs:Sl PNf}{k:Nat}(hk:k < fs.xs.length) (hv:VarsG t fs.xs[k].V_.xs) (hl:fs.xs[k].V_.xs.length<=64)
    (hp:∀ (i:Nat) (hi:i < fs.xs[k].V_.xs.length),(i:Int) < fs.xs[k].P_->fs.xs[k].V_.xs[i].M_<=2) (hq:(fs.xs[k].P_:Int)<=fs.xs[k].V_.xs.length) :
    lpO KL0 (fs.len,(k:Int),(k:Int),fs.xs[k].V_.len,0,L,n,fs,(fs.xs[k].N_,fs.xs[k].P_,(k:Int)),lit [],Sl.mk [] true)=some (.inr (fs.len,(k:Int),L,n,fs,fs.xs[k].N_,fs.xs[k].P_,(k:Int))):=by
  generalize hf:fs.xs[k]=f at *
  have gk:zd fs (k:Int)=some f:=by rw [zr hk,hf]
  obtain ⟨a,e,_⟩:=go (f:=KL0) (n:=f.V_.xs.length) (A:=Sl (G0×Int))
    (st:=fun i a=>(fs.len,(k:Int),(k:Int),f.V_.len,(i:Int),L,n,fs,(f.N_,f.P_,(k:Int)),lit [],a)) (fin:=fun a =>.inr (fs.len,(k:Int),L,n,fs,f.N_,f.P_,(k:Int)))
    (J:=fun i a=>∀ y,y ∉ (f.V_.xs.take i).map qf.N_->Zz y a.xs=0)
    (fun i hi a ha=>by
      have hnd:=hv.n;have h0:Zz f.V_.xs[i].N_ a.xs=0:=by
        refine ha _ ?_;have h1:((f.V_.xs.take (i+1)).map qf.N_).Nodup:=hnd.sublist ((List.take_sublist _ _).map _);rw [<- UA hi,U5,List.nodup_append] at h1;intro hm;exact h1.2.2 _ hm _ (by simp) rfl
      have ok:=hv.k _ (jx hi);have hm:=hp i hi;show ∃ a',q34 _ _ _ _ _=_/\_
      unfold q34;simp only [jh,zj];rw [jr (by simp only [zu];omega),gk,jf,zr hi,jf,jf,zr hi,jf];simp only [zcX,jl,h0,show G4 ((0:Int)+1)=1 from rfl,show ¬ ((1:Int) < 1) by decide,jk];have step:∀ y,y ∉ (f.V_.xs.take (i+1)).map qf.N_->Zz y (Zp f.V_.xs[i].N_ 1 a.xs)=0:=by
        intro y hy;rw [<- UA hi,U5,G5,not_or] at hy;rw [zcX,js (fun c=>hy.2 (by simp [c]))];exact ha y hy.1
      generalize f.V_.xs[i]=v at *
      have b1:¬ v.M_ < 1:=by rcases ok with h | h <;> omega
      have b2:¬ 4 < v.M_:=by rcases ok with h | h <;> omega
      have wk:=zL (show i < 1000000000 by omega);simp only [b1,b2,jk,hL];rcases ok with ⟨c1,c2⟩ | ⟨c1,c2,c3,c4⟩
      ·simp only [c1,c2,jl,Ui,jp,jk];split <;> exact ⟨⟨Zp v.N_ 1 a.xs,true⟩,by simp (decide:=true) only [jf,jg,jk,wk,jm],step⟩
      · have d1:¬ v.M_=1:=by omega
        have d2:¬ v.t_ < 0:=by omega
        have d3:¬ (mkS t).len<=v.t_:=by rw [zu];show ¬ ((t.length:Int)<=_);omega
        simp only [d1,d2,d3,jl,Ui,jq,jk];split
        · rename_i hlt;have d4:¬ 2 < v.M_:=by have:=hm hlt;omega
          exact ⟨⟨Zp v.N_ 1 a.xs,true⟩,by simp only [jf,jg,jk,wk,d4,jm],step⟩
        ·exact ⟨⟨Zp v.N_ 1 a.xs,true⟩,by simp only [jf,jg,jk,wk],step⟩)
    (fun a ha=>by
      show q34 _ _ _ _ _=_;unfold q34;simp only [jh,zj]
      rw [js (by simp only [zu];omega)])
    (a:=Sl.mk [] true) (by intro y _;rfl)
  exact e
theorem zpT (hw:q1e ()=some true) (x:G0×G0):q86 x=some true:=by
 obtain ⟨libs,text⟩:=x;obtain ⟨L,ok,hl,hL⟩:=zkf libs;unfold q86 q78;simp only [hl,jf,zet,zj,hw,Um,jg,jk,jh];cases ok with
 |false=>rfl
 |true=>
 obtain ⟨t,ty,rty,ht,hs,hrs,hsg⟩:=hL rfl;simp only [Um,jg,jk,jf,jh];by_cases hp:(xJ text).2.2=0
 rotate_left
 ·rw [jr hp]
 have hg:=zj9 hp;rw [js (by simp [hp])];generalize (xJ text).1=n at hg;obtain ⟨a,e,fs,h1,hf⟩:=zrK hg L.s_ (mkS t) hsg hs (by show t.length<=_;omega);rw [ty,h1,jf];simp only;rcases hf with ⟨he,h0⟩ | ⟨he,hF,hD⟩
 ·rw [jr he];simp [zu,h0]
 rw [js (by simp [he])];have hk:=hg.kids;have hfl:=hF.1
 obtain ⟨_,q,_⟩:=go (f:=KL1) (n:=fs.xs.length) (A:=Unit) (st:=fun i _=>(fs.len,(i:Int),L,n,fs)) (fin:=fun _ =>.inr (n,fs)) (J:=fun _ _=>True)
  (fun i hi _ _=>by
   have hin:i < n.K_.xs.length:=by omega
   have r:=hF.2 i hin;obtain ⟨⟨f,f1,f2⟩,_⟩:=hD i hin;rw [GI hi] at f1;cases f1;obtain ⟨ex,v1,_⟩:=r.v;have hvl:=congrArg List.length v1;rw [jt,Uy] at hvl;have hkp:(fs.xs[i].P_:Int)<=fs.xs[i].V_.xs.length:=by rw [r.p];omega
   have e:=zux ty (n:=n) hi r.k f2 (fun j hj hjp=>by
    rw [r.p] at hjp;have hjl:j < (Wq n.K_.xs[i]).length:=by omega
    have:fs.xs[i].V_.xs[j]=xZ t (Wq n.K_.xs[i])[j]:=by
     have h2:fs.xs[i].V_.xs[j]?=some (xZ t (Wq n.K_.xs[i])[j]):=by
      rw [v1,Ud (by simpa using hjl),GA,GI hjl];rfl
     rw [GI hj] at h2;exact Option.some.inj h2
    rw [this];unfold xZ;split <;> simp) hkp
   show ∃ a',q2m _ _ _ _ _=_/\_
   unfold q2m;simp only [jh,zj];rw [jr (by simp only [zu];omega),zr hi,jf,jf,jf,e];have d1:¬ 64 < fs.xs[i].V_.len:=by rw [zu];omega
   have d2:¬ fs.xs[i].V_.len < fs.xs[i].P_:=by rw [zu];omega
   simp only [jf,ji,zr hi,d1,d2,jk,jm,jg,zj,zL (show i < 1000000000 by omega)]
   exact ⟨(),trivial,trivial⟩)
  (fun _ _=>by
   show q2m _ _ _ _ _=_;unfold q2m;simp only [jh,zj]
   rw [js (by simp only [zu];omega)])
  (a:=()) trivial
 have q:lpO (q2m q1c q1o q1e q2g) (fs.len,0,L,n,fs)=_:=q;rw [q];simp only [jf,ji,zu,hfl,jo]
deriving instance DecidableEq for Sl
mutual
def zrM:q7->q7->Bool
 |⟨k,t,n,a,s⟩,⟨k',t',n',a',s'⟩=>(decide (k=k') && (decide (t=t') && (decide (n=n') && decide (a=a')))) && zrN s s'
def zrN:Sl q7->Sl q7->Bool
 |⟨l,b⟩,⟨l',b'⟩=>(b == b') && zez l l'
def zez:List q7->List q7->Bool
 |[],[]=>true
 |x::l,y::r=>zrM x y && zez l r
 |_,_=>false
end
mutual
theorem zkg:∀ a b:q7,zrM a b=true↔a=b
 |⟨k,t,n,a,s⟩,⟨k',t',n',a',s'⟩=>by
  unfold zrM;have:=zrO s s';simp only [g9,jh,this,q7.mk.injEq];constructor
  ·rintro ⟨⟨h1,h2,h3,h4⟩,h5⟩;exact ⟨h1,h2,h3,h4,h5⟩
  ·rintro ⟨h1,h2,h3,h4,h5⟩;exact ⟨⟨h1,h2,h3,h4⟩,h5⟩
theorem zrO:∀ a b:Sl q7,zrN a b=true↔a=b
 |⟨l,b⟩,⟨l',b'⟩=>by
  unfold zrN;have:=zkh l l';simp only [g9,beq_iff_eq,this,Sl.mk.injEq];constructor
  ·rintro ⟨h1,h2⟩;exact ⟨h2,h1⟩
  ·rintro ⟨h1,h2⟩;exact ⟨h2,h1⟩
theorem zkh:∀ a b:List q7,zez a b=true↔a=b
 |[],[]=>by unfold zez;simp
 |x::l,y::r=>by
  unfold zez;have h1:=zkg x y;have h2:=zkh l r;simp only [g9,h1,h2,List.cons.injEq]
 |[],_::_=>by unfold zez;simp
 |_::_,[]=>by unfold zez;simp
end
instance:DecidableEq q7:=fun a b=>decidable_of_iff _ (zkg a b)
deriving instance DecidableEq for qn
deriving instance DecidableEq for q8
deriving instance DecidableEq for qp
deriving instance DecidableEq for qr
deriving instance DecidableEq for qa
deriving instance DecidableEq for qf
deriving instance DecidableEq for qd
deriving instance DecidableEq for qb
end Go.Px
