/- Part Li: Px22RO Px18O Px18S Px18K Px22I0. -/
import Derived.Test.YtpcipfnohfefhaaGreatDoorB2
set_option linter.unusedVariables false
set_option linter.unusedSimpArgs false
namespace Go.Px
variable{l:List Nd}{n:Nd}{t:List PT}
theorem znr (h:zaL l = .ok t):t.length<=l.length:=by
 have:=zbN (I:=fun i (a:List PT)=>a.length<=i) l 0 [] (by simp) (fun i hi a a' ha e=>by
  split at e
  ·cases hx:YW a l[i] with
   |error x=>rw [hx] at e;cases e
   |ok x=>rw [hx] at e;cases e;simp;omega
  grind) t h
 omega
theorem zp3 {s:List PSg}(h:zbQ t l = .ok s):s.length<=l.length:=by
 have:=zbN (I:=fun i (a:List PSg)=>a.length<=i) l 0 [] (by simp) (fun i hi a a' ha e=>by
  split at e
  ·cases hx:YQ t l[i] with
   |error x=>rw [hx] at e;cases e
   |ok x=>rw [hx] at e;cases e;simp;omega
  grind) s h
 omega
theorem zp4 {p:PP}(h:zcZ n) (e:xY t n=some p):p.M_=0\/OkP t p:=by
 unfold xY at e;rcases h with ⟨h1,h2⟩ | ⟨_,⟨h1,h2⟩ | ⟨h1,k,h2,_⟩⟩
 ·rw [h1,h2,jr rfl] at e;cases e;exact .inl (by decide)
 ·rw [h1,h2,jr rfl] at e;cases e;exact .inr (.inl ⟨by decide,rfl⟩)
 ·rw [js (by rw [h2];simp)] at e;split at e
  ·cases e
  rename_i c;cases e;refine .inr (.inr ⟨?_,?_,by show 0<=idT (zO n).T_ t;omega,xJ.2.1⟩)
  ·show 2<=mI n.T_;rcases h1 with h1 | h1 | h1 <;> rw [h1] <;> decide
  ·show mI n.T_<=4;rcases h1 with h1 | h1 | h1 <;> rw [h1] <;> decide
theorem zrX {s:PSg}(hg:FnG n) (h:YQ t n = .ok s):s.R_.M_=0\/OkP t s.R_:=by
 obtain ⟨_,ps,r,b,hk,_,hr,_,_⟩:=hg;have e:zc1 n (n.K_.xs.length - 2)=r:=by unfold zc1;rw [hk];simp
 unfold YQ at h;simp only [e] at h;split at h
 ·cases h
 cases hx:(n.K_.xs.take (n.K_.xs.length - 2)).foldlM (yb t) [] with
 |error x=>rw [hx] at h;cases h
 |ok q=>
  rw [hx] at h;simp only [Except.bind] at h;split at h
  ·cases h
  ·rename_i q hq;cases h;exact zp4 hr hq
theorem zp5 {s:List PSg}(hl:∀ k∈l,k.k_=6->FnG k) (h:zbQ t l = .ok s):∀ g∈s,g.R_.M_=0\/OkP t g.R_:=by
 exact zbN (I:=fun i (a:List PSg)=>∀ g∈a,g.R_.M_=0\/OkP t g.R_) l 0 [] (by simp) (fun i hi a a' ha e=>by
  split at e
  ·rename_i h6;cases hx:YQ t l[i] with
   |error x=>rw [hx] at e;cases e
   |ok x=>
    rw [hx] at e;cases e;intro g hg;rcases G6.1 hg with hg | hg
    ·exact ha g hg
    ·obtain rfl:=Ux.1 hg;exact zrX (hl _ (jx hi) h6) hx
  ·cases e;exact ha) s h
theorem UnitG.kids (h:UnitG n):n.K_.xs.length<=4096:=by have:=h.size;have:=@ZQ n;omega
theorem UnitG.ty (h:UnitG n):∀ k∈n.K_.xs,k.k_=1->XV k/\k.K_.xs.length<=20000:=by
 intro k hk h1;have:=Yi hk;have:=@ZQ k;have:=h.size;rcases h.kid k hk with h | h
 ·grind
 ·rw [h.1] at h1;grind
theorem UnitG.fn (h:UnitG n):∀ k∈n.K_.xs,k.k_=6->FnG k/\k.K_.xs.length<=20000:=by
 intro k hk h1;have:=Yi hk;have:=@ZQ k;have:=h.size;rcases h.kid k hk with h | h
 ·rw [h.1] at h1;grind
 grind
theorem zwj (h:UnitG n):∃ (a b c d a' b' c' d':Int) (t:List PT) (s:Sl PSg) (rs:Sl RSg),q3f n=some (a,b,mkS t)/\q3y (n,mkS t)=some (c,d,s)/\q1t (rN n)=some (a',b',mkS (t.map rT))/\q1r (rN n,mkS (t.map rT))=some (c',d',rs)/\t.length<=20000/\s.xs.length<=50000/\rs.xs.length<=50000/\∀ g∈s.xs,g.R_.M_=0\/OkP t g.R_:=by
 have hk:=h.kids;have h1:=zrN h.ty (by omega);have h2:=zpU h.ty (by omega);have sg:∀ t:List PT,t.length<=20000->∃ (c d c' d':Int) (s:Sl PSg) (rs:Sl RSg),q3y (n,mkS t)=some (c,d,s)/\q1r (rN n,mkS (t.map rT))=some (c',d',rs)/\s.xs.length<=50000/\rs.xs.length<=50000/\∀ g∈s.xs,g.R_.M_=0\/OkP t g.R_:=by
  intro t ht;have h3:=zuC (t:=mkS t) h.fn ht (by omega);have h4:=zrR (t:=t) h.fn ht (by omega);rw [show (mkS t).xs=t from rfl] at h3;cases e:zbQ t n.K_.xs with
  |error x=>grind
  |ok s=>
   have:=zp3 e;rw [e] at h3 h4;exact ⟨_,_,_,_,_,_,h3,h4,by show s.length<=_;omega,by show (s.map rG).length<=_;grind,zp5 (fun k hk h6=>(h.fn k hk h6).1) e⟩
 cases e:zaL n.K_.xs with
 |error x=>
  rw [e] at h1 h2;obtain ⟨c,d,c',d',s,rs,q1,q2,q3,q4,q5⟩:=sg [] (by simp);exact ⟨_,_,c,d,_,_,c',d',[],s,rs,h1,q1,h2,q2,by simp,q3,q4,q5⟩
 |ok t=>
  have ht:=znr e;rw [e] at h1 h2;obtain ⟨c,d,c',d',s,rs,q1,q2,q3,q4,q5⟩:=sg t (by omega);grind
def zsP (L:qw):Prop:=∃ t:List PT,L.Z_=mkS t/\L.I_=mkS (t.map rT)/\t.length<=20000/\L.S_.xs.length<=50000/\L.E_.xs.length<=50000/\∀ g∈L.S_.xs,g.R_.M_=0\/OkP t g.R_
theorem zkr (libs:G1):∃ L b,q1c libs=some (L,b)/\(b=true->zsP L):=by
 unfold q1c q5v;rw [zex,jf];simp only [jh,zj];by_cases hp:(xI libs).2.2=0
 rotate_left
 ·rw [jr hp];grind
 have hg:=zkk hp;rw [js (by simp [hp])];generalize hn:(xI libs).1=n at hg;obtain ⟨a,b,c,d,a',b',c',d',t,s,rs,h1,h2,h3,h4,ht,hs,hrs,hsg⟩:=zwj hg;have hk:=hg.kids;simp only [h1,jf,h2,zho,hn,zr,h3,h4];have ek:(rN n).K_.xs=n.K_.xs.map rN:=by rw [zV]
 have ekl:(rN n).K_.xs.length=n.K_.xs.length:=by rw [ek];simp
 obtain ⟨⟨fs,rfs⟩,e,_⟩:=go (f:=q3j q1o q3f q3y q22 q1t q1r) (n:=n.K_.xs.length) (A:=Sl Nd×Sl RNd)
  (st:=fun i x=>(b,d,n.K_,n.K_.len,(i:Int),s,rN n,rs,(mkS t,mkS (t.map rT)),x.1,x.2)) (fin:=fun x=>(b,d,s,rs,(mkS t,mkS (t.map rT)),x.1,x.2)) (J:=fun i x=>x.1.xs.length<=i/\x.2.xs.length<=i)
  (fun i hi x hx=>by
   obtain ⟨fs,rfs⟩:=x;obtain ⟨x1,x2⟩:=hx;simp only at x1 x2;unfold q3j;simp only [jh,zj,zr];rw [jr (by simp only [zu];omega),zt hi,jf,yT (by omega) (by omega)];have wk:=zL (show i < 1000000000 by omega);split
   ·simp only [jf];rw [zt (by omega),jf,yT (by omega) (by omega)];simp only [jf,wk];exact ⟨(_,_),rfl,by simp;omega,by simp;omega⟩
   ·simp only [jf,wk]
    exact ⟨(fs,rfs),rfl,by grind,by grind⟩)
  (fun x hx=>by
   unfold q3j;simp only [jh]
   rw [js (by simp only [zu];omega)])
  (a:=(Sl.mk [] false,Sl.mk [] false)) ⟨by simp,by simp⟩
 have e:lpO (q3j q1o q3f q3y q22 q1t q1r) (b,d,n.K_,n.K_.len,0,s,rN n,rs,(mkS t,mkS (t.map rT)),Sl.mk [] false,Sl.mk [] false)=_:=e;rw [e];simp only [jf];have G:∀ f rf,zsP ⟨f,mkS t,s,rf,mkS (t.map rT),rs⟩:=fun f rf=>⟨t,rfl,rfl,ht,hs,hrs,hsg⟩
 by_cases c1:b=0 <;> by_cases c2:d=0 <;> by_cases c3:Sl.len s=Sl.len fs <;>
 ·simp only [c1,c2,c3,jl,jk,jf];exact ⟨_,_,rfl,fun _=>G _ _⟩
section
variable {α:Type}[DecidableEq α]
theorem WU (k k':α) (v:Int):∀ l:List (α×Int),ZR k (xU k' v l)=if k'=k then v else ZR k l
 |[]=>by
  unfold ZR xU wu;by_cases h:k'=k <;> simp [h,wu]
 |(a,u)::l=>by
  have ih:=WU k k' v l;unfold ZR at ih |-
  unfold xU;by_cases h:a=k'
  ·subst h;rw [jr rfl];unfold wu;by_cases h2:a=k <;> simp [h2]
  ·rw [js h];unfold wu;by_cases h2:a=k
   ·have:¬ k'=k:=fun e=>h (h2.trans e.symm)
    simp [h2,this]
   ·simp only [h2,jk];exact ih
end
abbrev MS:=G1×Sl (G1×Int)
structure qN (ow th:MS) (n:Nd):Prop where
 b:n.k_≠1/\n.k_≠11/\n.k_≠12/\n.k_≠13/\n.k_≠14/\n.k_≠23/\n.k_≠24/\n.k_≠25
 c:n.k_=28->ZR n.T_ th.2.xs≠0
 f:n.k_=19->ZR n.T_ ow.2.xs≠0
 r:n.k_=17->n.K_.xs=[]
theorem zwk {ow th:MS}(h:AllN (qN ow th) n):∀ F,zm n<=F->zm n<=40000->q4b F (n,ow,th)=some (true,ow,th):=by
 induction h with
 | @mk n q hk ih=>
  intro F hF hz;obtain ⟨F,rfl⟩:∃ k,F=k+1:=⟨F - 1,by have:=ZF n;omega⟩
  have hkl:=@ZQ n;have loop:lpO (q5m (q4b F)) (n.K_,n.K_.len,0,ow,th)=some (.inr (ow,th)):=by
   obtain ⟨_,e,_⟩:=go (f:=q5m (q4b F)) (n:=n.K_.xs.length) (A:=Unit) (st:=fun i _=>(n.K_,n.K_.len,(i:Int),ow,th)) (fin:=fun _ =>.inr (ow,th)) (J:=fun _ _=>True)
    (fun i hi _ _=>by
     unfold q5m;simp only [jh,zj];have:=Yi (jx hi);rw [jr (by simp only [zu];omega),zt hi,jf,ih _ (jx hi) F (by omega) (by omega)];simp only [jf,Un,jg,jk,zL (show i < 1000000000 by omega)]
     exact ⟨(),trivial,trivial⟩)
    (fun _ _=>by
     unfold q5m;simp only [jh]
     rw [js (by simp only [zu];omega)])
    (a:=()) trivial
   exact e
  obtain ⟨⟨b1,b2,b3,b4,b5,b6,b7,b8⟩,c,f,r⟩:=q;show q4c _ _=_;unfold q4c;simp only [b1,b2,b3,b4,b5,b6,b7,b8,jm,jg,jk,jf,zj,jh];by_cases k28:n.k_=28
  ·simp only [k28,c k28,jl,jk,jf,ji,zj,loop]
  by_cases k19:n.k_=19
  ·simp only [k28,k19,f k19,jl,jk,jf,ji,zj,loop,show ¬ ((19:Int)=28) by decide]
  by_cases k17:n.k_=17
  ·have:¬ (0 < n.K_.len):=by rw [zu,r k17];simp
   simp only [k28,k19,k17,this,jl,jk,jf,ji,zj,loop,show ¬ ((17:Int)=28) by decide,show ¬ ((17:Int)=19) by decide]
  ·simp only [k28,k19,k17,jl,jk,jf,ji,zj,loop]
theorem zrY (hw:q1e ()=some true) (x:G1×G1):q8i x=some true:=by
 obtain ⟨libs,text⟩:=x;obtain ⟨L,ok,hl,hL⟩:=zkr libs;unfold q8i q85;simp only [hl,jf,zex,zj,hw,Un,jg,jk,jh];cases ok with
 |false=>rfl
 |true=>
 obtain ⟨t,ty,rty,ht,hs,hrs,hsg⟩:=hL rfl;simp only [Un,jg,jk,jf,jh];by_cases hp:(xI text).2.2=0
 rotate_left
 ·rw [jr hp]
 have hg:=zkk hp;rw [js (by simp [hp])];generalize (xI text).1=n at hg;obtain ⟨a,e,fns,h1,hf⟩:=zrW hg L.S_ (mkS t) hsg hs (by show t.length<=_;omega);rw [ty,h1,jf];simp only;rcases hf with ⟨he,_⟩ | ⟨he,hF,hD⟩
 ·rw [jr he]
 rw [js (by simp [he])];have hk:=hg.kids;have hsz:=hg.size
 obtain ⟨ow,q,j1⟩:=go (f:=q3u q1c q1o q1e q2g q3s) (n:=n.K_.xs.length) (A:=Sl (G1×Int))
  (st:=fun i a=>(n.K_,n.K_.len,(i:Int),L,n,(lit [],a),lit [],Sl.mk [] true)) (fin:=fun a =>.inr (L,n,(lit [],a),lit [],Sl.mk [] true)) (J:=fun i a=>(∀ y,0<=ZR y a.xs/\ZR y a.xs<=i)/\∀ k∈n.K_.xs.take i,ZR k.T_ a.xs≠0)
  (fun i hi a ha=>by
   obtain ⟨a1,a2⟩:=ha;unfold q3u;simp only [jh,zj];have h6:¬ (n.K_.xs[i].k_≠6):=by have:=(hF.2 i hi).g.1;simp [this]
   rw [jr (by simp only [zu];omega),zt hi,jf,js h6];have b1:=a1 n.K_.xs[i].T_;have wi:G5 (ZR n.K_.xs[i].T_ a.xs+1)=ZR n.K_.xs[i].T_ a.xs+1:=zI (by omega) (by omega);simp only [wi,zL (show i < 1000000000 by omega)];refine ⟨_,rfl,fun y=>?_,fun k hk=>?_⟩
   ·simp only [WU];split
    ·omega
    ·have:=a1 y;omega
   ·simp only [WU];split
    ·omega
    ·rename_i hne;rw [<- UB hi] at hk;rcases G6.1 hk with hk | hk
     ·exact a2 k hk
     ·obtain rfl:=Ux.1 hk
      exact absurd rfl hne)
  (fun a ha=>by
   unfold q3u;simp only [jh,zj]
   rw [js (by simp only [zu];omega)])
  (a:=Sl.mk [] true) ⟨fun y=>by simp [ZR,wu],by simp⟩
 have q:lpO (q3u q1c q1o q1e q2g q3s) (n.K_,n.K_.len,0,L,n,(lit [],Sl.mk [] true),lit [],Sl.mk [] true)=_:=q;rw [q]
 obtain ⟨th,q2,j2⟩:=go (f:=q3v q1c q1o q1e q2g q3s) (n:=L.S_.xs.length) (A:=Sl (G1×Int))
  (st:=fun i a=>(L.S_,L.S_.len,(i:Int),n,(lit [],ow),lit [],a)) (fin:=fun a=>(n,(lit [],ow),lit [],a)) (J:=fun i a=>(∀ y,0<=ZR y a.xs/\ZR y a.xs<=i)/\∀ k∈L.S_.xs.take i,ZR k.n_ a.xs≠0)
  (fun i hi a ha=>by
   obtain ⟨a1,a2⟩:=ha;unfold q3v;simp only [jh,zj];rw [jr (by simp only [zu];omega),zt hi,jf];have b1:=a1 L.S_.xs[i].n_;have wi:G5 (ZR L.S_.xs[i].n_ a.xs+1)=ZR L.S_.xs[i].n_ a.xs+1:=zI (by omega) (by omega);simp only [wi,zL (show i < 1000000000 by omega)];refine ⟨_,rfl,fun y=>?_,fun k hk=>?_⟩
   ·simp only [WU];split
    ·omega
    ·have:=a1 y;omega
   ·simp only [WU];split
    ·omega
    ·rename_i hne;rw [<- UB hi] at hk;rcases G6.1 hk with hk | hk
     ·exact a2 k hk
     ·obtain rfl:=Ux.1 hk
      exact absurd rfl hne)
  (fun a ha=>by
   unfold q3v;simp only [jh,zj]
   rw [js (by simp only [zu];omega)])
  (a:=Sl.mk [] true) ⟨fun y=>by simp [ZR,wu],by simp⟩
 have q2:lpO (q3v q1c q1o q1e q2g q3s) (L.S_,L.S_.len,0,n,(lit [],ow),lit [],Sl.mk [] true)=_:=q2;simp only [jf,ji,zj,q2];rw [List.take_length] at j1 j2;have key:AllN (qN (lit [],ow) (lit [],th)) n:=by
  obtain ⟨l,hn⟩:=hg.eq;have h0:n.k_=0:=by rw [hn]
  refine .mk ⟨by simp [h0],by simp [h0],by simp [h0],by simp [h0]⟩ fun k hk=>?_
  obtain ⟨i,hi,rfl⟩:=List.getElem_of_mem hk;refine (hD i hi).a.mono fun m hm=>⟨hm.b,fun c=>?_,fun c=>?_,hm.r⟩
  ·obtain ⟨s,hs1,hs2⟩:=hm.c c;rw [<- hs2];exact j2.2 s hs1
  ·obtain ⟨k,f,k1,k2,_⟩:=hm.f c;obtain ⟨hk2,rfl⟩:=GD.1 k2;obtain ⟨_,hx⟩:=zkp k1;have hkk:k < n.K_.xs.length:=by rw [<- hF.1];exact hk2
   have hnm:=(hF.2 k hkk).n;have hx:(fns.xs[k]).n_=m.T_:=by simpa using hx
   rw [<- hx,hnm];exact j1.2 _ (jx hkk)
 have e2:q3s (n,(lit [],ow),lit [],th)=some (true,(lit [],ow),lit [],th):=zwk key 100000 (by omega) (by omega);rw [e2];rfl
deriving instance DecidableEq for Sl
mutual
def zrZ:q7->q7->Bool
 |⟨k,t,n,a,s⟩,⟨k',t',n',a',s'⟩=>(decide (k=k') && (decide (t=t') && (decide (n=n') && decide (a=a')))) && zr0 s s'
def zr0:Sl q7->Sl q7->Bool
 |⟨l,b⟩,⟨l',b'⟩=>(b == b') && zeD l l'
def zeD:List q7->List q7->Bool
 |[],[]=>true
 |x::l,y::r=>zrZ x y && zeD l r
 |_,_=>false
end
mutual
theorem zks:∀ a b:q7,zrZ a b=true↔a=b
 |⟨k,t,n,a,s⟩,⟨k',t',n',a',s'⟩=>by
  unfold zrZ;have:=zr1 s s';simp only [g9,jh,this,q7.mk.injEq];constructor
  ·rintro ⟨⟨h1,h2,h3,h4⟩,h5⟩;exact ⟨h1,h2,h3,h4,h5⟩
  ·rintro ⟨h1,h2,h3,h4,h5⟩;exact ⟨⟨h1,h2,h3,h4⟩,h5⟩
theorem zr1:∀ a b:Sl q7,zr0 a b=true↔a=b
 |⟨l,b⟩,⟨l',b'⟩=>by
  unfold zr0;have:=zkt l l';simp only [g9,beq_iff_eq,this,Sl.mk.injEq];constructor
  ·rintro ⟨h1,h2⟩;exact ⟨h2,h1⟩
  ·rintro ⟨h1,h2⟩;exact ⟨h2,h1⟩
theorem zkt:∀ a b:List q7,zeD a b=true↔a=b
 |[],[]=>by unfold zeD;simp
 |x::l,y::r=>by
  unfold zeD;have h1:=zks x y;have h2:=zkt l r;simp only [g9,h1,h2,List.cons.injEq]
 |[],_::_=>by unfold zeD;simp
 |_::_,[]=>by unfold zeD;simp
end
instance:DecidableEq q7:=fun a b=>decidable_of_iff _ (zks a b)
deriving instance DecidableEq for qn
deriving instance DecidableEq for q8
deriving instance DecidableEq for qp
deriving instance DecidableEq for qr
deriving instance DecidableEq for qa
deriving instance DecidableEq for qf
deriving instance DecidableEq for qd
deriving instance DecidableEq for qb
end Go.Px
