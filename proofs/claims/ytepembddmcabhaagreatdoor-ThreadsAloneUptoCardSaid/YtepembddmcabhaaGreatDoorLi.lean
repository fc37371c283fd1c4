/- Part Li. -/
import Derived.Test.YtepembddmcabhaaGreatDoorB2
set_option linter.unusedVariables false
set_option linter.unusedSimpArgs false
namespace Go.Px
variable{ks l:List Nd}{n:Nd}{t:List PT}{x:qp}
theorem znY (h:zaM l = .ok t):t.length<=l.length:=by
 have:=zeN (I:=fun i (a:List PT)=>a.length<=i) l 0 [] (by simp) (fun i hi a a' ha e=>by
  split at e
  ·cases hx:Y4 a l[i] with
   |error x=>rw [hx] at e;cases e
   |ok x=>rw [hx] at e;cases e;simp;omega
  grind) t h
 omega
theorem zqP {s:List PSg}(h:zdv t l = .ok s):s.length<=l.length:=by
 have:=zeN (I:=fun i (a:List PSg)=>a.length<=i) l 0 [] (by simp) (fun i hi a a' ha e=>by
  split at e
  ·cases hx:Xa t l[i] with
   |error x=>rw [hx] at e;cases e
   |ok x=>rw [hx] at e;cases e;simp;omega
  grind) s h
 omega
def zxZ (L:qz):Prop:=∃ t:List PT,L.z_=mkS t/\L.I_=mkS (t.map rT)/\t.length<=20000/\L.q_.xs.length<=50000/\L.E_.xs.length<=50000
theorem UnitG.kids (h:UnitG n):n.K_.xs.length<=4096:=by have:=h.size;have:=@Zm n;omega
theorem UnitG.ty (h:UnitG n):∀ k∈n.K_.xs,k.k_=1->X6 k/\k.K_.xs.length<=20000:=by
 intro k hk h1;have:=yD hk;have:=@Zm k;have:=h.size;rcases h.kid k hk with h | h
 ·grind
 ·rw [h.1] at h1;grind
theorem UnitG.fn (h:UnitG n):∀ k∈n.K_.xs,k.k_=6->FnG k/\k.K_.xs.length<=20000:=by
 intro k hk h1;have:=yD hk;have:=@Zm k;have:=h.size;rcases h.kid k hk with h | h
 ·rw [h.1] at h1;grind
 grind
theorem zx0 (h:UnitG n):∃ (a b c d a' b' c' d':Int) (t:List PT) (s:Sl PSg) (rs:Sl RSg),q6b n=some (a,b,mkS t)/\q6u (n,mkS t)=some (c,d,s)/\q2u (rN n)=some (a',b',mkS (t.map rT))/\q2j (rN n,mkS (t.map rT))=some (c',d',rs)/\t.length<=20000/\s.xs.length<=50000/\rs.xs.length<=50000:=by
 have hk:=h.kids;have h1:=zsM h.ty (by omega);have h2:=zqH h.ty (by omega);have sg:∀ t:List PT,t.length<=20000->∃ (c d c' d':Int) (s:Sl PSg) (rs:Sl RSg),q6u (n,mkS t)=some (c,d,s)/\q2j (rN n,mkS (t.map rT))=some (c',d',rs)/\s.xs.length<=50000/\rs.xs.length<=50000:=by
  intro t ht;have h3:=zvY (t:=mkS t) h.fn ht (by omega);have h4:=zsQ (t:=t) h.fn ht (by omega);rw [show (mkS t).xs=t from rfl] at h3;cases e:zdv t n.K_.xs with
  |error x=>grind
  |ok s=>
   have:=zqP e;rw [e] at h3 h4;exact ⟨_,_,_,_,_,_,h3,h4,by show s.length<=_;omega,by show (s.map rG).length<=_;grind⟩
 cases e:zaM n.K_.xs with
 |error x=>
  rw [e] at h1 h2;obtain ⟨c,d,c',d',s,rs,q1,q2,q3,q4⟩:=sg [] (by simp);exact ⟨_,_,c,d,_,_,c',d',[],s,rs,h1,q1,h2,q2,by simp,q3,q4⟩
 |ok t=>
  have ht:=znY e;rw [e] at h1 h2;obtain ⟨c,d,c',d',s,rs,q1,q2,q3,q4⟩:=sg t (by omega);grind
theorem znZ (libs:Ua):∃ L b,q2x libs=some (L,b)/\(b=true->zxZ L):=by
 unfold q2x q70;rw [zeL,jf];simp only [jh,zn];by_cases hp:(xU libs).2.2=0
 rotate_left
 ·rw [jr hp];grind
 have hg:=zkH hp;rw [js (by simp [hp])];generalize hn:(xU libs).1=n at hg;obtain ⟨a,b,c,d,a',b',c',d',t,s,rs,h1,h2,h3,h4,ht,hs,hrs⟩:=zx0 hg;have hk:=hg.kids;simp only [h1,jf,h2,zc1,hn,zk,h3,h4];have ek:(rN n).K_.xs=n.K_.xs.map rN:=by rw [zF]
 have ekl:(rN n).K_.xs.length=n.K_.xs.length:=by rw [ek];simp
 obtain ⟨⟨fs,rfs⟩,e,_⟩:=go (f:=q45 q5h q6b q6u q2e q2u q2j) (n:=n.K_.xs.length) (A:=Sl Nd×Sl RNd)
  (st:=fun i x=>(b,d,n.K_,n.K_.len,(i:Int),s,rN n,rs,(mkS t,mkS (t.map rT)),x.1,x.2)) (fin:=fun x=>(b,d,s,rs,(mkS t,mkS (t.map rT)),x.1,x.2)) (J:=fun i x=>x.1.xs.length<=i/\x.2.xs.length<=i)
  (fun i hi x hx=>by
   obtain ⟨fs,rfs⟩:=x;obtain ⟨x1,x2⟩:=hx;simp only at x1 x2;unfold q45;simp only [jh,zn,zk];rw [jr (by simp only [zo];omega),zi hi,jf,ZG (by omega) (by omega)];have wk:=zx (show i < 1000000000 by omega);split
   ·simp only [jf];rw [zi (by omega),jf,ZG (by omega) (by omega)];simp only [jf,wk];exact ⟨(_,_),rfl,by simp;omega,by simp;omega⟩
   ·simp only [jf,wk]
    exact ⟨(fs,rfs),rfl,by grind,by grind⟩)
  (fun x hx=>by
   unfold q45;simp only [jh]
   rw [js (by simp only [zo];omega)])
  (a:=(Sl.mk [] false,Sl.mk [] false)) ⟨by simp,by simp⟩
 have e:lpO (q45 q5h q6b q6u q2e q2u q2j) (b,d,n.K_,n.K_.len,0,s,rN n,rs,(mkS t,mkS (t.map rT)),Sl.mk [] false,Sl.mk [] false)=_:=e;rw [e];simp only [jf];have G:∀ f rf,zxZ ⟨f,mkS t,s,rf,mkS (t.map rT),rs⟩:=fun f rf=>⟨t,rfl,rfl,ht,hs,hrs⟩
 by_cases c1:b=0 <;> by_cases c2:d=0 <;> by_cases c3:Sl.len s=Sl.len fs <;>
 ·simp only [c1,c2,c3,jl,jk,jf];exact ⟨_,_,rfl,fun _=>G _ _⟩
def zc4 (a:List q1d) (b:List q18):Prop:=a.map (fun c=>c.L_.xs.map fk)=b.map (fun c=>c.L_.xs.map rfk)/\∀ c∈a,c.L_.xs.length<=40000
def zx1 (t:List PT) (ks:List Nd) (C:q1l):Prop:=ks.length<=40000/\Ys 5000 t ks C.W_.xs/\Z8 5000 t ks C.r_.xs/\zc4 C.U_.xs C.j_.xs/\C.U_.xs.length=ks.length
theorem zc4.snoc {a:List q1d}{b:List q18}{c:q1d}{d:q18}(h:zc4 a b) (h1:c.L_.xs.map fk=d.L_.xs.map rfk) (h2:c.L_.xs.length<=40000):zc4 (a++[c]) (b++[d]):=by
 refine ⟨by simp [h.1,h1],fun x hx=>?_⟩;rcases Ue.1 hx with hx | hx
 ·exact h.2 x hx
 grind
theorem zqQ (x:Ua×Ua):∃ L C b,q3a x=some (L,C,b)/\(b=true->∃ t ks,L.z_=mkS t/\L.I_=mkS (t.map rT)/\zx1 t ks C):=by
 obtain ⟨libs,text⟩:=x;obtain ⟨L,ok,hl,hL⟩:=znZ libs;unfold q3a q7h;simp only [hl,jf,zeL,zn,zc1,zk,jh];cases ok with
 |false=>simp only [UY,jl,jf];grind
 |true=>
 obtain ⟨t,ty,rty,ht,hs,hrs⟩:=hL rfl;simp only [UJ,jg,jk,jf,jh];by_cases hp:(xU text).2.2=0
 rotate_left
 ·rw [jr hp];grind
 have hg:=zkH hp;rw [js (by simp [hp])];generalize (xU text).1=n at hg;obtain ⟨a,e,fns,h1,hf⟩:=zsU hg L.q_ (mkS t) hs (by show t.length<=_;omega);obtain ⟨S,h2,hrf⟩:=zqO hg L.E_ t hrs (by omega);rw [ty,rty,h1,jf,h2,jf];have hk:=hg.kids;have hsz:=hg.size;have ek:(rN n).K_.xs=n.K_.xs.map rN:=by rw [zF]
 have ekl:(rN n).K_.xs.length=n.K_.xs.length:=by rw [ek];simp
 obtain ⟨⟨cs,rcs⟩,q,j1,j2,j3,j4⟩:=go (f:=q4e q2x q5h q2e q77 q3i q5c q25) (n:=n.K_.xs.length) (A:=Sl q1d×Sl q18)
  (st:=fun i x=>(e,n.K_,n.K_.len,(i:Int),L,rN n,fns,S.1,S.2,x.1,x.2)) (fin:=fun x=>(e,L,fns,S.1,S.2,x.1,x.2)) (J:=fun i x=>x.1.xs.length<=i/\x.2.xs.length<=i/\zc4 x.1.xs x.2.xs/\((∀ k∈n.K_.xs,FnG k)->x.1.xs.length=i))
  (fun i hi x hx=>by
   obtain ⟨cs,rcs⟩:=x;obtain ⟨x1,x2,x3,x4⟩:=hx;simp only at x1 x2 x3 x4;unfold q4e;simp only [jh,zn,zk];rw [jr (by simp only [zo];omega),zi hi,jf];have wk:=zx (show i < 1000000000 by omega);have hx:zb (rN n).K_ (i:Int)=some (rN n.K_.xs[i]):=by rw [zi (by omega)];grind
   have hki:=yD (jx hi);by_cases h6:n.K_.xs[i].k_=6
   ·have hf:=(hg.fn _ (jx hi) h6).1;obtain ⟨c,rc,l1,l2,l3,l4⟩:=zkM hf (by omega);simp only [h6,jl,l1,jf,hx,l2];rw [ZG (by omega) (by omega),jf,ZG (by omega) (by omega)];simp only [jf,wk];exact ⟨(_,_),rfl,by simp;omega,by simp;omega,x3.snoc l3 l4,fun h=>by simp [x4 h]⟩
   ·simp only [h6,jk,jf,wk]
    exact ⟨(cs,rcs),rfl,by grind,by grind,x3,fun h=>absurd (h _ (jx hi)).1 h6⟩)
  (fun x hx=>by
   unfold q4e;simp only [jh]
   rw [js (by simp only [zo];omega)])
  (a:=(Sl.mk [] false,Sl.mk [] false)) ⟨by simp,by simp,⟨rfl,by simp⟩,by simp⟩
 have q:lpO (q4e q2x q5h q2e q77 q3i q5c q25) (e,n.K_,n.K_.len,0,L,rN n,fns,S.1,S.2,Sl.mk [] false,Sl.mk [] false)=_:=q;rw [q];simp only [jf];have G:e=0->S.1.2.2.2=0->zx1 t n.K_.xs ⟨fns,cs,S.2,rcs⟩:=by
  intro he hc;rcases hf with ⟨h,_⟩ | ⟨_,hF⟩
  ·grind
  rcases hrf with ⟨h,_⟩ | ⟨_,hR⟩
  ·grind
  refine ⟨by omega,hF,hR,j3,j4 fun k hk=>?_⟩;obtain ⟨i,hi,rfl⟩:=List.getElem_of_mem hk;exact (hF.2 i hi).g
 by_cases c1:e=0 <;> by_cases c2:S.1.2.2.2=0 <;> by_cases c3:Sl.len fns=Sl.len cs <;>
 ·simp only [c1,c2,c3,jl,jk,jf];exact ⟨_,_,_,rfl,fun h=>by first | exact ⟨t,_,ty,rty,G c1 c2⟩ | cases h⟩
structure FuncG (x:qp) (r:qr):Prop where
 w:∃ t ks,x.Q_=mkS t/\r.Q_=mkS (t.map rT)/\ks.length<=40000/\Ys 5000 t ks x.F_.xs/\Z8 5000 t ks r.F_.xs
 c:x.c_.L_.xs.map fk=r.c_.L_.xs.map rfk
 l:x.c_.L_.xs.length<=40000
def zc5 (a:List qp) (b:List qr):Prop:=∃ h:b.length=a.length,a.length<=40000/\∀ i (hi:i < a.length),FuncG a[i] (b[i]'(by omega))
theorem zc5.snoc {a:List qp}{b:List qr}{r:qr}(h:zc5 a b) (g:FuncG x r) (hl:a.length < 40000):zc5 (a++[x]) (b++[r]):=by
 have e:=h.1;refine ⟨by simp [e],by simp;omega,fun i hi=>?_⟩;rw [jt,jv] at hi;by_cases c:i < a.length
 ·rw [List.getElem_append_left c,List.getElem_append_left (by omega)];exact h.2.2 i c
 ·obtain rfl:i=a.length:=by omega
  rw [List.getElem_append_right (Ur _),List.getElem_append_right (by omega)];grind
theorem zsW (x:Ua×Ua):∃ b fs rs,q1j x=some (b,fs,rs)/\(b=true->zc5 fs.xs rs.xs):=by
 obtain ⟨L,C,b,h,hb⟩:=zqQ x;unfold q1j q83;rw [h,jf];cases b with
 |false=>exact ⟨_,_,_,rfl,fun h=>by cases h⟩
 |true=>
 obtain ⟨t,ks,ty,rty,hk,hF,hR,hC,hl⟩:=hb rfl;simp only [UJ,jg,jk];have f1:=hF.1;have r1:=hR.1;have cl:=congrArg List.length hC.1;simp only [UV] at cl
 obtain ⟨⟨fs,rs⟩,q,j1,j2⟩:=go (f:=q4t q3a) (n:=ks.length) (A:=Sl qp×Sl qr)
  (st:=fun i x=>(C.W_.len,(i:Int),L,C,x.1,x.2)) (fin:=fun x=>(x.1,x.2)) (J:=fun i x=>x.1.xs.length=i/\zc5 x.1.xs x.2.xs)
  (fun i hi x hx=>by
   obtain ⟨fs,rs⟩:=x;obtain ⟨x1,x2⟩:=hx;have x3:=x2.1;simp only at x1 x2 x3;unfold q4t;simp only [jh];rw [jr (by simp only [zo];omega),zi (by omega),jf,zi (by omega),jf,ZG (by omega) (by omega),jf,zi (by omega),jf,zi (by omega),jf,ZG (by omega) (by omega),jf,zx (by omega)];refine ⟨(_,_),rfl,by simp [x1],x2.snoc ⟨⟨t,ks,ty,rty,hk,hF,hR⟩,?_,hC.2 _ (jx _)⟩ (by omega)⟩;have:=congrArg (fun l=>l[i]?) hC.1;simp only [Uj,Uq (show i < C.U_.xs.length by omega),Uq (show i < C.j_.xs.length by omega),Uk,Option.some.injEq] at this
   exact this)
  (fun x hx=>by
   unfold q4t;simp only [jh]
   rw [js (by simp only [zo];omega)])
  (a:=(Sl.mk [] false,Sl.mk [] false)) ⟨by simp,⟨by simp,by simp,fun i hi=>by simp at hi⟩⟩
 have q:lpO (q4t q3a) (C.W_.len,0,L,C,Sl.mk [] false,Sl.mk [] false)=_:=q;rw [q];exact ⟨_,_,_,rfl,fun _=>j2⟩
theorem ztP {S R α:Type}{f:S->Uc (Step S R)}{xs:List α}{p:α->Uc R}{st:Nat->S}{no:R}
    (h:∀ i (hi:i < xs.length),f (st i)=some (match p xs[i] with | some r =>.done r | none =>.next (st (i+1)))) (h0:f (st xs.length)=some (.done no)) :
    lpO f (st 0)=some ((xs.findSome? p).getD no):=by
  have:∀ (n i:Nat),i+n=xs.length->lpO f (st i)=some (((xs.drop i).findSome? p).getD no):=by
    intro n
    induction n with
    |zero=>
      intro i hi;rw [Uf (by omega),show i=xs.length by omega,zw h0];rfl
    |succ n ih=>
      intro i hi;have hlt:i < xs.length:=by omega
      have h1:=h i hlt;rw [UL hlt,List.findSome?_cons];cases hp:p xs[i] with
      |some r=>rw [hp] at h1;rw [zw h1];rfl
      |none=>rw [hp] at h1;rw [zD h1,ih (i+1) (by omega)]
  have h2:=this xs.length 0 (by omega);grind
def zfW (s:Int):Bool:=decide (s=0) || (decide (s=1) || decide (s=3))
theorem zmd (s:Int):q5u s=some (zfW s)/\q26 s=some (zfW s):=by
 unfold q5u qc8 q26 qb6 zfW;grind
def Xb (t:List PT) (p:PP):Bool:=decide (p.M_=2) && !zfW (YR t p.t_)
def Wx (t:List PT) (ks:List Nd) (y:Ua):Bool:=(ks.findIdx? fun k=>decide (k.T_=y)).elim false fun i=>(yk (ks.getD i Xe)).any fun q=>Xb t (Zd t q)
def fkA (q:Ua->Bool):Fk->Uc (Int×Int)
 |some (a,y)=>if q y=true then some (a,54) else none
 |none=>none
def thr (q:Ua->Bool) (l:List Fk):Int×Int:=(l.findSome? (fkA q)).getD (0,0)
def okP (t:List PT) (p:PP):Prop:=p.M_=2->0<=p.t_/\p.t_ < t.length
theorem zme (h:zkN t l) {k:Nd}(hk:k∈l):okP t (Zd t k):=by
 intro h2;refine ⟨h k hk h2,?_⟩;unfold Zd at h2 |-
 split
 ·exact YO.2.1
 grind
theorem zqR {p:PP}(h:0<=p.t_/\p.t_ < t.length):∃ i:Nat,∃ hi:i < t.length,p.t_=(i:Int)/\YR t p.t_=t[i].S_:=by
 obtain ⟨i,hi⟩:∃ i:Nat,p.t_=(i:Int):=⟨_,(Dg h.1).symm⟩
 refine ⟨i,by omega,hi,?_⟩;unfold YR;grind
theorem zwe (hx:x.Q_=mkS t) {p:PP}(hp:okP t p):q4y (p,x)=some (Xb t p,x):=by
 unfold q4y qau Xb;simp only [jh];by_cases h:p.M_=2
 ·obtain ⟨i,hi,e,hs⟩:=zqR (hp h);simp only [h,jl,hx,e,zi (s:=mkS t) (show i < (mkS t).xs.length from hi),jf,(zmd _).1];rw [<- e,hs];rfl
 grind
theorem zzm (hx:x.Q_=mkS t) {l:List PP}(hl:∀ p∈l,okP t p) (hz:l.length<=100000) (b:Bool):q3j (⟨l,b⟩,x)=some (l.any (Xb t),x):=by
 have:=x9 (f:=q5p q4y) (xs:=l) (p:=Xb t) (st:=fun i=>(⟨l,b⟩,(⟨l,b⟩:Sl PP).len,(i:Int),x)) (yes:=fun i =>.inl ((i:Int),x)) (no :=.inr x)
  (fun i hi=>by
   unfold q5p;simp only [jh];rw [jr (by simp only [zo];omega),zi (s:=⟨l,b⟩) hi,jf];rw [zwe hx (hl _ (jx hi))];simp only [jf,zx (show i < 1000000000 by omega)]
   grind)
  (by unfold q5p;simp only [jh];rw [js (by simp only [zo];omega)])
 unfold q3j q84 q7n q9z;have this:lpO (q5p q4y) (⟨l,b⟩,(⟨l,b⟩:Sl PP).len,0,x)=_:=this;simp only [this];cases e:l.findIdx? (Xb t) with
 |none=>
  have:l.any (Xb t)=false:=by grind
  rw [this];rfl
 |some i=>
  have:l.any (Xb t)=true:=by
   obtain ⟨hi,h1,_⟩:=List.findIdx?_eq_some_iff_getElem.1 e;grind
  rw [this];simp only [Option.elim_some,jf,jj];rw [gc (show (0:Int)<=(i:Int) by omega)]
theorem zAt {m:Nat}{fs:List PNf}(h:Ys m t ks fs) (y:Ua):fs.findIdx? (fun f=>decide (f.n_=y))=ks.findIdx? fun k=>decide (k.T_=y):=by
 have e:fs.map qc.n_=ks.map q8.T_:=by
  refine List.ext_getElem (by simp [h.1]) fun i h1 h2=>?_
  simp only [List.getElem_map];exact (h.2 i (by simpa using h2)).n
 have h1:=List.findIdx?_map (f:=qc.n_) (p:=fun x=>decide (x=y)) (l:=fs);have h2:=List.findIdx?_map (f:=q8.T_) (p:=fun x=>decide (x=y)) (l:=ks);rw [e] at h1;exact h1.symm.trans h2
theorem zzn {m:Nat}{fs:List RFt}(h:Z8 m t ks fs) (y:Ua):fs.findIdx? (fun f=>decide (f.n_=y))=ks.findIdx? fun k=>decide (k.T_=y):=by
 have e:fs.map qe.n_=ks.map q8.T_:=by
  refine List.ext_getElem (by simp [h.1]) fun i h1 h2=>?_
  simp only [List.getElem_map];exact (h.2 i (by simpa using h2)).n
 have h1:=List.findIdx?_map (f:=qe.n_) (p:=fun x=>decide (x=y)) (l:=fs);have h2:=List.findIdx?_map (f:=q8.T_) (p:=fun x=>decide (x=y)) (l:=ks);rw [e] at h1;exact h1.symm.trans h2
theorem zwf (fs:Sl PNf) (n:CIx) (h:fs.xs.length<=100000):q4z (fs,n)=some ((fs.xs.findIdx? fun f=>decide (f.n_=n.Y_)).elim (-1) (fun i=>(i:Int)),n):=by
 have:=x9 (f:=q6r q75) (xs:=fs.xs) (p:=fun f=>decide (f.n_=n.Y_)) (st:=fun i=>(fs,fs.len,(i:Int),n)) (yes:=fun i =>.inl ((i:Int),n)) (no :=.inr n)
  (fun i hi=>by
   unfold q6r;simp only [jh];rw [jr (by simp only [zo];omega),zi hi,jf];show ((some (decide (fs.xs[i].n_=n.Y_),n)).bind _)=_;simp only [jf,zx (show i < 1000000000 by omega)]
   grind)
  (by unfold q6r;simp only [jh];rw [js (by simp only [zo];omega)])
 unfold q4z qav;have this:lpO (q6r q75) (fs,fs.len,0,n)=_:=this;simp only [this];cases fs.xs.findIdx? _ <;> rfl
theorem zkR {α β γ:Type}{p:α->Uc β}(g:β->γ):∀ l:List α,l.findSome? (fun n=>(p n).map g)=(l.findSome? p).map g
 |[]=>rfl
 |x::l=>by
  rw [List.findSome?_cons,List.findSome?_cons];cases p x with
  |none=>exact zkR g l
  |some y=>rfl
theorem ztQ (hx:x.Q_=mkS t) (hF:Ys 5000 t ks x.F_.xs) (hk:ks.length<=40000) (hl:x.c_.L_.xs.length<=40000):q22 x=some (thr (Wx t ks) (x.c_.L_.xs.map fk)):=by
 have hf1:=hF.1
 have:=ztP (f:=q7r q4z q3j) (xs:=x.c_.L_.xs) (p:=fun n=>(fkA (Wx t ks) (fk n)).map Sum.inl) (st:=fun i=>(x.c_.L_,x.c_.L_.len,(i:Int),x)) (no :=.inr ())
  (fun i hi=>by
   unfold q7r;simp only [jh];rw [jr (by simp only [zo];omega),zi hi,jf];have wk:=zx (show i < 1000000000 by omega);by_cases h13:x.c_.L_.xs[i].O_=13
   rotate_left
   ·simp only [h13,UF,jq,jl,jf,jj,wk,fk,jk,fkA];rfl
   have ek:fk x.c_.L_.xs[i]=some (x.c_.L_.xs[i].a_,x.c_.L_.xs[i].Y_):=jr h13;rw [ek];simp only [h13,UF,jp,jk,zwf _ _ (show x.F_.xs.length<=100000 by omega),jf,zAt hF,fkA];unfold Wx;cases e:ks.findIdx? (fun k=>decide (k.T_=x.c_.L_.xs[i].Y_)) with
   |none=>
    grind
   |some j=>
    obtain ⟨hj,_⟩:=List.findIdx?_eq_some_iff_getElem.1 e;have r:=hF.2 j hj;have hjf:j < x.F_.xs.length:=by omega
    obtain ⟨ex,v1,_⟩:=r.v;have hps:(yk ks[j]).length<=8:=r.l;have hvl:x.F_.xs[j].V_.xs.length=(yk ks[j]).length+ex.length:=by rw [v1];simp
    have hgs:Zg x.F_.xs[j].V_ 0 x.F_.xs[j].P_=some ⟨(yk ks[j]).map (Zd t),x.F_.xs[j].V_.nn⟩:=by
     rw [r.p,YJ (by omega) (by omega) (by omega),v1];simp
    have hg:ks.getD j Xe=ks[j]:=by grind
    simp only [Option.elim_some,show (0:Int)<=(j:Int) from by omega,jl,zi hjf,jf,hgs];rw [zzm hx (fun p hp=>by obtain ⟨k,hk,rfl⟩:=UX.1 hp;exact zme r.o hk) (by simp;omega)];simp only [jf,hg,List.any_map];cases h:(yk ks[j]).any (Xb t ∘ Zd t) with
    |true=>
     have h:((yk ks[j]).any fun q=>Xb t (Zd t q))=true:=h;grind
    |false=>
     have h:((yk ks[j]).any fun q=>Xb t (Zd t q))=false:=h
     grind)
  (by unfold q7r;simp only [jh];rw [js (by simp only [zo];omega)])
 unfold q22 qc9 thr;have this:lpO (q7r q4z q3j) (x.c_.L_,x.c_.L_.len,0,x)=_:=this;rw [this,List.findSome?_map];rw [zkR];show _=some ((List.findSome? (fun n=>fkA (Wx t ks) (fk n)) x.c_.L_.xs).getD (0,0));cases List.findSome? (fun n=>fkA (Wx t ks) (fk n)) x.c_.L_.xs <;> rfl
abbrev R19:=qr
theorem zzo {r:R19}{ps:List Nd}{i:Int}{k:Nat}{n:RIx}(hr:r.Q_=mkS (t.map rT)) (hk:k < r.F_.xs.length) (hp:r.F_.xs[k].P_=(ps.length:Int)) (hz:ps.length<=8) {ex:List RP}
    (hv:r.F_.xs[k].V_.xs=(ps.map fun q=>rP (Zd t q))++ex) (ho:∀ q∈ps,okP t (Zd t q)) :
    lpO (q65 q26) (r,i,(k:Int),0,n)=some (if (ps.any fun q=>Xb t (Zd t q))=true then .inl (n.a_,54) else .inr (r,i)):=by
  have hvl:r.F_.xs[k].V_.xs.length=ps.length+ex.length:=by rw [hv];simp
  have:=x9 (f:=q65 q26) (xs:=ps) (p:=fun q=>Xb t (Zd t q)) (st:=fun v=>(r,i,(k:Int),(v:Int),n)) (yes:=fun _ =>.inl (n.a_,54)) (no :=.inr (r,i))
    (fun v hv'=>by
      unfold q65;simp only [jh,zi hk,jf];rw [jr (by omega),zi (by omega),jf];have ex1:r.F_.xs[k].V_.xs[v]'(by omega)=rP (Zd t ps[v]):=by
        grind
      simp only [ex1];have wk:=zx (show v < 1000000000 by omega);unfold Xb;by_cases h:(Zd t ps[v]).M_=2
      · obtain ⟨j,hj,e,hs⟩:=zqR (ho _ (jx hv') h);have g:zb r.Q_ (Zd t ps[v]).t_=some (rT t[j]):=by rw [hr,e];exact xy hj
        simp only [rP,h,UF,jp,jk,g,jf,(zmd _).2,hs,jo,Bool.true_and];simp only [show (rT t[j]).S_=t[j].S_ from rfl];cases zfW t[j].S_ <;> simp only [UJ,UY,jg,jl,jk,jf,jj,ji,wk]
      ·simp only [rP,h,UF,jq,jl,jf,jj,wk,jm,Bool.false_and,jg,jk])
    (by
      unfold q65;simp only [jh,zi hk,jf]
      grind)
  refine Eq.trans this ?_;cases e:ps.findIdx? (fun q=>Xb t (Zd t q)) with
  |none=>
    have:(ps.any fun q=>Xb t (Zd t q))=false:=by grind
    rw [this];rfl
  |some i=>
    have:(ps.any fun q=>Xb t (Zd t q))=true:=by
      obtain ⟨hi,h1,_⟩:=List.findIdx?_eq_some_iff_getElem.1 e;grind
    rw [this];rfl
theorem zzp {r:R19}(hr:r.Q_=mkS (t.map rT)) (hR:Z8 5000 t ks r.F_.xs) (ho:∀ k∈ks,∀ q∈yk k,okP t (Zd t q)) (hk:ks.length<=40000) (i:Int) (n:RIx) :
    lpO (q66 q26) (r,i,0,n)=some (if Wx t ks n.Y_=true then .inl (n.a_,54) else .inr (r,i)):=by
  have hl:=hR.1;have bo:∀ j,j < ks.length->(yk (ks.getD j Xe))=yk (ks.getD j Xe):=fun _ _=>rfl
  have:=x9 (f:=q66 q26) (xs:=r.F_.xs) (p:=fun f=>decide (f.n_=n.Y_)) (st:=fun k=>(r,i,(k:Int),n)) (yes:=fun k=>if ((yk (ks.getD k Xe)).any fun q=>Xb t (Zd t q))=true then .inl (n.a_,54) else .inr (r,i)) (no :=.inr (r,i))
    (fun k hk'=>by
      unfold q66;simp only [jh];rw [jr (by simp only [zo];omega),zi hk',jf];by_cases h:r.F_.xs[k].n_=n.Y_
      rotate_left
      ·simp only [h,UF,jq,jl,jk,zx (show k < 1000000000 by omega)]
      have hkk:k < ks.length:=by omega
      have q:=hR.2 k hkk;obtain ⟨ex,v1,_⟩:=q.v;have hg:ks.getD k Xe=ks[k]:=by grind
      simp only [h,UF,jp,jk,jl,hg];rw [zzo hr hk' q.p q.l v1 (ho _ (jx hkk)),jf]
      grind)
    (by unfold q66;simp only [jh];rw [js (by simp only [zo];omega)])
  refine Eq.trans this ?_;rw [zzn hR];unfold Wx;cases ks.findIdx? _ <;> rfl
theorem zx2 {r:R19}(hr:r.Q_=mkS (t.map rT)) (hR:Z8 5000 t ks r.F_.xs) (ho:∀ k∈ks,∀ q∈yk k,okP t (Zd t q)) (hk:ks.length<=40000) (hl:r.c_.L_.xs.length<=40000) :
    q46 r=some (thr (Wx t ks) (r.c_.L_.xs.map rfk)):=by
  have:=ztP (f:=q67 q26) (xs:=r.c_.L_.xs) (p:=fun n=>(fkA (Wx t ks) (rfk n)).map Sum.inl) (st:=fun i=>(r,(i:Int))) (no :=.inr ())
    (fun i hi=>by
      unfold q67;simp only [jh];rw [jr (by simp only [zo];omega),zi hi,jf];have wk:=zx (show i < 1000000000 by omega);by_cases h13:r.c_.L_.xs[i].O_=13
      rotate_left
      ·simp only [h13,UF,jq,jl,jf,jj,wk,rfk,jk,fkA];rfl
      have ek:rfk r.c_.L_.xs[i]=some (r.c_.L_.xs[i].a_,r.c_.L_.xs[i].Y_):=jr h13;rw [ek];simp only [h13,UF,jp,jk,zzp hr hR ho hk,jf,fkA];cases Wx t ks r.c_.L_.xs[i].Y_ with
      |true=>rfl
      |false=>grind)
    (by unfold q67;simp only [jh];rw [js (by simp only [zo];omega)])
  unfold q46 qb7 thr;have this:lpO (q67 q26) (r,0)=_:=this;rw [this,List.findSome?_map,zkR];show _=some ((List.findSome? (fun n=>fkA (Wx t ks) (rfk n)) r.c_.L_.xs).getD (0,0));cases List.findSome? (fun n=>fkA (Wx t ks) (rfk n)) r.c_.L_.xs <;> rfl
theorem zx3 {r:R19}(h:FuncG x r):∃ q,q22 x=some (thr q (x.c_.L_.xs.map fk))/\q46 r=some (thr q (x.c_.L_.xs.map fk))/\
    ∀ y:qp,y.Q_=x.Q_->y.F_=x.F_->y.c_.L_.xs.length<=40000->q22 y=some (thr q (y.c_.L_.xs.map fk)):=by
  obtain ⟨t,ks,h1,h2,hk,hF,hR⟩:=h.w;have hl:=congrArg List.length h.c;simp only [UV] at hl;have hL:=h.l;refine ⟨Wx t ks,ztQ h1 hF hk h.l,?_,fun y e1 e2 e3=>ztQ (by rw [e1,h1]) (by grind) hk e3⟩;rw [h.c];refine zx2 h2 hR (fun k hk' q hq=>?_) hk (by omega);obtain ⟨i,hi,rfl⟩:=List.getElem_of_mem hk';exact zme (hF.2 i hi).o hq
def zaQ (n:CIx):Bool:=decide (n.O_=13)
theorem zbP (q:Ua->Bool):∀ l:List CIx,thr q ((l.filter zaQ).map fk)=thr q (l.map fk)
 |[]=>rfl
 |x::l=>by
  have ih:=zbP q l;unfold thr at ih |-
  by_cases h:x.O_=13
  ·rw [List.filter_cons_of_pos (by simp [zaQ,h]),Un,Un,List.findSome?_cons,List.findSome?_cons];grind
  ·rw [List.filter_cons_of_neg (by simp [zaQ,h]),Un,List.findSome?_cons,show fk x=none from js h];exact ih
theorem zqS (hw:q1g ()=some true) (x:Ua×Ua):q7t x=some true:=by
 obtain ⟨b,fs,rs,e,hb⟩:=zsW x;unfold q7t q79;simp only [e,jf,hw,UJ,jg,jk];cases b with
 |false=>rfl
 |true=>
 obtain ⟨h1,h2,h3⟩:=hb rfl;simp only [UJ,jg,jk]
 obtain ⟨_,q,_⟩:=go (f:=q3v q1j q1g q22) (n:=fs.xs.length) (A:=Unit) (st:=fun i _=>(fs.len,(i:Int),fs)) (fin:=fun _ =>.inr ()) (J:=fun _ _=>True)
  (fun i hi _ _=>by
   have hG:=h3 i hi;obtain ⟨q,q1,_,q3⟩:=zx3 hG;refine ⟨(),?_,trivial⟩;generalize hX:fs.xs[i]=X at *
   have hXl:=hG.l
   obtain ⟨bs,b1,b2⟩:=go (f:=q3w q1j q1g q22) (n:=X.c_.L_.xs.length) (A:=Sl CIx)
    (st:=fun k a=>((thr q (X.c_.L_.xs.map fk)).1,(thr q (X.c_.L_.xs.map fk)).2,fs.len,(i:Int),X.c_.L_,X.c_.L_.len,(k:Int),(X.c_.n_,X.c_.P_,X.f_.n_,X.f_.P_,X.f_.V_,X.s_,X.F_,X.Q_),fs,a))
    (fin:=fun a=>((thr q (X.c_.L_.xs.map fk)).1,(thr q (X.c_.L_.xs.map fk)).2,fs.len,(i:Int),(X.c_.n_,X.c_.P_,X.f_.n_,X.f_.P_,X.f_.V_,X.s_,X.F_,X.Q_),fs,a))
    (J:=fun k a=>a.xs=(X.c_.L_.xs.take k).filter zaQ)
    (fun k hk a ha=>by
     have hal:a.xs.length<=40000:=by grind
     unfold q3w;simp only [jh];rw [jr (by simp only [zo];omega),zi hk,jf];have wk:=zx (show k < 1000000000 by omega);by_cases h:X.c_.L_.xs[k].O_=13
     ·simp only [h,jl];rw [ZG (by omega) (by omega)];simp only [jf,wk];refine ⟨_,rfl,?_⟩;rw [<- Dh hk,List.filter_append,<- ha,List.filter_cons_of_pos (by simp [zaQ,h])];rfl
     ·simp only [h,jk,jf,wk];refine ⟨a,rfl,?_⟩
      rw [<- Dh hk,List.filter_append,<- ha,List.filter_cons_of_neg (by simp [zaQ,h])];simp)
    (fun a ha=>by
     unfold q3w;simp only [jh]
     rw [js (by simp only [zo];omega)])
    (a:=Sl.mk [] false) (by simp)
   rw [List.take_length] at b2;have hbl:bs.xs.length<=40000:=by grind
   have b3:=q3 ⟨⟨X.c_.n_,X.c_.P_,bs⟩,⟨X.f_.n_,X.f_.P_,X.f_.V_⟩,X.s_,X.F_,X.Q_⟩ rfl rfl hbl;simp only [b2,zbP] at b3;unfold q3v;simp only [jh];have b1:lpO (q3w q1j q1g q22) ((thr q (X.c_.L_.xs.map fk)).1,(thr q (X.c_.L_.xs.map fk)).2,fs.len,(i:Int),X.c_.L_,X.c_.L_.len,0,(X.c_.n_,X.c_.P_,X.f_.n_,X.f_.P_,X.f_.V_,X.s_,X.F_,X.Q_),fs,Sl.mk [] false)=_:=b1;rw [jr (by simp only [zo];omega),zi hi,jf,jf,hX,q1,jf,b1,jf,b3,jf];simp only [UF,jp,jk];have wk:=zx (show i < 1000000000 by omega);by_cases h0:bs.len=0
   ·have hn:bs.xs=[]:=by rw [zo] at h0;exact Uw (by omega)
    have ht:thr q (X.c_.L_.xs.map fk)=(0,0):=by rw [<- zbP,<- b2,hn];rfl
    grind
   grind)
  (fun _ _=>by
   unfold q3v;simp only [jh]
   rw [js (by simp only [zo];omega)])
  (a:=()) trivial
 have q:lpO (q3v q1j q1g q22) (fs.len,0,fs)=_:=q;rw [q];rfl
deriving instance DecidableEq for Sl
mutual
def zsX:q8->q8->Bool
 |⟨k,t,n,a,s⟩,⟨k',t',n',a',s'⟩=>(decide (k=k') && (decide (t=t') && (decide (n=n') && decide (a=a')))) && zsY s s'
def zsY:Sl q8->Sl q8->Bool
 |⟨l,b⟩,⟨l',b'⟩=>(b == b') && zeT l l'
def zeT:List q8->List q8->Bool
 |[],[]=>true
 |x::l,y::r=>zsX x y && zeT l r
 |_,_=>false
end
mutual
theorem zkS:∀ a b:q8,zsX a b=true↔a=b
 |⟨k,t,n,a,s⟩,⟨k',t',n',a',s'⟩=>by
  unfold zsX;have:=zsZ s s';simp only [g9,jh,this,q8.mk.injEq];constructor
  ·rintro ⟨⟨h1,h2,h3,h4⟩,h5⟩;exact ⟨h1,h2,h3,h4,h5⟩
  ·rintro ⟨h1,h2,h3,h4,h5⟩;exact ⟨⟨h1,h2,h3,h4⟩,h5⟩
theorem zsZ:∀ a b:Sl q8,zsY a b=true↔a=b
 |⟨l,b⟩,⟨l',b'⟩=>by
  unfold zsY;have:=zkT l l';simp only [g9,beq_iff_eq,this,Sl.mk.injEq];constructor
  ·rintro ⟨h1,h2⟩;exact ⟨h2,h1⟩
  ·rintro ⟨h1,h2⟩;exact ⟨h2,h1⟩
theorem zkT:∀ a b:List q8,zeT a b=true↔a=b
 |[],[]=>by unfold zeT;simp
 |x::l,y::r=>by
  unfold zeT;have h1:=zkS x y;have h2:=zkT l r;simp only [g9,h1,h2,List.cons.injEq]
 |[],_::_=>by unfold zeT;simp
 |_::_,[]=>by unfold zeT;simp
end
instance:DecidableEq q8:=fun a b=>decidable_of_iff _ (zkS a b)
deriving instance DecidableEq for qm
deriving instance DecidableEq for q7
deriving instance DecidableEq for qn
deriving instance DecidableEq for qt
deriving instance DecidableEq for qa
deriving instance DecidableEq for qg
deriving instance DecidableEq for qd
deriving instance DecidableEq for qc
end Go.Px
