/- Part Li: Px22RO Px22RP Px22RQ Px22FM Px22FA Px22FB Px2 -/
import Derived.Test.YtpcipfnohfefhaaGreatDoorB2
set_option linter.unusedVariables false
set_option linter.unusedSimpArgs false
set_option linter.unusedSectionVars false
namespace Go.Px
open Bool renaming false->z,true->D
open List renaming findSome?_cons->M,length->N,getElem_of_mem->O,map_singleton->P,getElem_append_right->Q,getElem_append_left->U,findSome?->V,findIdx?_map->W,findIdx?_eq_some_iff_getElem->X,cons->Y,any_map->Z,any_eq_true->qo
open _root_.Option renaming some->o,some->E,elim_some->K
open Sl renaming mk->B
variable{c d e:Int}{l:List Nd}{n:Nd}{p:PP}
theorem zo1{t:List PT}(h:za6 l = .ok t):t.length<=l.length:=by
 have:=zfj (I:=λi (a:List PT)=>a.length<=i) l 0 [] (by simp) (λi hi a a' ha e=>by
  split at e
  ·cases hx:Y7 a l[i] with
   |error x=>rw[hx] at e;cases e
   |ok x=>rw[hx] at e;cases e;simp;omega
  grind) t h
 omega
theorem zrT{t:List PT}{s:List PSg}(h:zdY t l = .ok s):s.length<=l.length:=by
 have:=zfj (I:=λi (a:List PSg)=>a.length<=i) l 0 [] (by simp) (λi hi a a' ha e=>by
  split at e
  ·cases hx:Xd t l[i] with
   |error x=>rw[hx] at e;cases e
   |ok x=>rw[hx] at e;cases e;simp;omega
  grind) s h
 omega
def zzn(L:q10):Prop:=∃t:List PT,L.E_=mkS t/\L.U_=mkS (t.map rT)/\t.length<=20000/\L.s_.xs.length<=50000/\L.G_.xs.length<=50000
theorem UnitG.kids(h:UnitG n):n.K_.xs.length<=4096:=by have:=h.size;have:=@Zl n;omega
theorem UnitG.ty(h:UnitG n):∀k∈n.K_.xs,k.k_=1->wd k/\k.K_.xs.length<=20000:=by
 intro k hk h1;have:=yF hk;have:=@Zl k;have:=h.size;rcases h.kid k hk with h | h
 ·grind
 ·rw[h.1] at h1;grind
theorem UnitG.fn(h:UnitG n):∀k∈n.K_.xs,k.k_=6->FnG k/\k.K_.xs.length<=20000:=by
 intro k hk h1;have:=yF hk;have:=@Zl k;have:=h.size;rcases h.kid k hk with h | h
 ·rw[h.1] at h1;grind
 grind
theorem zzo(h:UnitG n):∃(a b c d a' b' c' d':Int) (t:List PT) (s:Sl PSg) (rs:Sl RSg),q5k n=o (a,b,mkS t)/\q6b (n,mkS t)=o (c,d,s)/\q2i (rN n)=o (a',b',mkS (t.map rT))/\q2e (rN n,mkS (t.map rT))=o (c',d',rs)/\t.length<=20000/\s.xs.length<=50000/\rs.xs.length<=50000:=by
 have hk:=h.kids;have h1:=ztY h.ty (by omega);have h2:=zrL h.ty (by omega);have sg:∀t:List PT,t.length<=20000->∃(c d c' d':Int) (s:Sl PSg) (rs:Sl RSg),q6b (n,mkS t)=o (c,d,s)/\q2e (rN n,mkS (t.map rT))=o (c',d',rs)/\s.xs.length<=50000/\rs.xs.length<=50000:=by
  intro t ht;have h3:=zxe (t:=mkS t) h.fn ht (by omega);have h4:=zt2 (t:=t) h.fn ht (by omega);rw[show(mkS t).xs=t from rfl] at h3;cases e:zdY t n.K_.xs with
  |error x=>grind
  |ok s=>
   have:=zrT e;rw[e] at h3 h4;exact⟨_,_,_,_,_,_,h3,h4,by show s.length<=_;omega,by show(s.map rG).length<=_;grind⟩
 cases e:za6 n.K_.xs with
 |error x=>
  rw[e] at h1 h2;obtain⟨c,d,c',d',s,rs,q1,q2,q3,q4⟩:=sg [] (by simp);exact⟨_,_,c,d,_,_,c',d',[],s,rs,h1,q1,h2,q2,by simp,q3,q4⟩
 |ok t=>
  have ht:=zo1 e;rw[e] at h1 h2;obtain⟨c,d,c',d',s,rs,q1,q2,q3,q4⟩:=sg t (by omega);grind
theorem zo2(libs:Uq):∃L b,q30 libs=o (L,b)/\(b=D->zzn L):=by
 unfold q30 q75;rw[zfh,ji];simp only[jk,zn];by_cases hp:(xX libs).2.2=0
 rotate_left
 ·rw[ju hp];grind
 have hg:=zlw hp;rw[jv (by simp[hp])];generalize hn:(xX libs).1=n at hg;obtain⟨a,b,c,d,a',b',c',d',t,s,rs,h1,h2,h3,h4,ht,hs,hrs⟩:=zzo hg;have hk:=hg.kids;simp only[h1,ji,h2,zdr,hn,zk,h3,h4];have ek:(rN n).K_.xs=n.K_.xs.map rN:=by rw[zD]
 have ekl:(rN n).K_.xs.length=n.K_.xs.length:=by rw[ek];simp
 obtain⟨⟨fs,rfs⟩,e,_⟩:=go (f:=q4d q3i q5k q6b q24 q2i q2e) (n:=n.K_.xs.length) (A:=Sl Nd×Sl RNd)
  (st:=λi x=>(b,d,n.K_,n.K_.len,(i:Int),s,rN n,rs,(mkS t,mkS (t.map rT)),x.1,x.2)) (fin:=λx=>(b,d,s,rs,(mkS t,mkS (t.map rT)),x.1,x.2)) (J:=λi x=>x.1.xs.length<=i/\x.2.xs.length<=i)
  (λi hi x hx=>by
   obtain⟨fs,rfs⟩:=x;obtain⟨x1,x2⟩:=hx;simp only at x1 x2;unfold q4d;simp only[jk,zn,zk];rw[ju (by simp only[zo];omega),zh hi,ji,ZA (by omega) (by omega)];have wk:=zw (show i < 1000000000 by omega);split
   ·simp only[ji];rw[zh (by omega),ji,ZA (by omega) (by omega)];simp only[ji,wk];exact⟨(_,_),rfl,by simp;omega,by simp;omega⟩
   ·simp only[ji,wk]
    exact⟨(fs,rfs),rfl,by grind,by grind⟩)
  (λx hx=>by
   unfold q4d;simp only[jk]
   rw[jv (by simp only[zo];omega)])
  (a:=(B [] z,B [] z)) ⟨by simp,by simp⟩
 have e:lpO (q4d q3i q5k q6b q24 q2i q2e) (b,d,n.K_,n.K_.len,0,s,rN n,rs,(mkS t,mkS (t.map rT)),B [] z,B [] z)=_:=e;rw[e];simp only[ji];have G:∀f rf,zzn ⟨f,mkS t,s,rf,mkS (t.map rT),rs⟩:=λf rf=>⟨t,rfl,rfl,ht,hs,hrs⟩
 by_cases c1:b=0<;>by_cases c2:d=0<;>by_cases c3:Sl.len s=Sl.len fs<;>
 ·simp only[c1,c2,c3,jp,jo,ji];exact⟨_,_,rfl,λ_=>G _ _⟩
def zdu(a:List q1e)(b:List q19):Prop:=a.map (λc=>c.L_.xs.map fk)=b.map (λc=>c.L_.xs.map rfk)/\∀c∈a,c.L_.xs.length<=40000
def zzp(t:List PT)(ks:List Nd)(C:q1k):Prop:=ks.length<=40000/\Yd 5000 t ks C.J_.xs/\yz 5000 t ks C.r_.xs/\zdu C.H_.xs C.j_.xs/\C.H_.xs.length=ks.length/\∃sg:Sl PSg,∀(i:Nat) (hi:i < ks.length),ziR sg (mkS t) C.J_ ks[i] i/\∀c,C.H_.xs[i]?=o c->VJ ks[i] (c.L_.xs.map fk)
theorem zdu.snoc{a:List q1e}{b:List q19}{c:q1e}{d:q19}(h:zdu a b)(h1:c.L_.xs.map fk=d.L_.xs.map rfk)(h2:c.L_.xs.length<=40000):zdu (a++[c]) (b++[d]):=by
 refine⟨by simp[h.1,h1],λx hx=>?_⟩;rcases Uu.1 hx with hx | hx
 ·exact h.2 x hx
 grind
theorem zrU(x:Uq×Uq):∃L C b,q3g x=o (L,C,b)/\(b=D->∃t ks,L.E_=mkS t/\L.U_=mkS (t.map rT)/\zzp t ks C):=by
 obtain⟨libs,text⟩:=x;obtain⟨L,ok,hl,hL⟩:=zo2 libs;unfold q3g q7l;simp only[hl,ji,zfh,zn,zdr,zk,jk];cases ok with
 |false=>simp only[Dq,jp,ji];grind
 |true=>
 obtain⟨t,ty,rty,ht,hs,hrs⟩:=hL rfl;simp only[Da,jj,jo,ji,jk];by_cases hp:(xX text).2.2=0
 rotate_left
 ·rw[ju hp];grind
 have hg:=zlw hp;rw[jv (by simp[hp])];generalize (xX text).1=n at hg;obtain⟨a,e,fns,h1,hf⟩:=zt6 hg L.s_ (mkS t) hs (by show t.length<=_;omega);obtain⟨S,h2,hrf⟩:=zrS hg L.G_ t hrs (by omega);rw[ty,rty,h1,ji,h2,ji];have hk:=hg.kids;have hsz:=hg.size;have ek:(rN n).K_.xs=n.K_.xs.map rN:=by rw[zD]
 have ekl:(rN n).K_.xs.length=n.K_.xs.length:=by rw[ek];simp
 obtain⟨⟨cs,rcs⟩,q,j1,j2,j3,j4⟩:=go (f:=q4k q30 q3i q24 q4r q3s q5j q26) (n:=n.K_.xs.length) (A:=Sl q1e×Sl q19)
  (st:=λi x=>(e,n.K_,n.K_.len,(i:Int),L,rN n,fns,S.1,S.2,x.1,x.2)) (fin:=λx=>(e,L,fns,S.1,S.2,x.1,x.2)) (J:=λi x=>x.1.xs.length<=i/\x.2.xs.length<=i/\zdu x.1.xs x.2.xs/\((∀k∈n.K_.xs,FnG k)->x.1.xs.length=i/\∀(j:Nat) (hj:j < n.K_.xs.length) c,x.1.xs[j]?=o c->VJ n.K_.xs[j] (c.L_.xs.map fk)))
  (λi hi x hx=>by
   obtain⟨cs,rcs⟩:=x;obtain⟨x1,x2,x3,x4⟩:=hx;simp only at x1 x2 x3 x4;unfold q4k;simp only[jk,zn,zk];rw[ju (by simp only[zo];omega),zh hi,ji];have wk:=zw (show i < 1000000000 by omega);have hx:zb (rN n).K_ (i:Int)=o (rN n.K_.xs[i]):=by rw[zh (by omega)];grind
   have hki:=yF (g9 hi);by_cases h6:n.K_.xs[i].k_=6
   ·have hf:=(hg.fn _ (g9 hi) h6).1;obtain⟨c,rc,l1,l2,l3,l4,l5⟩:=zlB hf (by omega);simp only[h6,jp,l1,ji,hx,l2];rw[ZA (by omega) (by omega),ji,ZA (by omega) (by omega)];simp only[ji,wk]
    exact⟨(_,_),rfl,by simp;omega,by simp;omega,x3.snoc l3 l4,λh=>⟨by simp[(x4 h).1],λj hj c' hc=>by
     have hxl:=(x4 h).1;by_cases c0:j < i
     ·rw[UR (by omega)] at hc;exact(x4 h).2 j hj c' hc
     by_cases c1:j=i
     ·subst c1;rw[UQ (by omega),hxl,Nat.sub_self] at hc;cases hc;exact l5
     ·rw[UC (by simp;omega)] at hc;cases hc⟩⟩
   ·simp only[h6,jo,ji,wk]
    exact⟨(cs,rcs),rfl,by grind,by grind,x3,λh=>absurd (h _ (g9 hi)).1 h6⟩)
  (λx hx=>by
   unfold q4k;simp only[jk]
   rw[jv (by simp only[zo];omega)])
  (a:=(B [] z,B [] z)) ⟨by simp,by simp,⟨rfl,by simp⟩,λ_=>⟨rfl,λj _ c hc=>by cases hc⟩⟩
 have q:lpO (q4k q30 q3i q24 q4r q3s q5j q26) (e,n.K_,n.K_.len,0,L,rN n,fns,S.1,S.2,B [] z,B [] z)=_:=q;rw[q];simp only[ji];have G:e=0->S.1.2.2.2=0->zzp t n.K_.xs ⟨fns,cs,S.2,rcs⟩:=by
  intro he hc;rcases hf with⟨h,_⟩ | ⟨_,hF,hD⟩
  ·grind
  rcases hrf with⟨h,_⟩ | ⟨_,hR⟩
  ·grind
  have j5:=j4 λk hk=>by
   obtain⟨i,hi,rfl⟩:=O hk;exact(hF.2 i hi).g
  exact⟨by omega,hF,hR,j3,j5.1,L.s_,λi hi=>⟨hD i hi,j5.2 i hi⟩⟩
 by_cases c1:e=0<;>by_cases c2:S.1.2.2.2=0<;>by_cases c3:Sl.len fns=Sl.len cs<;>
 ·simp only[c1,c2,c3,jp,jo,ji];exact⟨_,_,_,rfl,λh=>by first | exact⟨t,_,ty,rty,G c1 c2⟩ | cases h⟩
structure FuncG(x:qj)(r:qy):Prop where
 w:∃t ks,x.Z_=mkS t/\r.Z_=mkS (t.map rT)/\ks.length<=40000/\Yd 5000 t ks x.F_.xs/\yz 5000 t ks r.F_.xs
 c:x.c_.L_.xs.map fk=r.c_.L_.xs.map rfk
 g:∃(j:Nat) (sg:Sl PSg),x.F_.xs[j]?=o x.f_/\∀d,o d∈x.c_.L_.xs.map fk->∃s,pN ((sg,x.Z_,0,(j:Int)),x.F_) s/\fkN s=o d
 l:x.c_.L_.xs.length<=40000
def zdv(a:List qj)(b:List qy):Prop:=∃h:b.length=a.length,a.length<=40000/\∀i (hi:i < a.length),FuncG a[i] (b[i]'(by omega))
theorem zdv.snoc{a:List qj}{b:List qy}{x:qj}{r:qy}(h:zdv a b)(g:FuncG x r)(hl:a.length < 40000):zdv (a++[x]) (b++[r]):=by
 have e:=h.1;refine⟨by simp[e],by simp;omega,λi hi=>?_⟩;rw[jx,jz] at hi;by_cases c:i < a.length
 ·rw[U c,U (by omega)];exact h.2.2 i c
 ·obtain rfl:i=a.length:=by omega
  rw[Q (U7 _),Q (by omega)];grind
theorem zt8(x:Uq×Uq):∃b fs rs,q1v x=o (b,fs,rs)/\(b=D->zdv fs.xs rs.xs):=by
 obtain⟨L,C,b,h,hb⟩:=zrU x;unfold q1v q8a;rw[h,ji];cases b with
 |false=>exact⟨_,_,_,rfl,λh=>by cases h⟩
 |true=>
 obtain⟨t,ks,ty,rty,hk,hF,hR,hC,hl,sg,hD⟩:=hb rfl;simp only[Da,jj,jo];have f1:=hF.1;have r1:=hR.1;have cl:=congrArg N hC.1;simp only[Dn] at cl
 obtain⟨⟨fs,rs⟩,q,j1,j2⟩:=go (f:=q50 q3g) (n:=ks.length) (A:=Sl qj×Sl qy)
  (st:=λi x=>(C.J_.len,(i:Int),L,C,x.1,x.2)) (fin:=λx=>(x.1,x.2)) (J:=λi x=>x.1.xs.length=i/\zdv x.1.xs x.2.xs)
  (λi hi x hx=>by
   obtain⟨fs,rs⟩:=x;obtain⟨x1,x2⟩:=hx;have x3:=x2.1;simp only at x1 x2 x3;unfold q50;simp only[jk];rw[ju (by simp only[zo];omega),zh (by omega),ji,zh (by omega),ji,ZA (by omega) (by omega),ji,zh (by omega),ji,zh (by omega),ji,ZA (by omega) (by omega),ji,zw (by omega)];refine⟨(_,_),rfl,by simp[x1],x2.snoc ⟨⟨t,ks,ty,rty,hk,hF,hR⟩,?_,?_,hC.2 _ (g9 _)⟩ (by omega)⟩
   rotate_left
   ·obtain⟨da,lf⟩:=hD i hi;have hif:i < C.J_.xs.length:=by omega
    refine⟨i,sg,U6 hif,?_⟩;rw[ty];exact lf _ (U6 (show i < C.H_.xs.length by omega)) _ da
   have:=congrArg (λl=>l[i]?) hC.1;simp only[Uz,U6 (show i < C.H_.xs.length by omega),U6 (show i < C.j_.xs.length by omega),U0,E.injEq] at this
   exact this)
  (λx hx=>by
   unfold q50;simp only[jk]
   rw[jv (by simp only[zo];omega)])
  (a:=(B [] z,B [] z)) ⟨by simp,⟨by simp,by simp,λi hi=>by simp at hi⟩⟩
 have q:lpO (q50 q3g) (C.J_.len,0,L,C,B [] z,B [] z)=_:=q;rw[q];exact⟨_,_,_,rfl,λ_=>j2⟩
theorem zAN {S R α:Type}{f:S->Us (Step S R)}{xs:List α}{p:α->Us R}{st:Nat->S}{no:R}
    (h:∀i (hi:i < xs.length),f (st i)=o (match p xs[i] with | some r =>.done r | none =>.next (st (i+1)))) (h0:f (st xs.length)=o (.done no)) :
    lpO f (st 0)=o ((xs.findSome? p).getD no):=by
  have:∀(n i:Nat),i+n=xs.length->lpO f (st i)=o (((xs.drop i).findSome? p).getD no):=by
    intro n
    induction n with
    |zero=>
      intro i hi;rw[Uv (by omega),show i=xs.length by omega,zx h0];rfl
    |succ n ih=>
      intro i hi;have hlt:i < xs.length:=by omega
      have h1:=h i hlt;rw[Dc hlt,M];cases hp:p xs[i] with
      |some r=>rw[hp] at h1;rw[zx h1];rfl
      |none=>rw[hp] at h1;rw[zE h1,ih (i+1) (by omega)]
  have h2:=this xs.length 0 (by omega);grind
def zgu(s:Int):Bool:=decide (s=0) || (decide (s=1) || decide (s=3))
theorem zhD(s:Int):q2x s=o (zgu s):=by
 unfold q2x qck zgu;grind
def Y2(t:List PT)(p:PP):Bool:=decide (p.M_=2) && !zgu (Z7 t p.t_)
def VL(t:List PT)(ks:List Nd)(y:Uq):Bool:=(ks.findIdx? λk=>decide (k.T_=y)).elim z λi=>(yl (ks.getD i wc)).any λq=>Y2 t (ZH t q)
def fkA(q:Uq->Bool):Fk->Us (Int×Int)
 |some (a,y,_)=>if q y=D then o (a,54) else none
 |none=>none
def thr(q:Uq->Bool)(l:List Fk):Int×Int:=(l.findSome? (fkA q)).getD (0,0)
def okP(t:List PT)(p:PP):Prop:=p.M_=2->0<=p.t_/\p.t_ < t.length
theorem zna{t:List PT}(h:zlC t l){k:Nd}(hk:k∈l):okP t (ZH t k):=by
 intro h2;refine⟨h k hk h2,?_⟩;unfold ZH at h2 |-
 split
 ·exact xB.2.1
 grind
theorem zlH{t:List PT}(h:0<=p.t_/\p.t_ < t.length):∃i:Nat,∃hi:i < t.length,p.t_=(i:Int)/\Z7 t p.t_=t[i].S_:=by
 obtain⟨i,hi⟩:∃i:Nat,p.t_=(i:Int):=⟨_,(Dz h.1).symm⟩
 refine⟨i,by omega,hi,?_⟩;unfold Z7;grind
theorem zxu{x:qj}{t:List PT}(hx:x.Z_=mkS t)(hp:okP t p):q55 (p,x)=o (Y2 t p,x):=by
 unfold q55 qb5 Y2;simp only[jk];by_cases h:p.M_=2
 ·obtain⟨i,hi,e,hs⟩:=zlH (hp h);simp only[h,jp,hx,e,zh (s:=mkS t) (show i < (mkS t).xs.length from hi),ji,zhD _];rw[<- e,hs];rfl
 grind
theorem zAO{x:qj}{t:List PT}(hx:x.Z_=mkS t){l:List PP}(hl:∀p∈l,okP t p)(hz:l.length<=100000)(b:Bool):q3t (⟨l,b⟩,x)=o (l.any (Y2 t),x):=by
 have:=XB (f:=q5w q55) (xs:=l) (p:=Y2 t) (st:=λi=>(⟨l,b⟩,(⟨l,b⟩:Sl PP).len,(i:Int),x)) (yes:=λi =>.inl ((i:Int),x)) (no :=.inr x)
  (λi hi=>by
   unfold q5w;simp only[jk];rw[ju (by simp only[zo];omega),zh (s:=⟨l,b⟩) hi,ji];rw[zxu hx (hl _ (g9 hi))];simp only[ji,zw (show i < 1000000000 by omega)]
   grind)
  (by unfold q5w;simp only[jk];rw[jv (by simp only[zo];omega)])
 unfold q3t q8b q7s qa9;have this:lpO (q5w q55) (⟨l,b⟩,(⟨l,b⟩:Sl PP).len,0,x)=_:=this;simp only[this];cases e:l.findIdx? (Y2 t) with
 |none=>
  have:l.any (Y2 t)=false:=by grind
  rw[this];rfl
 |some i=>
  have:l.any (Y2 t)=true:=by
   obtain⟨hi,h1,_⟩:=X.1 e;grind
  rw[this];simp only[K,ji,jm];rw[gm (show(0:Int)<=(i:Int) by omega)]
theorem zt9{m:Nat}{t:List PT}{ks:List Nd}{fs:List PNf}(h:Yd m t ks fs)(y:Uq):fs.findIdx? (λf=>decide (f.N_=y))=ks.findIdx? λk=>decide (k.T_=y):=by
 have e:fs.map qb.N_=ks.map q6.T_:=by
  refine List.ext_getElem (by simp[h.1]) λi h1 h2=>?_
  simp only[List.getElem_map];exact(h.2 i (by simpa using h2)).n
 have h1:=W (f:=qb.N_) (p:=λx=>decide (x=y)) (l:=fs);have h2:=W (f:=q6.T_) (p:=λx=>decide (x=y)) (l:=ks);rw[e] at h1;exact h1.symm.trans h2
theorem zxv(fs:Sl PNf)(n:CIx)(h:fs.xs.length<=100000):q56 (fs,n)=o ((fs.xs.findIdx? λf=>decide (f.N_=n.Y_)).elim (-1) (λi=>(i:Int)),n):=by
 have:=XB (f:=q6v q7b) (xs:=fs.xs) (p:=λf=>decide (f.N_=n.Y_)) (st:=λi=>(fs,fs.len,(i:Int),n)) (yes:=λi =>.inl ((i:Int),n)) (no :=.inr n)
  (λi hi=>by
   unfold q6v;simp only[jk];rw[ju (by simp only[zo];omega),zh hi,ji];show((o (decide (fs.xs[i].N_=n.Y_),n)).bind _)=_;simp only[ji,zw (show i < 1000000000 by omega)]
   grind)
  (by unfold q6v;simp only[jk];rw[jv (by simp only[zo];omega)])
 unfold q56 qb6;have this:lpO (q6v q7b) (fs,fs.len,0,n)=_:=this;simp only[this];cases fs.xs.findIdx? _<;>rfl
theorem zrV{α β γ:Type}{p:α->Us β}(g:β->γ):∀l:List α,l.findSome? (λn=>(p n).map g)=(l.findSome? p).map g
 |[]=>rfl
 |x::l=>by
  rw[M,M];cases p x with
  |none=>exact zrV g l
  |some y=>rfl
theorem zAP{x:qj}{t:List PT}{ks:List Nd}(hx:x.Z_=mkS t)(hF:Yd 5000 t ks x.F_.xs)(hk:ks.length<=40000)(hl:x.c_.L_.xs.length<=40000):q3j x=o (thr (VL t ks) (x.c_.L_.xs.map fk)):=by
 have hf1:=hF.1
 have:=zAN (f:=q7z q56 q3t) (xs:=x.c_.L_.xs) (p:=λn=>(fkA (VL t ks) (fk n)).map Sum.inl) (st:=λi=>(x.c_.L_,x.c_.L_.len,(i:Int),x)) (no :=.inr ())
  (λi hi=>by
   unfold q7z;simp only[jk];rw[ju (by simp only[zo];omega),zh hi,ji];have wk:=zw (show i < 1000000000 by omega);by_cases h13:x.c_.L_.xs[i].O_=13
   rotate_left
   ·simp only[h13,UW,jt,jp,ji,jm,wk,fk,jo,fkA];rfl
   have ek:∃l,fk x.c_.L_.xs[i]=o (x.c_.L_.xs[i].a_,x.c_.L_.xs[i].Y_,l):=⟨_,ju h13⟩
   obtain⟨_,ek⟩:=ek;rw[ek];simp only[h13,UW,js,jo,zxv _ _ (show x.F_.xs.length<=100000 by omega),ji,zt9 hF,fkA];unfold VL;cases e:ks.findIdx? (λk=>decide (k.T_=x.c_.L_.xs[i].Y_)) with
   |none=>
    grind
   |some j=>
    obtain⟨hj,_⟩:=X.1 e;have r:=hF.2 j hj;have hjf:j < x.F_.xs.length:=by omega
    obtain⟨ex,v1,_⟩:=r.v;have hps:(yl ks[j]).length<=8:=r.l;have hvl:x.F_.xs[j].V_.xs.length=(yl ks[j]).length+ex.length:=by rw[v1];simp
    have hgs:Zd x.F_.xs[j].V_ 0 x.F_.xs[j].P_=o ⟨(yl ks[j]).map (ZH t),x.F_.xs[j].V_.nn⟩:=by
     rw[r.p,Yk (by omega) (by omega) (by omega),v1];simp
    have hg:ks.getD j wc=ks[j]:=by grind
    simp only[K,show(0:Int)<=(j:Int) from by omega,jp,zh hjf,ji,hgs];rw[zAO hx (λp hp=>by obtain⟨k,hk,rfl⟩:=Dp.1 hp;exact zna r.o hk) (by simp;omega)];simp only[ji,hg,Z];cases h:(yl ks[j]).any (Y2 t ∘ ZH t) with
    |true=>
     have h:((yl ks[j]).any λq=>Y2 t (ZH t q))=true:=h;grind
    |false=>
     have h:((yl ks[j]).any λq=>Y2 t (ZH t q))=false:=h
     grind)
  (by unfold q7z;simp only[jk];rw[jv (by simp only[zo];omega)])
 unfold q3j qcl thr;have this:lpO (q7z q56 q3t) (x.c_.L_,x.c_.L_.len,0,x)=_:=this;rw[this,List.findSome?_map];rw[zrV];show _=o ((V (λn=>fkA (VL t ks) (fk n)) x.c_.L_.xs).getD (0,0));cases V (λn=>fkA (VL t ks) (fk n)) x.c_.L_.xs<;>rfl
section
variable {α:Type}[DecidableEq α]
theorem zdw(k k':α)(v:Int):∀l:List (α×Int),ZZ k (Xe k' v l)=if k'=k then v else ZZ k l
 |[]=>by
  unfold ZZ Xe wK;by_cases h:k'=k<;>simp[h,wK]
 |(a,u)::l=>by
  have ih:=zdw k k' v l;unfold ZZ at ih |-
  unfold Xe;by_cases h:a=k'
  ·subst h;rw[ju rfl];unfold wK;by_cases h2:a=k<;>simp[h2]
  ·rw[jv h];unfold wK;by_cases h2:a=k
   ·have:¬ k'=k:=λe=>h (h2.trans e.symm)
    simp[h2,this]
   ·simp only[h2,jo];exact ih
end
abbrev MF:=qj
def zB2(f:PNf)(y:Uq)(p:PP):Prop:=(y=lit []/\p.M_=1)\/(y≠lit []/\∃(i:Nat) (v:PP),idP y f.V_.xs=(i:Int)/\f.V_.xs[i]?=o v/\v.M_=p.M_/\(p.M_=2->v.t_=p.t_))
structure ForkX(x:MF)(t:List PT)(ks:List Nd)(n:CIx):Prop where
 a:n.A_.N_=lit []
 b:n.B_.N_=lit []
 f:∃(k:Nat) (f:PNf),ks.findIdx? (λq=>decide (q.T_=n.Y_))=o k/\x.F_.xs[k]?=o f/\(n.Q_.xs.length:Int)=f.P_/\n.Q_.xs.length<=8/\n.Q_.xs.length<=f.V_.xs.length/\
  f.V_.xs.take n.Q_.xs.length=(yl (ks.getD k wc)).map (ZH t)/\∀(i:Nat) (a:qt),n.Q_.xs[i]?=o a->∃p,f.V_.xs[i]?=o p/\(p.M_=1\/p.M_=2)/\okP t p/\zB2 x.f_ a.N_ p
structure FuncX(x:MF)(t:List PT)(ks:List Nd):Prop where
 ty:x.Z_=mkS t
 k:ks.length<=40000
 f:Yd 5000 t ks x.F_.xs
 l:x.c_.L_.xs.length<=40000
 v:x.f_.V_.xs.length<=6000
 n:∀n∈x.c_.L_.xs,n.O_=13->ForkX x t ks n
theorem zzq{x:MF}{r:qy}(h:FuncG x r):∃t ks,FuncX x t ks:=by
 obtain⟨t,ks,h1,h2,hk,hF,hR⟩:=h.w;obtain⟨j,sg,hj,hg⟩:=h.g;have hv:x.f_.V_.xs.length<=6000:=by
  obtain⟨hj',e⟩:=U1.1 hj;have r:=hF.2 j (by rw[<- hF.1];exact hj');obtain⟨ex,v1,_⟩:=r.v;have:=congrArg N v1;have:=r.l;grind
 refine⟨t,ks,h1,hk,hF,h.l,hv,λn hn h13=>?_⟩;obtain⟨s,hs,he⟩:=hg _ (Dp.2 ⟨n,hn,ju h13⟩);unfold fkN at he;split at he
 ·rename_i h19;have he:=E.inj he;simp only[Prod.mk.injEq,Y.injEq] at he;obtain⟨_,e1,e2,e3,e4⟩:=he;obtain⟨k,f,k1,k2,k3,k4⟩:=hs h19;obtain⟨hk',rfl⟩:=U1.1 k2;have hk':k < x.F_.xs.length:=hk';have k2:x.F_.xs[k]?=o x.F_.xs[k]:=U6 hk';have k3:(s.K_.xs.length:Int)=x.F_.xs[k].P_:=k3;have k4:∀(i:Nat) (a:Nd),s.K_.xs[i]?=o a->∃p,x.F_.xs[k].V_.xs[i]?=o p/\VK ((sg,x.Z_,0,(j:Int)),x.F_) a p:=k4
  have el:=congrArg N e4;simp only[Dn] at el;have k1:idx (λq=>decide (q.N_=n.Y_)) x.F_.xs=(k:Int):=by rw[<- e1];exact k1
  have hkk:k < ks.length:=by rw[<- hF.1];exact hk'
  have r:=hF.2 k hkk;obtain⟨ex,v1,_⟩:=r.v;have hp:(yl ks[k]).length=n.Q_.xs.length:=by
   have h1:(n.Q_.xs.length:Int)=((yl ks[k]).length:Int):=by rw[<- el];exact k3.trans r.p
   omega
  have hvl:x.F_.xs[k].V_.xs.length=(yl ks[k]).length+ex.length:=by rw[v1];simp
  have gd:ks.getD k wc=ks[k]:=by grind
  refine⟨e2.symm,e3.symm,k,x.F_.xs[k],?_,k2,by rw[<- el];exact k3,by have:=r.l;omega,by omega,?_,λi a ha=>?_⟩
  ·rw[<- zt9 hF];unfold idx at k1;cases c:x.F_.xs.findIdx? (λq=>decide (q.N_=n.Y_)) with
   |none=>rw[c] at k1;simp at k1
   |some i=>rw[c] at k1;have k1:(i:Int)=k:=k1;congr 1;omega
  ·rw[gd,v1,<- hp,List.take_left' (by simp)]
  ·obtain⟨ha',rfl⟩:=U1.1 ha;have hi:i < s.K_.xs.length:=by omega
   obtain⟨p,p1,p2⟩:=k4 i _ (U6 hi);have en:(s.K_.xs[i]).T_=(n.Q_.xs[i]).N_:=by
    have:=congrArg (λl=>l[i]?) e4;simp only[Uz,U6 hi,U6 ha',U0] at this;exact E.inj this
   have hpp:p=ZH t ((yl ks[k])[i]'(by omega)):=by
    rw[v1,UR (by simp;omega),Uz,U6 (by omega)] at p1;exact(E.inj p1).symm
   have hm:p.M_=1\/p.M_=2:=by rw[hpp];unfold ZH;split<;>simp
   refine⟨p,p1,hm,by rw[hpp];exact zna r.o (g9 _),?_⟩;rw[<- en];rcases p2 with h | ⟨h,v,⟨f',⟨j',hj1,hj2⟩,iv,h3,h4⟩,h5,h6⟩
   ·exact .inl h
   ·have hj1:(j:Int)=(j':Int):=hj1;have:j'=j:=by omega
    subst this;have hj2:x.F_.xs[j']?=o f':=hj2;rw[hj] at hj2;cases hj2;refine .inr ⟨h,iv,v,h3,h4,?_,λc=>(h6 c).2⟩;rcases hm with c | c
    ·rw[c];exact h5 c
    ·rw[c];exact(h6 c).1
 ·cases he
section
variable {x:MF}{t:List PT}{ks:List Nd}(H:FuncX x t ks){i:Nat}(hi:i < x.c_.L_.xs.length)
include H
theorem zhE:q3h (x,(i:Int))=o (x.c_.L_.xs[i],D):=by
 unfold q3h qd6;simp only[jk];rw[jv (by omega)];simp only[ji,zo];rw[jv (by simp;omega),zh hi];rfl
theorem zua(h:x.c_.L_.xs[i].O_=13):∃a b,q6w (x,(i:Int))=o (a,b, -1,z):=by
 unfold q6w qd7;simp (decide:=true) only [zhE H hi,ji,Da,jj,jo,h,UW,jt,jr,jp];exact⟨_,_,rfl⟩
theorem zxw(n:CIx):qb7 (x.F_,n)=o ((ks.findIdx? λk=>decide (k.T_=n.Y_)).elim (-1) (λi=>(i:Int)),n):=by
 have hl:=H.f.1;have hk:=H.k
 have:=XB (f:=q7t q9j) (xs:=x.F_.xs) (p:=λf=>decide (f.N_=n.Y_)) (st:=λi=>(x.F_,x.F_.len,(i:Int),n)) (yes:=λi =>.inl ((i:Int),n)) (no :=.inr n)
  (λi hi=>by
   unfold q7t;simp only[jk];rw[ju (by simp only[zo];omega),zh hi,ji];show((o (decide (x.F_.xs[i].N_=n.Y_),n)).bind _)=_;simp only[ji,zw (show i < 1000000000 by omega)]
   grind)
  (by unfold q7t;simp only[jk];rw[jv (by simp only[zo];omega)])
 unfold qb7 qd8;have this:lpO (q7t q9j) (x.F_,x.F_.len,0,n)=_:=this;simp only[this,zt9 H.f];cases ks.findIdx? _<;>rfl
theorem zxx(hp:okP t p):q6x (x,p)=o (decide (p.M_=2) && decide (Z7 t p.t_≠3)):=by
 unfold q6x qd9;simp only[jk];by_cases h:p.M_=2
 ·obtain⟨i,hi,e,hs⟩:=zlH (hp h);simp only[h,jp,H.ty,e,zh (s:=mkS t) (show i < (mkS t).xs.length from hi),ji];rw[<- e,hs];simp;rfl
 ·simp[h]
theorem zxy (h:x.c_.L_.xs[i].O_=13):∃l,q42 (x,(i:Int))=o l/\l.xs.length<=8/\∀(k:Nat) (f:PNf),ks.findIdx? (λq=>decide (q.T_=x.c_.L_.xs[i].Y_))=o k->x.F_.xs[k]?=o f->
    ∀v:Int,v∈l.xs↔∃(j:Nat) (a:qt) (p:PP),x.c_.L_.xs[i].Q_.xs[j]?=o a/\f.V_.xs[j]?=o p/\(p.M_=2/\Z7 t p.t_≠3)/\idP a.N_ x.f_.V_.xs=v:=by
  obtain⟨a0,b0,hpl⟩:=zua H hi h;have hins:=zhE H hi;have F:=H.n _ (g9 hi) h;generalize x.c_.L_.xs[i]=n at *
  obtain⟨k,f,f1,f2,f3,f4,f5,f6,f7⟩:=F.f;obtain⟨hk,rfl⟩:=U1.1 f2;have hgs:Zd x.F_.xs[k].V_ 0 x.F_.xs[k].P_=o ⟨x.F_.xs[k].V_.xs.take n.Q_.xs.length,x.F_.xs[k].V_.nn⟩:=by
    rw[<- f3,Yk (by omega) (by omega) (by omega)];simp
  have hpar:q67 (x,n)=o ⟨x.F_.xs[k].V_.xs.take n.Q_.xs.length,x.F_.xs[k].V_.nn⟩:=by
    unfold q67 qcm;simp (decide:=true) only [h,jq,jj,jo,jr,jp,zxw H,ji,f1,K,show(0:Int)<=(k:Int) by omega,zh hk,hgs,jm]
  have hvl:=H.v;have hpl2:(x.F_.xs[k].V_.xs.take n.Q_.xs.length).length=n.Q_.xs.length:=by simp;omega
  obtain⟨l,e,l1,l2⟩:=go (f:=q7u q6w q6x q3h q67 q1s) (n:=n.Q_.xs.length) (A:=Sl Int)
    (st:=λj a=>((⟨x.F_.xs[k].V_.xs.take n.Q_.xs.length,x.F_.xs[k].V_.nn⟩:Sl PP),(n.Q_.xs.length:Int),(j:Int),x,n,a)) (fin:=λa=>a)
    (J:=λm l=>l.xs.length<=m/\∀v:Int,v∈l.xs↔∃(j:Nat) (a:qt) (p:PP),j < m/\n.Q_.xs[j]?=o a/\x.F_.xs[k].V_.xs[j]?=o p/\(p.M_=2/\Z7 t p.t_≠3)/\idP a.N_ x.f_.V_.xs=v)
    (λj hj l hl=>by
      obtain⟨hl1,hl2⟩:=hl;obtain⟨p,p1,p2,p3,p4⟩:=f7 j _ (U6 hj);have gp:zb (⟨x.F_.xs[k].V_.xs.take n.Q_.xs.length,x.F_.xs[k].V_.nn⟩:Sl PP) (j:Int)=o p:=by
        rw[zh (by show j < (x.F_.xs[k].V_.xs.take n.Q_.xs.length).length;omega)];rw[<- p1,<- U6,UU hj]
      have wk:=zw (show j < 1000000000 by omega);unfold q7u;simp only[jk];rw[ju (by omega),gp,ji,zxx H p3,ji];by_cases c:p.M_=2/\Z7 t p.t_≠3
      · simp only[c.1,c.2,jr,Bool.and_true,UW,jt,jp,zh hj,ji];rw[za8 _ _ (by omega),ji,ZA (by omega) (by omega)];simp only[ji,wk];refine⟨_,rfl,by simp;omega,λv=>?_⟩;simp only[Uu,Dl,hl2];constructor
        · rintro(⟨j',a,p',h1,h2,h3,h4,h5⟩ | rfl)
          ·exact⟨j',a,p',by omega,h2,h3,h4,h5⟩
          ·exact⟨j,_,p,by omega,U6 hj,p1,c,rfl⟩
        · rintro⟨j',a,p',h1,h2,h3,h4,h5⟩;by_cases e:j' < j
          ·exact .inl ⟨j',a,p',e,h2,h3,h4,h5⟩
          · have:j'=j:=by omega
            subst this;rw[U6 hj] at h2;cases h2;exact .inr h5.symm
      · have c2:(decide (p.M_=2) && decide (Z7 t p.t_≠3))=false:=by
          rw[<- Bool.decide_and];exact decide_eq_false c
        simp only[c2,jj,jo,ji,wk];refine⟨l,rfl,by omega,λv=>?_⟩;rw[hl2];constructor
        ·rintro⟨j',a,p',h1,h2,h3,h4,h5⟩;exact⟨j',a,p',by omega,h2,h3,h4,h5⟩
        · rintro⟨j',a,p',h1,h2,h3,h4,h5⟩;by_cases e:j' < j
          ·exact⟨j',a,p',e,h2,h3,h4,h5⟩
          · have:j'=j:=by omega
            subst this;rw[p1] at h3;cases h3
            exact absurd h4 c)
    (λl hl=>by
      unfold q7u;simp only[jk]
      rw[jv (by omega)])
    (a:=B [] z) ⟨by simp,λv=>by simp⟩
  refine⟨l,?_,by omega,λk' f' e1 e2 v=>?_⟩
  ·unfold q42 qda;have e:lpO (q7u q6w q6x q3h q67 q1s) ((⟨x.F_.xs[k].V_.xs.take n.Q_.xs.length,x.F_.xs[k].V_.nn⟩:Sl PP),(n.Q_.xs.length:Int),0,x,n,B [] z)=_:=e;simp only[hpl,hins,ji,jj,jo,jl,hpar,zo,hpl2,e]
  · rw[f1] at e1;cases e1;rw[f2] at e2;cases e2;rw[l2];constructor
    ·rintro⟨j',a,p',h1,h2,h3,h4,h5⟩;exact⟨j',a,p',h2,h3,h4,h5⟩
    ·rintro⟨j',a,p',h2,h3,h4,h5⟩;obtain⟨h1,_⟩:=U1.1 h2;exact⟨j',a,p',h1,h2,h3,h4,h5⟩
theorem zxz(h:x.c_.L_.xs[i].O_=13):∃l,q43 (x,(i:Int))=o l/\l.xs.length<=20/\∀v:Int,v∈l.xs↔∃(j:Nat) (a:qt),x.c_.L_.xs[i].Q_.xs[j]?=o a/\a.N_≠lit []/\idP a.N_ x.f_.V_.xs=v:=by
 have hins:=zhE H hi;have F:=H.n _ (g9 hi) h;generalize x.c_.L_.xs[i]=n at *
 have ha:=F.a;have hb:=F.b;obtain⟨_,_,_,_,_,f4,_⟩:=F.f;have hvl:=H.v;generalize hT:n.A_::n.B_::n.Q_.xs=T;have hTl:T.length=n.Q_.xs.length+2:=by rw[<- hT];simp
 obtain⟨l,e,l1⟩:=go (f:=qcz) (n:=T.length) (A:=Sl Uq) (st:=λj a=>((T.length:Int),(j:Int),a,(⟨T,D⟩:Sl qt))) (fin:=λa=>a)
  (J:=λm l=>l.xs.length<=m/\∀y,y∈l.xs↔y≠lit []/\y∈(T.take m).map qt.N_)
  (λj hj l hl=>by
   obtain⟨hl1,hl2⟩:=hl;have wk:=zw (show j < 1000000000 by omega);unfold qcz;simp only[jk];rw[ju (by omega),zh (s:=⟨T,D⟩) hj,ji,ji];by_cases c:T[j].N_=lit []
   ·simp only[c,UW,js,jo,ji,wk];refine⟨l,rfl,by omega,λy=>?_⟩;rw[hl2,<- D0 hj,Dv,Uu];constructor
    ·rintro⟨h1,h2⟩;exact⟨h1,.inl h2⟩
    ·rintro⟨h1,h2 | h2⟩
     ·exact⟨h1,h2⟩
     ·rw[P,Dl,c] at h2;exact absurd h2 h1
   ·simp only[c,UW,jt,jp];rw[ZA (by omega) (by omega)];simp only[ji,wk];refine⟨_,rfl,by simp;omega,λy=>?_⟩;rw[<- D0 hj,Dv];simp only[Uu,hl2,P,Dl];constructor
    ·rintro(⟨h1,h2⟩ | rfl)
     ·exact⟨h1,.inl h2⟩
     ·exact⟨c,.inr rfl⟩
    ·rintro⟨h1,h2 | h2⟩
     ·exact .inl ⟨h1,h2⟩
     ·exact .inr h2)
  (λl hl=>by
   unfold qcz;simp only[jk]
   rw[jv (by omega)])
  (a:=B [] z) ⟨by simp,λy=>by simp⟩
 rw[Df] at l1;obtain⟨l1,l2⟩:=l1;have hN:qc0 n=o l:=by
  unfold qc0 qgq;have e:lpO qcz ((T.length:Int),0,B [] z,(⟨T,D⟩:Sl qt))=_:=e;have ga:zp 24 (B [n.A_,n.B_] D) n.Q_.xs=o ⟨T,D⟩:=by
   have hm:(2+n.Q_.xs.length) * 24<=10 * 24:=Nat.mul_le_mul (by omega) (U7 _);rw[yP (by simp;omega) (by simp;omega),<- hT];simp
  simp (decide:=true) only [h,jq,jj,jo,ji,ga,zo,e]
 obtain⟨rs,e2,r1,r2⟩:=go (f:=q7v q3h qc0 q1s) (n:=l.xs.length) (A:=Sl Int) (st:=λj a=>(l.len,(j:Int),x,a,l)) (fin:=λa=>a)
  (J:=λm r=>r.xs.length<=m/\∀v:Int,v∈r.xs↔∃y∈l.xs.take m,idP y x.f_.V_.xs=v)
  (λj hj r hr=>by
   obtain⟨hr1,hr2⟩:=hr;have wk:=zw (show j < 1000000000 by omega);unfold q7v;simp only[jk];rw[ju (by simp only[zo];omega),zh hj,ji,ji,za8 _ _ (by omega),ji,ZA (by omega) (by omega),ji,wk];refine⟨_,rfl,by simp;omega,λv=>?_⟩;rw[<- D0 hj];simp only[Uu,hr2,Dl];constructor
   ·rintro(⟨y,h1,h2⟩ | rfl)
    ·exact⟨y,.inl h1,h2⟩
    ·exact⟨_,.inr rfl,rfl⟩
   ·rintro⟨y,h1 | h1,h2⟩
    ·exact .inl ⟨y,h1,h2⟩
    ·subst h1;exact .inr h2.symm)
  (λr hr=>by
   unfold q7v;simp only[jk]
   rw[jv (by simp only[zo];omega)])
  (a:=B [] z) ⟨by simp,λv=>by simp⟩
 rw[Df] at r2;refine⟨rs,?_,by omega,λv=>?_⟩
 ·unfold q43 qdb;have e2:lpO (q7v q3h qc0 q1s) (l.len,0,x,B [] z,l)=_:=e2;simp only[hins,ji,jp,hN,e2]
 ·rw[r2];constructor
  ·rintro⟨y,h1,h2⟩;obtain⟨h3,h4⟩:=(l2 y).1 h1;rw[<- hT,U3,U3,ha,hb] at h4;rcases UO.1 h4 with h4 | h4
   ·exact absurd h4 h3
   rcases UO.1 h4 with h4 | h4
   ·exact absurd h4 h3
   obtain⟨a,h5,rfl⟩:=Dp.1 h4;obtain⟨j,hj,rfl⟩:=O h5;exact⟨j,_,U6 hj,h3,h2⟩
  ·rintro⟨j,a,h1,h2,h3⟩;exact⟨a.N_,(l2 _).2 ⟨h2,Dp.2 ⟨a,by rw[<- hT];exact Do _ (Do _ (UG h1)),rfl⟩⟩,h3⟩
end
noncomputable abbrev FL0:=q31 q1v q27 q3j q42 q43 q2x q3l
noncomputable abbrev FL1:=q32 q1v q27 q3j q42 q43 q2x q3l
noncomputable abbrev FL2:=q33 q1v q27 q3j q42 q43 q2x q3l
noncomputable abbrev FL3:=q2h q1v q27 q3j q42 q43 q2x q3l
theorem zlI(s:Int):q3l s=o (decide (s=3)):=rfl
def zfp(t:List PT)(f:PNf)(v:Int):Bool:=(f.V_.xs[v.toNat]?).elim z (Y2 t)
theorem zca{t:List PT}:Y2 t p=D↔p.M_=2/\zgu (Z7 t p.t_)=false:=by
 unfold Y2;simp
theorem zzr{x:MF}{t:List PT}{ks:List Nd}{n:CIx}(F:ForkX x t ks n){l:List Int}(hl:∀v:Int,v∈l↔∃(j:Nat) (a:qt),n.Q_.xs[j]?=o a/\a.N_≠lit []/\idP a.N_ x.f_.V_.xs=v):l.any (zfp t x.f_)=VL t ks n.Y_:=by
 obtain⟨k,f,f1,f2,f3,f4,f5,f6,f7⟩:=F.f;have e:VL t ks n.Y_=(f.V_.xs.take n.Q_.xs.length).any (Y2 t):=by
  unfold VL;rw[f1,f6,Z];rfl
 rw[e,Bool.eq_iff_iff,qo,qo];constructor
 ·rintro⟨v,hv,hb⟩;obtain⟨j,a,h1,h2,h3⟩:=(hl v).1 hv;obtain⟨p,p1,p2,p3,p4⟩:=f7 j a h1;rcases p4 with⟨h,_⟩ | ⟨_,i,q,h4,h5,h6,h7⟩
  ·exact absurd h h2
  have hj:j < n.Q_.xs.length:=(U1.1 h1).1;refine⟨p,UG (i:=j) (by rw[UU hj];exact p1),?_⟩;have:v.toNat=i:=by omega
  unfold zfp at hb;rw[this,h5,K,zca,h6] at hb;rw[zca,<- h7 hb.1];exact hb
 ·rintro⟨p,hp,hb⟩;obtain⟨j,hj,e⟩:=O hp;have hj2:j < n.Q_.xs.length:=by rw[UY] at hj;omega
  obtain⟨p',p1,p2,p3,p4⟩:=f7 j _ (U6 hj2);have:p'=p:=by
   have h:=U6 hj;rw[UU hj2,p1,e] at h;exact E.inj h
  subst this;rw[zca] at hb;rcases p4 with⟨_,h⟩ | ⟨h2,i,q,h4,h5,h6,h7⟩
  ·omega
  refine⟨(i:Int),(hl _).2 ⟨j,_,U6 hj2,h2,h4⟩,?_⟩;unfold zfp;rw[show(i:Int).toNat=i by omega,h5,K,zca,h6,h7 hb.1];exact hb
section
variable {x:MF}{t:List PT}{ks:List Nd}(H:FuncX x t ks){i:Nat}(hi:i < x.c_.L_.xs.length)(h:x.c_.L_.xs[i].O_=13)
theorem zxA {all:Bool}{i' m i:Int}{C:Sl CIx}{fs:Sl MF}{l:Sl Int}(hl:l.xs.length<=8) :
    ∃mp:Sl (Int×Int),lpO FL0 (e,all,i',c,d,C,m,i,l.len,0,x,(lit [],B [] D),fs,l)=o (e,all,i',c,d,C,m,i,x,(lit [],mp),fs)/\∀v,(0 < ZZ v mp.xs↔v∈l.xs):=by
  obtain⟨mp,q,j1,j2⟩:=go (f:=FL0) (n:=l.xs.length) (A:=Sl (Int×Int)) (st:=λj a=>(e,all,i',c,d,C,m,i,l.len,(j:Int),x,(lit [],a),fs,l)) (fin:=λa=>(e,all,i',c,d,C,m,i,x,(lit [],a),fs))
    (J:=λj a=>(∀v,0<=ZZ v a.xs/\ZZ v a.xs<=j)/\∀v,(0 < ZZ v a.xs↔v∈l.xs.take j))
    (λj hj a ha=>by
      obtain⟨a1,a2⟩:=ha;show∃a',q31 _ _ _ _ _ _ _ _=_/\_
      unfold q31;simp only[jk];rw[ju (by simp only[zo];omega),zh hj,ji,ji];have b1:=a1 l.xs[j];have wi:Ut (ZZ l.xs[j] a.xs+1)=ZZ l.xs[j] a.xs+1:=zK (by omega) (by omega);simp only[wi,zw (show j < 1000000000 by omega)];refine⟨⟨Xe l.xs[j] (ZZ l.xs[j] a.xs+1) a.xs,D⟩,rfl,λv=>?_,λv=>?_⟩
      · simp only[zdw];split
        ·omega
        ·have:=a1 v;omega
      · rw[<- D0 hj,Uu,Dl,<- a2];simp only[zdw];split
        ·rename_i e;exact⟨λ_ =>.inr e.symm,λ_=>by omega⟩
        · rename_i e
          exact⟨.inl,λh=>h.resolve_right λh=>e h.symm⟩)
    (λa ha=>by
      show q31 _ _ _ _ _ _ _ _=_;unfold q31;simp only[jk]
      rw[jv (by simp only[zo];omega)])
    (a:=B [] D) ⟨λy=>by simp[ZZ,wK],λv=>by simp[ZZ,wK]⟩
  rw[Df] at j2;exact⟨mp,q,j2⟩
include H hi h
theorem zxB {all:Bool}{m i0:Int}{C:Sl CIx}{fs:Sl MF}{tk rs:Sl Int}{mp:Sl (Int×Int)}(hm:∀v,(0 < ZZ v mp.xs↔v∈tk.xs)) (hrl:rs.xs.length<=20)
    (ht:∀(k:Nat) (f:PNf),ks.findIdx? (λq=>decide (q.T_=x.c_.L_.xs[i].Y_))=o k->x.F_.xs[k]?=o f->
      ∀v:Int,v∈tk.xs↔∃(j:Nat) (a:qt) (p:PP),x.c_.L_.xs[i].Q_.xs[j]?=o a/\f.V_.xs[j]?=o p/\(p.M_=2/\Z7 t p.t_≠3)/\idP a.N_ x.f_.V_.xs=v)
    (hr:∀v:Int,v∈rs.xs↔∃(j:Nat) (a:qt),x.c_.L_.xs[i].Q_.xs[j]?=o a/\a.N_≠lit []/\idP a.N_ x.f_.V_.xs=v) :
    lpO FL1 (e,all,c,d,C,m,i0,rs.len,0,x,(lit [],mp),fs,rs)=o (.inr (e,all && !VL t ks x.c_.L_.xs[i].Y_,c,d,C,m,i0,x,fs)):=by
  have F:=H.n _ (g9 hi) h;rw[<- zzr F hr];generalize x.c_.L_.xs[i]=n at *
  obtain⟨a,q,j1⟩:=go (f:=FL1) (n:=rs.xs.length) (A:=Bool) (st:=λj a=>(e,a,c,d,C,m,i0,rs.len,(j:Int),x,(lit [],mp),fs,rs)) (fin:=λa =>.inr (e,a,c,d,C,m,i0,x,fs))
    (J:=λj a=>a=(all && !(rs.xs.take j).any (zfp t x.f_)))
    (λj hj a ha=>by
      obtain⟨ja,aa,g1,g2,g3⟩:=(hr _).1 (g9 hj);obtain⟨k,f,f1,f2,f3,f4,f5,f6,f7⟩:=F.f;obtain⟨p,p1,p2,p3,p4⟩:=f7 ja aa g1;rcases p4 with⟨h',_⟩ | ⟨_,iv,q,h4,h5,h6,h7⟩
      ·exact absurd h' g2
      have hv:rs.xs[j]=(iv:Int):=by rw[<- g3,h4]
      obtain⟨hiv,hq⟩:=U1.1 h5;have gv:zb x.f_.V_ (iv:Int)=o q:=by rw[zh hiv,hq]
      have wk:=zw (show j < 1000000000 by omega);have hvb:zfp t x.f_ rs.xs[j]=Y2 t q:=by unfold zfp;rw[hv,show(iv:Int).toNat=iv by omega,h5];rfl
      have step:(all && !(rs.xs.take (j+1)).any (zfp t x.f_))=(a && !Y2 t q):=by
        rw[<- D0 hj,List.any_append,ha,<- hvb];cases all<;>simp
      show∃a',q32 _ _ _ _ _ _ _ _=_/\_
      unfold q32;simp only[jk,Zz];rw[ju (by simp only[zo];omega),zh hj,ji,ji,hv,gv,ji];rw[step];rcases p2 with p2 | p2
      · have hq1:q.M_=1:=by rw[h6,p2]
        have hb:Y2 t q=false:=by unfold Y2;simp[hq1]
        simp only[hq1,jp,ji,jm,wk];exact⟨a,rfl,by simp[hb]⟩
      · have hq2:q.M_=2:=by rw[h6,p2]
        have hqt:=h7 p2;obtain⟨s,hs,es,hso⟩:=zlH (p3 p2);have gt:zb x.Z_ q.t_=o t[s]:=by rw[H.ty,hqt,es];exact zh (s:=mkS t) hs
        have hb:Y2 t q = !zgu t[s].S_:=by unfold Y2;rw[hq2,hqt,hso];simp
        have hmv:(0 < ZZ (iv:Int) mp.xs↔t[s].S_≠3):=by
          rw[hm,ht k f f1 f2];constructor
          · rintro⟨j',a',p',e1,e2,⟨e3,e4⟩,e5⟩;obtain⟨p'',r1,r2,r3,r4⟩:=f7 j' a' e1;rw[r1] at e2;cases e2;rcases r4 with⟨_,h'⟩ | ⟨_,iv',q',h4',h5',h6',h7'⟩
            ·omega
            · have:iv'=iv:=by omega
              subst this;rw[h5] at h5';cases h5';rw[<- hso,<- hqt,h7' e3];exact e4
          ·intro hne;exact⟨ja,aa,p,g1,p1,⟨p2,by rw[hso];exact hne⟩,h4⟩
        have hd:(decide (0 < ZZ (iv:Int) mp.xs) == decide (t[s].S_=3))=false:=by
          by_cases c:t[s].S_=3
          · have:¬ 0 < ZZ (iv:Int) mp.xs:=λh=>(hmv.1 h) c
            simp[c,this]
          ·have:0 < ZZ (iv:Int) mp.xs:=hmv.2 c;simp[c,this]
        cases a with
        |true=>
          simp only[hq2,show¬ ((2:Int)=1) by decide,jo,jp,gt,ji,zhD,zlI,hd,jj,jm,jl,wk];exact⟨_,rfl,by simp[hb]⟩
        |false=>
          simp only[hq2,show¬ ((2:Int)=1) by decide,jo,jp,gt,ji,zhD,zlI,hd,jj,jm,jl,wk]
          exact⟨_,rfl,by simp⟩)
    (λa ha=>by
      show q32 _ _ _ _ _ _ _ _=_;unfold q32;simp only[jk]
      rw[jv (by simp only[zo];omega)])
    (a:=all) (by simp)
  rw[Df] at j1;rw[<- j1];exact q
end
theorem zlJ(q:Uq->Bool):∀l:List CIx,decide ((thr q (l.map fk)).2=0)=l.all λn=>decide (n.O_≠13) || !q n.Y_
 |[]=>rfl
 |n::l=>by
  have ih:=zlJ q l;unfold thr at ih |-
  rw[U3,M,List.all_cons];by_cases h:n.O_=13
  ·rw[show fk n=o (n.a_,n.Y_,_) from ju h];simp only[fkA,h,UW,js,jq,Dx];by_cases hq:q n.Y_=D
   ·simp[hq]
   ·have hq':q n.Y_=false:=by simpa using hq
    simp only[hq',jj,jo,Dq,Dr];exact ih
  ·rw[show fk n=none from jv h];simp only[fkA,h,UW,jt,jr,Bool.true_or,Dr];exact ih
theorem zxC {x:MF}{t:List PT}{ks:List Nd}(H:FuncX x t ks) {fs:Sl MF} :
    lpO FL2 (e,D,c,d,x.c_.L_,x.c_.L_.len,0,x,fs)=o (.inr (e,x.c_.L_.xs.all (λn=>decide (n.O_≠13) || !VL t ks n.Y_),c,d,fs)):=by
  have hl:=H.l
  obtain⟨a,q,j1⟩:=go (f:=FL2) (n:=x.c_.L_.xs.length) (A:=Bool) (st:=λi a=>(e,a,c,d,x.c_.L_,x.c_.L_.len,(i:Int),x,fs)) (fin:=λa =>.inr (e,a,c,d,fs))
    (J:=λi a=>a=(x.c_.L_.xs.take i).all (λn=>decide (n.O_≠13) || !VL t ks n.Y_))
    (λi hi a ha=>by
      have wk:=zw (show i < 1000000000 by omega);show∃a',q33 _ _ _ _ _ _ _ _=_/\_
      unfold q33;simp only[jk];rw[ju (by simp only[zo];omega),zh hi,ji,<- D0 hi,List.all_append,<- ha];by_cases h:x.c_.L_.xs[i].O_=13
      ·obtain⟨tk,t1,t2,t3⟩:=zxy H hi h;obtain⟨rs,r1,r2,r3⟩:=zxz H hi h;obtain⟨mp,m1,m2⟩:=zxA (x:=x) (e:=e) (all:=a) (i':=(i:Int)) (c:=c) (d:=d) (C:=x.c_.L_) (m:=x.c_.L_.len) (i:=(i:Int)) (fs:=fs) t2;have q:=zxB H hi h (e:=e) (all:=a) (c:=c) (d:=d) (m:=x.c_.L_.len) (i0:=(i:Int)) (C:=x.c_.L_) (fs:=fs) m2 r2 t3 r3;rw[jv (by simp[h]),t1];simp only[ji,m1,r1,q,jl,jm,wk];exact⟨_,rfl,by simp[h]⟩
      · rw[ju h];simp only[ji,jm,wk]
        exact⟨a,rfl,by simp[h]⟩)
    (λa ha=>by
      show q33 _ _ _ _ _ _ _ _=_;unfold q33;simp only[jk]
      rw[jv (by simp only[zo];omega)])
    (a:=true) (by simp)
  rw[Df] at j1;rw[<- j1];exact q
theorem zrW(hw:q27 ()=o D)(x:Uq×Uq):q80 x=o true:=by
 obtain⟨b,fs,rs,e,hb⟩:=zt8 x;unfold q80 q7d;simp only[e,ji,hw,Da,jj,jo];cases b with
 |false=>rfl
 |true=>
 obtain⟨h1,h2,h3⟩:=hb rfl;simp only[Da,jj,jo]
 obtain⟨_,q,_⟩:=go (f:=FL3) (n:=fs.xs.length) (A:=Unit) (st:=λi _=>(fs.len,(i:Int),fs)) (fin:=λ_ =>.inr ()) (J:=λ_ _=>True)
  (λi hi _ _=>by
   obtain⟨t,ks,H⟩:=zzq (h3 i hi);refine⟨(),?_,trivial⟩;show q2h _ _ _ _ _ _ _ _=_;unfold q2h;simp only[jk];rw[ju (by simp only[zo];omega),zh hi,ji,ji,zAP H.ty H.f H.k H.l,ji]
   simp only[zxC H,ji,jl,zlJ,bne_self_eq_false,jj,jo,zw (show i < 1000000000 by omega)])
  (λ_ _=>by
   show q2h _ _ _ _ _ _ _ _=_;unfold q2h;simp only[jk]
   rw[jv (by simp only[zo];omega)])
  (a:=()) trivial
 have q:lpO (q2h q1v q27 q3j q42 q43 q2x q3l) (fs.len,0,fs)=_:=q;rw[q];rfl
deriving instance DecidableEq for Sl
mutual
def zub:q6->q6->Bool
 |⟨k,t,n,a,s⟩,⟨k',t',n',a',s'⟩=>(decide (k=k') && (decide (t=t') && (decide (n=n') && decide (a=a')))) && zuc s s'
def zuc:Sl q6->Sl q6->Bool
 |⟨l,b⟩,⟨l',b'⟩=>(b == b') && zfq l l'
def zfq:List q6->List q6->Bool
 |[],[]=>D
 |x::l,y::r=>zub x y && zfq l r
 |_,_=>z
end
mutual
theorem zlK:∀a b:q6,zub a b=D↔a=b
 |⟨k,t,n,a,s⟩,⟨k',t',n',a',s'⟩=>by
  unfold zub;have:=zud s s';simp only[gf,jk,this,q6.mk.injEq];constructor
  ·rintro⟨⟨h1,h2,h3,h4⟩,h5⟩;exact⟨h1,h2,h3,h4,h5⟩
  ·rintro⟨h1,h2,h3,h4,h5⟩;exact⟨⟨h1,h2,h3,h4⟩,h5⟩
theorem zud:∀a b:Sl q6,zuc a b=D↔a=b
 |⟨l,b⟩,⟨l',b'⟩=>by
  unfold zuc;have:=zlL l l';simp only[gf,beq_iff_eq,this,B.injEq];constructor
  ·rintro⟨h1,h2⟩;exact⟨h2,h1⟩
  ·rintro⟨h1,h2⟩;exact⟨h2,h1⟩
theorem zlL:∀a b:List q6,zfq a b=D↔a=b
 |[],[]=>by unfold zfq;simp
 |x::l,y::r=>by
  unfold zfq;have h1:=zlK x y;have h2:=zlL l r;simp only[gf,h1,h2,Y.injEq]
 |[],_::_=>by unfold zfq;simp
 |_::_,[]=>by unfold zfq;simp
end
instance:DecidableEq q6:=λa b=>decidable_of_iff _ (zlK a b)
deriving instance DecidableEq for qn
deriving instance DecidableEq for q8
deriving instance DecidableEq for qp
deriving instance DecidableEq for qr
deriving instance DecidableEq for qa
deriving instance DecidableEq for qf
deriving instance DecidableEq for qd
deriving instance DecidableEq for qb
end Go.Px
