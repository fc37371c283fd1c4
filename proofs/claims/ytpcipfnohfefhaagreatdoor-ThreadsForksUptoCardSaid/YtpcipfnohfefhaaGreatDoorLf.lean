/- Part Lf: Px22PX Px22PY Px22PZ Px22RA Px22RB. -/
import Derived.Test.YtpcipfnohfefhaaGreatDoorLe
set_option linter.unusedVariables false
set_option linter.unusedSimpArgs false
namespace Go.Px
open Bool renaming true->u,false->z
open List renaming length->C,map_nil->G,take->H,length_nil->I,cons_append->K
open _root_.Option renaming some->w,none->D,bind->E
open Sl renaming mk->B
theorem D0:∀{α : Type _} {l : List α} {i : Nat} (h : i < l.length),H i l++[l[i]] = H (i + 1) l:=@List.take_append_getElem
inductive AllN(p:Nd->Prop):Nd->Prop
 |mk {n:Nd}:p n->(∀k∈n.K_.xs,AllN p k)->AllN p n
theorem AllN.mono{p q:Nd->Prop}(h:∀n,p n->q n){n:Nd}(a:AllN p n):AllN q n:=by
 induction a with
 |mk a b ih=>exact .mk (h _ a) ih
abbrev Fk:=Us (Int×Uq×List Uq)
abbrev CIx:=qi
def fk(i:CIx):Fk:=if i.O_=13 then w (i.a_,i.Y_,i.A_.N_::i.B_.N_::i.Q_.xs.map qt.N_) else D
theorem go {S R A:Type}{f:S->Us (Step S R)}{n:Nat}{st:Nat->A->S}{fin:A->R}{J:Nat->A->Prop}
    (h:∀i,i < n->∀a,J i a->∃a',f (st i a)=w (.next (st (i+1) a'))/\J (i+1) a') (h0:∀a,J n a->f (st n a)=w (.done (fin a))) {a:A} (ha:J 0 a) :
    ∃a',lpO f (st 0 a)=w (fin a')/\J n a':=by
  have:∀(m i:Nat) (a:A),i+m=n->J i a->∃a',lpO f (st i a)=w (fin a')/\J n a':=by
    intro m
    induction m with
    |zero=>
      intro i a hi ha;obtain rfl:i=n:=by omega
      exact⟨a,zx (h0 a ha),ha⟩
    |succ m ih=>
      intro i a hi ha;obtain⟨a',h1,h2⟩:=h i (by omega) a ha;obtain⟨b,h3,h4⟩:=ih (i+1) a' (by omega) h2;exact⟨b,by rw[zE h1,h3],h4⟩
  exact this n 0 a (by omega) ha
theorem ZA{α:Type}{b:Nat}{s:Sl α}{x:α}(hb:b<=1000000)(h:s.xs.length<=100000):zp b s [x]=w ⟨s.xs++[x],u⟩:=by
 have:(s.xs.length+[x].length) * b<=100001 * 1000000:=Nat.mul_le_mul (by simp;omega) hb;rw[yP (by omega) (by simp;omega)];simp
theorem zlz(n:Nd)(hn:n.K_.xs.length<=50000):∃l,qbh n=w l/\l.xs.map qt.N_=n.K_.xs.map q6.T_:=by
 obtain⟨l,h,hm⟩:=go (f:=qdm qae) (n:=n.K_.xs.length) (A:=Sl qt) (st:=λi a=>(n.K_,n.K_.len,(i:Int),a)) (fin:=λa=>a) (J:=λi a=>a.xs.map qt.N_=(n.K_.xs.take i).map q6.T_)
  (λi hi a ha=>by
   have hal:=congrArg C ha;simp only[Dn,UY] at hal;refine⟨⟨a.xs++[⟨n.K_.xs[i].T_,n.K_.xs[i].n_⟩],u⟩,?_,by rw[<- D0 hi,Dv,Dv,ha];rfl⟩;unfold qdm;simp only[jk];rw[ju (by simp only[zo];omega),zh hi,ji];show((w _).bind _)=_
   rw[ji,ZA (by omega) (by omega),ji,zw (by omega)])
  (λa ha=>by
   unfold qdm;simp only[jk]
   rw[jv (by simp only[zo];omega)])
  (a:=B [] z) (by simp)
 rw[Df] at hm;exact⟨l,congrArg (λo=>E o λy=>w y) h,hm⟩
theorem zad(n:Nd)(i:Nat):∃t,q3m (n,(i:Int))=w t:=by
 unfold q3m qgg;simp only[jk];split
 ·grind
 ·rename_i h;rw[zh (by simp only[zo] at h;omega)];exact⟨_,rfl⟩
theorem zxh(n:Nd):∃k,qah n=w k/\k.K_.xs.length<=zm n:=by
 unfold qah qeq;simp only[jk];split
 ·grind
 ·rename_i h;have h0:0 < n.K_.xs.length:=by simp only[zo] at h;omega
  rw[show(0:Int)=((0:Nat):Int) from rfl,zh h0];refine⟨_,rfl,?_⟩;have h1:=yF (g9 h0);have h2:=@Zl n.K_.xs[0];grind
theorem yy{i:CIx}{l:Sl CIx}(h:l.xs.length<=50000):q2l (i,l)=w ((l.xs.length:Int),⟨l.xs++[i],u⟩):=by
 unfold q2l qbo;rw[ZA (by omega) (by grind)];simp only[ji,zo,jx,jz];rw[zK (by omega) (by omega)];congr 2;omega
def One(r:Us (Sl CIx))(l:Sl CIx)(k:Fk):Prop:=∃i,r=w ⟨l.xs++[i],u⟩/\fk i=k
theorem zAI{n e:Nd}{l:Sl CIx}(h:l.xs.length<=50000)(he:e.K_.xs.length<=50000):One (q6h (n,e,l)) l none:=by
 obtain⟨ta,h0⟩:=zad e 0;obtain⟨tb,h1⟩:=zad e 1;obtain⟨sa,h2,_⟩:=zlz e he;obtain⟨k,t,m,a,ks⟩:=e;unfold q6h qbp;have h0:q3m (⟨k,t,m,a,ks⟩,0)=_:=h0;have h1:q3m (⟨k,t,m,a,ks⟩,1)=_:=h1;have ht:∀n:Nd,qae n=w ⟨n.T_,n.n_⟩:=λn=>rfl
 by_cases c:k=21
 ·subst c;simp (decide:=true) only [ji,jp,h0,h1,yy h,jr];exact⟨_,rfl,rfl⟩
 by_cases c2:k=22
 ·subst c2;simp (decide:=true) only [ji,jp,h0,h1,yy h,jr,jo];exact⟨_,rfl,rfl⟩
 by_cases c3:k=23
 ·subst c3;simp (decide:=true) only [ji,jp,yy h,jr,jo];exact⟨_,rfl,rfl⟩
 by_cases c4:k=24
 ·subst c4;simp (decide:=true) only [ji,jp,yy h,jr,jo];exact⟨_,rfl,rfl⟩
 by_cases c5:k=25
 ·subst c5;simp (decide:=true) only [ji,jp,yy h,jr,jo,h0];exact⟨_,rfl,rfl⟩
 by_cases c6:k=28
 ·subst c6;simp (decide:=true) only [ji,jp,yy h,jr,jo,h2];exact⟨_,rfl,rfl⟩
 by_cases c7:k=26
 ·subst c7;simp (decide:=true) only [ji,jp,yy h,jr,jo,ht];exact⟨_,rfl,rfl⟩
 by_cases c8:k=27
 ·subst c8;simp (decide:=true) only [ji,jp,yy h,jr,jo,ht];exact⟨_,rfl,rfl⟩
 ·simp only[ji,jp,yy h,jr,jo,ht,c,c2,c3,c4,c5,c6,c7,c8,jq,jj];exact⟨_,rfl,rfl⟩
def fkN(n:Nd):Fk:=if n.k_=19 then w (n.a_,n.T_,lit []::lit []::n.K_.xs.map q6.T_) else D
theorem zxi{hb:Nd×Sl CIx->Us (Sl CIx)}{n:Nd}{l:Sl CIx}(h:l.xs.length<=50000)(hn:zm n<=50000)(h1:n.k_≠15)(h2:n.k_≠16):One (q1w hb (n,l)) l (fkN n):=by
 obtain⟨ta,k0⟩:=zad n 0;obtain⟨tb,k1⟩:=zad n 1;obtain⟨sa,k2,k2m⟩:=zlz n (by have:=@Zl n;omega);obtain⟨f,k3,hf⟩:=zxh n;obtain⟨af,k4,_⟩:=zlz f (by omega);have ks:=@zAI n f l h (by omega);obtain⟨k,t,m,a,kk⟩:=n;have k0:q3m (⟨k,t,m,a,kk⟩,0)=_:=k0;have k1:q3m (⟨k,t,m,a,kk⟩,1)=_:=k1;have ke:=zn f;simp only at h1 h2;unfold q1w q5i;by_cases c:k=10
 ·subst c;obtain⟨i,e1,e2⟩:=ks;simp (decide:=true) only [ji,jp,jr,k3,ke,e1,jm];exact⟨i,rfl,e2⟩
 by_cases c3:k=11
 ·subst c3;simp (decide:=true) only [ji,jp,yy h,jr,jo,k0,k1,jl];exact⟨_,rfl,rfl⟩
 by_cases c4:k=12
 ·subst c4;simp (decide:=true) only [ji,jp,yy h,jr,jo,jl];exact⟨_,rfl,rfl⟩
 by_cases c5:k=13
 ·subst c5;simp (decide:=true) only [ji,jp,yy h,jr,jo,jl];exact⟨_,rfl,rfl⟩
 by_cases c6:k=14
 ·subst c6;simp (decide:=true) only [ji,jp,yy h,jr,jo,jl];exact⟨_,rfl,rfl⟩
 by_cases c7:k=20
 ·subst c7;simp (decide:=true) only [ji,jp,yy h,jr,jo,jl,k3,ke,k4];exact⟨_,rfl,rfl⟩
 by_cases c8:k=19
 ·subst c8;simp (decide:=true) only [ji,jp,yy h,jr,jo,jl,k2];exact⟨_,rfl,by simp[fk,fkN,k2m]⟩
 have hk:fkN ⟨k,t,m,a,kk⟩=none:=by simp only[fkN,jv c8]
 rw[hk];by_cases c9:k=17
 ·subst c9;simp (decide:=true) only [ji,jp,yy h,jr,jo,jl,k0];exact⟨_,rfl,rfl⟩
 ·simp only[ji,jp,yy h,jr,jo,jl,h1,h2,c,c3,c4,c5,c6,c7,c8,c9,jq,jj];exact⟨_,rfl,rfl⟩
abbrev RIx:=qm
def rfk(i:RIx):Fk:=if i.O_=13 then w (i.a_,i.Y_,i.A_.N_::i.B_.N_::i.Q_.xs.map ql.N_) else D
abbrev InT:=(Int×Int×Uq×Uq×Uq×Int×Uq×Int×Int×Bool)×Sl ql
theorem rk0{n x:Nd}{l:List Nd}{b:Bool}(h:n.K_=⟨x::l,b⟩):zb (rN n).K_ 0=w (rN x):=by
 rw[zD,h,show(0:Int)=((0:Nat):Int) from rfl,zh (by simp)];rfl
theorem rk1{n x y:Nd}{l:List Nd}{b:Bool}(h:n.K_=⟨x::y::l,b⟩):zb (rN n).K_ 1=w (rN y):=by
 rw[zD,h,show(1:Int)=((1:Nat):Int) from rfl,zh (by simp)];rfl
theorem zfm(n:RNd):q1q n=w ⟨n.T_,n.n_⟩:=rfl
theorem zhz(n:Nd)(hn:n.K_.xs.length<=50000):∃l,q5e (rN n).K_=w l/\l.xs.map ql.N_=n.K_.xs.map q6.T_:=by
 have hl:(rN n).K_.xs.length=n.K_.xs.length:=by rw[zD];simp
 obtain⟨l,h,hm⟩:=go (f:=q6c q1q) (n:=(rN n).K_.xs.length) (A:=Sl ql) (st:=λi a=>((rN n).K_,(i:Int),a)) (fin:=λa=>a) (J:=λi a=>a.xs.map ql.N_=((rN n).K_.xs.take i).map q7.T_)
  (λi hi a ha=>by
   have hal:=congrArg C ha;simp only[Dn,UY] at hal;refine⟨⟨a.xs++[⟨(rN n).K_.xs[i].T_,(rN n).K_.xs[i].n_⟩],u⟩,?_,by rw[<- D0 hi,Dv,Dv,ha];rfl⟩;unfold q6c;simp only[jk];rw[ju (by simp only[zo];omega),zh hi,ji];show((w _).bind _)=_
   rw[ji,ZA (by omega) (by omega),ji,zw (by omega)])
  (λa ha=>by
   unfold q6c;simp only[jk]
   rw[jv (by simp only[zo];omega)])
  (a:=B [] z) (by simp)
 rw[Df,zD] at hm;refine⟨l,congrArg (λo=>E o λy=>w y) h,hm.trans ?_⟩;simp only[List.map_map];exact Dm λx _=>zX x
def zy8(r:Us InT)(k:Fk):Prop:=∃y,r=w y/\(if y.1.1=13 then w (y.1.2.1,y.1.2.2.2.1,y.1.2.2.2.2.1::y.1.2.2.2.2.2.2.1::y.2.xs.map ql.N_) else D)=k
theorem zy9{n e:Nd}(he:ExprG e)(hn:n.K_=⟨[e],u⟩)(hl:e.K_.xs.length<=50000):zy8 (q64 (rN n)) none:=by
 obtain⟨sa,ht,_⟩:=zhz e hl;unfold q64 qa6;simp only[rk0 hn,ji,zk,zfm,ZT];cases he with
 |term h1 h2=>
  simp (decide:=true) only [h1,jq,jr,jo,jp,ji,jj];exact⟨_,rfl,rfl⟩
 |leaf h1 h2=>
  rcases h1 with h1 | h1 | h1 | h1<;>
  ·simp (decide:=true) only [h1,jq,jr,jo,jp,ji,jj];exact⟨_,rfl,rfl⟩
 |call h1=>
  simp (decide:=true) only [h1.1,jq,jr,jo,jp,ji,jj,ht];exact⟨_,rfl,rfl⟩
 |load h1 h2 h3=>
  simp (decide:=true) only [h1,jq,jr,jo,jp,ji,jj,rk0 h2,zfm];exact⟨_,rfl,rfl⟩
 |two h1 h2 h3 h4=>
  rcases h1 with h1 | h1<;>
  ·simp (decide:=true) only [h1,jq,jr,jo,jp,ji,jj,rk0 h2,rk1 h2,zfm];exact⟨_,rfl,rfl⟩
theorem zt3{n:Nd}(h:StmtG n)(hn:zm n<=50000)(h1:n.k_≠15)(h2:n.k_≠16):zy8 (q1u (rN n)) (fkN n):=by
 obtain⟨sa,ht,hm⟩:=zhz n (by have:=@Zl n;omega);have kl:∀{k:Nd} {n:Nd},n.K_=⟨[k],u⟩->zm n<=50000->k.K_.xs.length<=50000:=by
  intro k n e hn;have a:=@yF n k (by rw[e];simp);have b:=@Zl k;omega
 unfold q1u q86;simp only[zk];simp only[ZT];cases h with
 |leaf c=>
  have hk:∀(k:Int) (t:Uq) (n a:Int),(Sl.len (rN ⟨k,t,n,a,nilS⟩).K_)=0:=by intros;rw[zD];rfl
  rcases c with rfl | rfl | rfl | rfl | rfl<;>
  ·simp (decide:=true) only [jq,jr,jo,jp,ji,jj,hk];exact⟨_,rfl,rfl⟩
 |ite=>grind
 |whl=>grind
 | @ret t n a x c=>
  have hk:Sl.len (rN ⟨17,t,n,a,⟨[x],u⟩⟩).K_=1:=by rw[zD];rfl
  simp (decide:=true) only [jq,jr,jo,jp,ji,jj,hk,rk0 (n:=⟨17,t,n,a,⟨[x],u⟩⟩) rfl,zfm];exact⟨_,rfl,rfl⟩
 | @fork t n a ks c=>
  simp (decide:=true) only [jq,jr,jo,jp,ji,jj,ht,YS,zX];exact⟨_,rfl,by simp[fkN,hm]⟩
 | @call t n a x c=>
  obtain⟨ax,hx,_⟩:=zhz x (kl rfl hn);simp (decide:=true) only [jq,jr,jo,jp,ji,jj,rk0 (n:=⟨20,t,n,a,⟨[x],u⟩⟩) rfl,hx];exact⟨_,rfl,rfl⟩
 | @store t n a x y c1 c2=>
  simp (decide:=true) only [jq,jr,jo,jp,ji,jj,rk0 (n:=⟨11,t,n,a,⟨[x,y],u⟩⟩) rfl,rk1 (n:=⟨11,t,n,a,⟨[x,y],u⟩⟩) rfl,zfm];exact⟨_,rfl,rfl⟩
 | @set t n a e c=>
  obtain⟨y,e1,e2⟩:=zy9 (n:=⟨10,t,n,a,⟨[e],u⟩⟩) c rfl (kl rfl hn);simp (decide:=true) only [jq,jr,jo,jp,ji,jj,e1];exact⟨y,rfl,e2⟩
def zfn(s:Nd)(L:List Fk):Prop:=
 L.length<=zm s/\
 (∀F (l:Sl CIx),zm s<=F->l.xs.length+zm s<=40000->∃l',q1w (q2j F) (s,l)=w l'/\l'.xs.map fk=l.xs.map fk++L)/\
 ∀F from_ (i:Nat) (n:RNd) (out:Sl RIx) (hi:i < n.K_.xs.length),n.K_.xs[i]=rN s->zm s<=F->out.xs.length+zm s<=40000->i < 100000->
  ∃out',q3c q1u q1q (q2a F) (from_,(i:Int),n,out)=w (.next (from_,((i+1:Nat):Int),n,out'))/\out'.xs.map rfk=out.xs.map rfk++L
def VJ(s:Nd)(L:List Fk):Prop:=∀p:Nd->Prop,AllN p s->∀d,w d∈L->∃s',p s'/\fkN s'=w d
def zhA(b:Nd)(L:List Fk):Prop:=
 L.length+1<=zm b/\
 (∀F (l:Sl CIx),zm b<=F->l.xs.length+zm b<=40000->∃l',q2j F (b,l)=w l'/\l'.xs.map fk=l.xs.map fk++L)/\
 ∀F from_,zm b<=F->zm b<=40000->∃out,q2a F (rN b,from_)=w out/\out.xs.map rfk=L
theorem zt4{g:Nd->List Fk}:∀l:List Nd,(∀s∈l,(g s).length<=zm s)->(l.flatMap g).length<=zf l
 |[],h=>by simp
 |x::l,h=>by
  have h1:=h x (by simp);have h2:=zt4 l λs hs=>h s (by simp[hs])
  simp only[List.flatMap_cons,jx,zf];omega
theorem zrP{α β:Type}{g:α->List β}{l:List α}{i:Nat}(h:i < l.length):(l.take (i+1)).flatMap g=(l.take i).flatMap g++g l[i]:=by
 rw[<- D0 h,List.flatMap_append];simp
theorem YT{l:List Nd}{i:Nat}(h:i < l.length):zf (l.take i)+zm l[i]<=zf l:=by
 have h1:zf (l.take i++l.drop i)=zf l:=by rw[List.take_append_drop]
 rw[zR,Dc h] at h1;simp only[zf] at h1;omega
theorem zim{b:Nd}(h:∀s∈b.K_.xs,∃L,zfn s L/\VJ s L):∃L,zhA b L/\VJ b L:=by
 have:∀s,∃L,s∈b.K_.xs->zfn s L/\VJ s L:=λs=>by
  by_cases hs:s∈b.K_.xs
  ·grind
  ·exact⟨[],λh=>absurd h hs⟩
 obtain⟨g,hg⟩:=Classical.axiomOfChoice this;have hsz:=zl b;have ht:∀{i:Nat},i < b.K_.xs.length->((b.K_.xs.take i).flatMap g).length<=zf (b.K_.xs.take i):=λ_=>zt4 _ λs hs=>(hg s (List.mem_of_mem_take hs)).1.1
 refine⟨b.K_.xs.flatMap g,⟨by have:=zt4 (g:=g) b.K_.xs λs hs=>(hg s hs).1.1;omega,?_,?_⟩,λp a d hd=>by
  obtain⟨_,ak⟩:=a;obtain⟨s,hs,hd⟩:=List.mem_flatMap.1 hd
  exact(hg s hs).2 p (ak s hs) d hd⟩
 ·intro F l hF hl;obtain⟨F,rfl⟩:∃k,F=k+1:=⟨F - 1,by omega⟩
  obtain⟨l',h1,h2⟩:=go (f:=q7r (q1w (q2j F))) (n:=b.K_.xs.length) (A:=Sl CIx) (st:=λi a=>(b.K_,b.K_.len,(i:Int),a)) (fin:=λa=>a) (J:=λi a=>a.xs.map fk=l.xs.map fk++(b.K_.xs.take i).flatMap g)
   (λi hi a ha=>by
    have hm:=g9 hi;have hlen:=congrArg C ha;have h3:=ht hi;have h4:=YT hi;simp only[jx,Dn] at hlen;obtain⟨a',e1,e2⟩:=(hg _ hm).1.2.1 F a (by omega) (by omega);have hk:=@Zl b;refine⟨a',?_,by rw[e2,ha,zrP hi,UP]⟩;unfold q7r;simp only[jk,zn]
    rw[ju (by simp only[zo];omega),zh hi,ji,e1,ji,zw (by omega)])
   (λa ha=>by
    unfold q7r;simp only[jk]
    rw[jv (by simp only[zo];omega)])
   (a:=l) (by simp)
  exact⟨l',congrArg (λo=>E o λy=>w y) h1,by grind⟩
 ·intro F fr hF hb;obtain⟨F,rfl⟩:∃k,F=k+1:=⟨F - 1,by omega⟩
  have hk:(rN b).K_.xs=b.K_.xs.map rN:=by rw[zD]
  have hkl:(rN b).K_.xs.length=b.K_.xs.length:=by rw[hk];simp
  obtain⟨l',h1,h2⟩:=go (f:=q3c q1u q1q (q2a F)) (n:=b.K_.xs.length) (A:=Sl RIx) (st:=λi a=>(fr,(i:Int),rN b,a)) (fin:=λa=>a) (J:=λi a=>a.xs.map rfk=(b.K_.xs.take i).flatMap g)
   (λi hi a ha=>by
    have hm:=g9 hi;have hlen:=congrArg C ha;have h3:=ht hi;have h4:=YT hi;have hk2:=@Zl b;simp only[Dn] at hlen;obtain⟨a',e1,e2⟩:=(hg _ hm).1.2.2 F fr i (rN b) a (by omega) (by grind) (by omega) (by omega) (by omega)
    exact⟨a',e1,by rw[e2,ha,zrP hi]⟩)
   (λa ha=>by
    unfold q3c;simp only[jk]
    rw[jv (by simp only[zo,hkl];omega)])
   (a:=B [] z) (by simp)
  refine⟨l',?_,by grind⟩;show((lpO _ (fr,0,kr (rN b),B [] z)).bind _)=_;rw[zk];grind
theorem WJ(s:Nd):VJ s [fkN s]:=by
 intro p a d hd;obtain⟨h,_⟩:=a;exact⟨s,h,(Dl.1 hd).symm⟩
theorem vW{s:Nd}(h:StmtG s)(hs:zm s<=40000)(h1:s.k_≠15)(h2:s.k_≠16):zfn s [fkN s]:=by
 refine⟨by have:=Zh s;simp;omega,λF l hF hl=>?_,λF fr i n out hi hn hF ho hi2=>?_⟩
 ·obtain⟨j,e1,e2⟩:=zxi (hb:=q2j F) (n:=s) (l:=l) (by omega) (by omega) h1 h2;grind
 ·obtain⟨y,e1,e2⟩:=zt3 h (by omega) h1 h2;refine⟨⟨out.xs++[⟨y.1.1,y.1.2.1,y.1.2.2.1,y.1.2.2.2.1,⟨y.1.2.2.2.2.1,y.1.2.2.2.2.2.1⟩,⟨y.1.2.2.2.2.2.2.1,y.1.2.2.2.2.2.2.2.1⟩,y.2,y.1.2.2.2.2.2.2.2.2.1,y.1.2.2.2.2.2.2.2.2.2⟩],u⟩,?_,by simp only[Dv,U3,G,<- e2];rfl⟩;have k1:(rN s).k_≠15:=by rw[ZT];exact h1
  have k2:(rN s).k_≠16:=by rw[ZT];exact h2
  unfold q3c;simp only[jk];rw[ju (by simp only[zo];omega),zh hi,hn,ji,ju k1];simp only[ji,zk,e1];rw[ju (gm k2),ZA (by omega) (by omega)];simp only[ji];rw[zw (by omega)]
theorem zlA{l:Sl CIx}{i:Nat}{v:CIx}(h:i < l.xs.length)(hv:fk v=fk l.xs[i]):(l.set (i:Int) v).xs.map fk=l.xs.map fk:=by
 simp only[Sl.set,Int.toNat_natCast,List.map_set,hv];rw[<- List.getElem_map fk (h:=by simpa using h)];exact List.set_getElem_self _
theorem zu2{p q r}{a b c d:Int}{n s:RNd}{out t:Sl RIx}(h:out.xs.length+t.xs.length<=90000):∃o,lpO (q4u p q r) (a,b,c,d,0,n,out,s,t)=w (a,b,c,d,n,o,s)/\o.xs=out.xs++t.xs:=by
 obtain⟨o,h1,h2⟩:=go (f:=q4u p q r) (n:=t.xs.length) (A:=Sl RIx) (st:=λi o=>(a,b,c,d,(i:Int),n,o,s,t)) (fin:=λo=>(a,b,c,d,n,o,s)) (J:=λi o=>o.xs=out.xs++t.xs.take i)
  (λi hi o ho=>by
   have:=congrArg C ho;simp only[jx,UY] at this;refine⟨⟨o.xs++[t.xs[i]],u⟩,?_,by simp only;rw[ho,UP,D0 hi]⟩;unfold q4u;simp only[jk,zk]
   rw[ju (by simp only[zo];omega),zh hi,ji,ji,ZA (by omega) (by omega),ji,zw (by omega)])
  (λo ho=>by
   unfold q4u;simp only[jk,zk]
   rw[jv (by simp only[zo];omega)])
  (a:=out) (by simp)
 grind
theorem zAJ{p q r}{a b:Int}{n:RNd}{out t:Sl RIx}(h:out.xs.length+t.xs.length<=90000):∃o,lpO (q4v p q r) (a,b,0,n,out,t)=w (a,b,n,o)/\o.xs=out.xs++t.xs:=by
 obtain⟨o,h1,h2⟩:=go (f:=q4v p q r) (n:=t.xs.length) (A:=Sl RIx) (st:=λi o=>(a,b,(i:Int),n,o,t)) (fin:=λo=>(a,b,n,o)) (J:=λi o=>o.xs=out.xs++t.xs.take i)
  (λi hi o ho=>by
   have:=congrArg C ho;simp only[jx,UY] at this;refine⟨⟨o.xs++[t.xs[i]],u⟩,?_,by simp only;rw[ho,UP,D0 hi]⟩;unfold q4v;simp only[jk,zk]
   rw[ju (by simp only[zo];omega),zh hi,ji,ji,ZA (by omega) (by omega),ji,zw (by omega)])
  (λo ho=>by
   unfold q4v;simp only[jk,zk]
   rw[jv (by simp only[zo];omega)])
  (a:=out) (by simp)
 grind
theorem za7{α:Type}{l' l:List α}{f:α->Fk}{L:List Fk}(h:l'.map f=l.map f++L):l'.length=l.length+L.length:=by
 have:=congrArg C h;grind
theorem zeO{hb}{n:Nd}{l:Sl CIx}(h:n.k_=15\/n.k_=16):q1w hb (n,l)=q2f hb (n,l):=by
 unfold q1w q5i;have key:∀o:Us (Sl CIx),((o.bind λy3=>w (Sum.inl y3)).bind λy18:Sl CIx⊕_=>Sum.elim (λy19:Sl CIx=>w y19) (λy20:Sl CIx×(Int×Int×Uq×Uq×Uq×Int×Uq×Int×Int×Bool)×Sl qt=>(q2l (qi.mk y20.2.1.1 y20.2.1.2.1 y20.2.1.2.2.1 y20.2.1.2.2.2.1 ⟨y20.2.1.2.2.2.2.1,y20.2.1.2.2.2.2.2.1⟩ ⟨y20.2.1.2.2.2.2.2.2.1,y20.2.1.2.2.2.2.2.2.2.1⟩ y20.2.2 y20.2.1.2.2.2.2.2.2.2.2.1 y20.2.1.2.2.2.2.2.2.2.2.2,y20.1)).bind λy21=>w y21.2) y18)=o:=by
  intro o;cases o<;>rfl
 rcases h with h | h<;>
 ·simp (decide:=true) only [h,jr,jq,jp,jo,ji,jj]
  first | rw[<- h,zn] | simp only[zn]
  exact key _
theorem zxj {op:Uq}{n a:Int}{x y B1 B2:Nd}{L1 L2:List Fk}(h1:zhA B1 L1) (h2:zhA B2 L2) (hz:zm ⟨15,op,n,a,⟨[x,y,B1,B2],u⟩⟩<=40000) :
    zfn ⟨15,op,n,a,⟨[x,y,B1,B2],u⟩⟩ (D::L1++D::L2):=by
  have hs:zm ⟨15,op,n,a,⟨[x,y,B1,B2],u⟩⟩=zm x+(zm y+(zm B1+zm B2))+1:=by rw[zl];simp[zf]
  have px:=Zh x;have py:=Zh y;refine⟨by have:=h1.1;have:=h2.1;simp only[jx,jy];omega,λF l hF hl=>?_,λF fr i n' out hi hn hF ho hi2=>?_⟩
  · rw [zeO (.inl rfl)];unfold q2f q4n;obtain⟨ta,k0⟩:=zad ⟨15,op,n,a,⟨[x,y,B1,B2],u⟩⟩ 0;obtain⟨tb,k1⟩:=zad ⟨15,op,n,a,⟨[x,y,B1,B2],u⟩⟩ 1;have k0:q3m (⟨15,op,n,a,⟨[x,y,B1,B2],u⟩⟩,0)=_:=k0;have k1:q3m (⟨15,op,n,a,⟨[x,y,B1,B2],u⟩⟩,1)=_:=k1;have g2:zb (⟨[x,y,B1,B2],u⟩:Sl Nd) 2=w B1:=rfl;have g3:zb (⟨[x,y,B1,B2],u⟩:Sl Nd) 3=w B2:=rfl;simp only[k0,k1,ji,jk,g2,g3,zn];rw[jv (by show¬((4:Int) < 3);omega),yy (by omega),ji];obtain⟨l2,e2,m2⟩:=h1.2.1 F ⟨l.xs++[⟨10,a,op,lit [],ta,tb,B [] z,0,z⟩],u⟩ (by omega) (by simp only[jx,jz];omega);have n2:=za7 m2;have q1:=h1.1;have q2:=h2.1;simp only[jx,jz] at n2;simp only[e2,ji];rw[yy (by omega)];simp only[ji];rw[zh (by simp only[jx,jz];omega)];simp only[ji,jp];rw[ju (by rfl)];generalize hv:Sl.set _ _ _=l4;have fv:l4.xs.map fk=l.xs.map fk++(D::L1++[D]):=by
      rw[<- hv,zlA (by simp only[jx,jz];omega) (by rfl)];simp[m2,fk]
    have n4:=za7 fv;simp only[jx,jz,jy,I] at n4;obtain⟨l5,e5,m5⟩:=h2.2.1 F l4 (by omega) (by omega);have n5:=za7 m5;simp only[g3,e5,ji];rw[zh (by omega)];refine⟨_,rfl,?_⟩;rw[zlA (by omega) (by rfl),m5,fv];simp
  · unfold q3c;have r0:=rk0 (n:=⟨15,op,n,a,⟨[x,y,B1,B2],u⟩⟩) rfl;have r1:=rk1 (n:=⟨15,op,n,a,⟨[x,y,B1,B2],u⟩⟩) rfl;have r2:zb (rN ⟨15,op,n,a,⟨[x,y,B1,B2],u⟩⟩).K_ 2=w (rN B1):=by rw[zD];rfl
    have r3:zb (rN ⟨15,op,n,a,⟨[x,y,B1,B2],u⟩⟩).K_ 3=w (rN B2):=by rw[zD];rfl
    simp only[jk];rw[ju (by simp only[zo];omega),zh hi,hn,ji];have hK:(rN ⟨15,op,n,a,⟨[x,y,B1,B2],u⟩⟩).k_=15:=ZT _;generalize rN ⟨15,op,n,a,⟨[x,y,B1,B2],u⟩⟩=S at *
    simp only[zk];simp (decide:=true) only [hK,jo,ji,jq,jj,r0,r1,r2,r3,zfm];obtain⟨o1,e1,m1⟩:=h1.2.2 F (Ut (Ut (fr+out.len)+1)) (by omega) (by omega);have n1:=congrArg C m1;have q1:=h1.1;have q2:=h2.1;simp only[Dn] at n1;rw[e1,ji,ZA (by omega) (by omega),ji]
    obtain⟨o2,e2,m2⟩:=zu2 (p:=q1u) (q:=q1q) (r:=q2a F) (a:=fr) (b:=(i:Int)) (c:=Ut (fr+out.len)) (d:=Ut (Ut (Ut (fr+out.len)+1)+o1.len)) (n:=n') (s:=S)
      (out:=⟨out.xs++[⟨10,S.a_,S.T_,lit [],⟨(rN x).T_,(rN x).n_⟩,⟨(rN y).T_,(rN y).n_⟩,B [] z,Ut (Ut (Ut (Ut (fr+out.len)+1)+o1.len)+1),z⟩],u⟩) (t:=o1) (by simp only[jx,jz];omega)
    have n2:=congrArg C m2;simp only[jx,jz] at n2;rw[e2];simp only[ji];obtain⟨o3,e3,m3⟩:=h2.2.2 F (Ut (Ut (Ut (Ut (fr+out.len)+1)+o1.len)+1)) (by omega) (by omega);have n3:=congrArg C m3;simp only[Dn] at n3;rw[jv (by rw[hK];decide),r3];simp only[ji,zk,e3];rw[ZA (by omega) (by omega),ji]
    obtain⟨o4,e4,m4⟩:=zAJ (p:=q1u) (q:=q1q) (r:=q2a F) (a:=fr) (b:=(i:Int)) (n:=n')
      (out:=⟨o2.xs++[⟨11,S.a_,lit [],lit [],⟨lit [],0⟩,⟨lit [],0⟩,B [] z,Ut (Ut (Ut (Ut (Ut (fr+out.len)+1)+o1.len)+1)+o3.len),z⟩],u⟩) (t:=o3) (by simp only[jx,jz];omega)
    rw[e4];simp only[ji];rw[zw (by omega)];exact⟨_,rfl,by rw[m4];simp only[m2,Dv,m1,m3,U3,G,rfk];simp⟩
theorem zxk {op:Uq}{n a:Int}{x y B1:Nd}{L1:List Fk}(h1:zhA B1 L1) (hz:zm ⟨16,op,n,a,⟨[x,y,B1],u⟩⟩<=40000) :
    zfn ⟨16,op,n,a,⟨[x,y,B1],u⟩⟩ (D::L1++[D]):=by
  have hs:zm ⟨16,op,n,a,⟨[x,y,B1],u⟩⟩=zm x+(zm y+zm B1)+1:=by rw[zl];simp[zf]
  have px:=Zh x;have py:=Zh y;refine⟨by have:=h1.1;grind,λF l hF hl=>?_,λF fr i n' out hi hn hF ho hi2=>?_⟩
  ·rw[zeO (.inr rfl)];unfold q2f q4n;obtain⟨ta,k0⟩:=zad ⟨16,op,n,a,⟨[x,y,B1],u⟩⟩ 0;obtain⟨tb,k1⟩:=zad ⟨16,op,n,a,⟨[x,y,B1],u⟩⟩ 1;have k0:q3m (⟨16,op,n,a,⟨[x,y,B1],u⟩⟩,0)=_:=k0;have k1:q3m (⟨16,op,n,a,⟨[x,y,B1],u⟩⟩,1)=_:=k1;have g2:zb (⟨[x,y,B1],u⟩:Sl Nd) 2=w B1:=rfl;simp only[k0,k1,ji,jk,g2,zn];rw[jv (by show¬((3:Int) < 3);omega),yy (by omega),ji];obtain⟨l2,e2,m2⟩:=h1.2.1 F ⟨l.xs++[⟨10,a,op,lit [],ta,tb,B [] z,0,z⟩],u⟩ (by omega) (by grind);have n2:=za7 m2;have q1:=h1.1;simp only[jx,jz] at n2;simp only[e2,ji];rw[yy (by omega)];simp only[ji];rw[zh (by grind)];simp (decide:=true) only [ji,jo,jj];refine⟨_,rfl,?_⟩;rw[zlA (by grind) (by rfl)];simp[m2,fk]
  · unfold q3c;have r0:=rk0 (n:=⟨16,op,n,a,⟨[x,y,B1],u⟩⟩) rfl;have r1:=rk1 (n:=⟨16,op,n,a,⟨[x,y,B1],u⟩⟩) rfl;have r2:zb (rN ⟨16,op,n,a,⟨[x,y,B1],u⟩⟩).K_ 2=w (rN B1):=by rw[zD];rfl
    simp only[jk];rw[ju (by simp only[zo];omega),zh hi,hn,ji];have hK:(rN ⟨16,op,n,a,⟨[x,y,B1],u⟩⟩).k_=16:=ZT _;generalize rN ⟨16,op,n,a,⟨[x,y,B1],u⟩⟩=S at *
    simp only[zk];simp (decide:=true) only [hK,jo,jp,ji,jq,jj,r0,r1,r2,zfm];obtain⟨o1,e1,m1⟩:=h1.2.2 F (Ut (Ut (fr+out.len)+1)) (by omega) (by omega);have n1:=congrArg C m1;have q1:=h1.1;simp only[Dn] at n1;rw[e1,ji,ZA (by omega) (by omega),ji]
    obtain⟨o2,e2,m2⟩:=zu2 (p:=q1u) (q:=q1q) (r:=q2a F) (a:=fr) (b:=(i:Int)) (c:=Ut (fr+out.len)) (d:=Ut (Ut (Ut (fr+out.len)+1)+o1.len)) (n:=n') (s:=S)
      (out:=⟨out.xs++[⟨10,S.a_,S.T_,lit [],⟨(rN x).T_,(rN x).n_⟩,⟨(rN y).T_,(rN y).n_⟩,B [] z,Ut (Ut (Ut (Ut (fr+out.len)+1)+o1.len)+1),z⟩],u⟩) (t:=o1) (by grind)
    have n2:=congrArg C m2;simp only[jx,jz] at n2;rw[e2];simp only[ji];rw[ju hK,ZA (by omega) (by omega)];simp only[ji];rw[zw (by omega)];exact⟨_,rfl,by simp only[m2,Dv,m1,U3,G,rfk];simp⟩
theorem zt5{s:Nd}(h:StmtG s)(hs:zm s<=40000):∃L,zfn s L/\VJ s L:=by
 have blk:∀(a:Int) (b:List Nd),(∀s∈b,StmtG s)->(∀s∈b,zm s<=40000->∃L,zfn s L/\VJ s L)->zm ⟨9,lit [],0,a,mkS b⟩<=40000->∃L,zhA ⟨9,lit [],0,a,mkS b⟩ L/\VJ ⟨9,lit [],0,a,mkS b⟩ L:=λa b _ ih hz=>zim λs hs=>ih s hs (by have:=@yF ⟨9,lit [],0,a,mkS b⟩ s hs;omega)
 induction h with
 | @ite op n a x y b1 a1 b2 a2 hx hy h1 h2 i1 i2=>
  obtain⟨L1,b1,f1⟩:=blk a1 _ h1 i1 (by rw[zl] at hs;simp[zf] at hs;omega);obtain⟨L2,b2,f2⟩:=blk a2 _ h2 i2 (by rw[zl] at hs;simp[zf] at hs;omega);refine⟨_,zxj b1 b2 hs,λp a d hd=>?_⟩;obtain⟨_,ak⟩:=a;simp only[K,UO,Uu,reduceCtorEq,false_or] at hd;rcases hd with hd | hd
  ·exact f1 p (ak _ (by simp)) d hd
  ·exact f2 p (ak _ (by simp)) d hd
 | @whl op n a x y b1 a1 hx hy h1 i1=>
  obtain⟨L1,b1,f1⟩:=blk a1 _ h1 i1 (by rw[zl] at hs;simp[zf] at hs;omega);refine⟨_,zxk b1 hs,λp a d hd=>?_⟩;obtain⟨_,ak⟩:=a;simp only[K,UO,Uu,reduceCtorEq,false_or,List.not_mem_nil,or_false] at hd;exact f1 p (ak _ (by simp)) d hd
 | @leaf k t n a c=>exact⟨_,vW (.leaf c) hs (by grind) (by grind),WJ _⟩
 |ret c=>exact⟨_,vW (.ret c) hs (by simp) (by simp),WJ _⟩
 |fork c=>exact⟨_,vW (.fork c) hs (by simp) (by simp),WJ _⟩
 |call c=>exact⟨_,vW (.call c) hs (by simp) (by simp),WJ _⟩
 |store c d=>exact⟨_,vW (.store c d) hs (by simp) (by simp),WJ _⟩
 |set c=>exact⟨_,vW (.set c) hs (by simp) (by simp),WJ _⟩
theorem zlB{k:Nd}(h:FnG k)(hs:zm k<=40000):∃c rc,q5j k=w c/\q26 (rN k)=w rc/\c.L_.xs.map fk=rc.2.2.xs.map rfk/\c.L_.xs.length<=40000/\VJ k (c.L_.xs.map fk):=by
 obtain⟨h6,ps,r,b,hk,hp,hr,hr8,hb⟩:=h;have hk':=congrArg Sl.xs hk;simp only at hk';obtain⟨a,l,rfl,hl⟩:=hb;have hsz:=yF (n:=k) (k:=⟨9,lit [],0,a,mkS l⟩) (by rw[hk'];simp);obtain⟨L,hL,hLF⟩:∃L,zhA ⟨9,lit [],0,a,mkS l⟩ L/\VJ ⟨9,lit [],0,a,mkS l⟩ L:=zim λs hs=>zt5 (hl s hs) (by have:=@yF ⟨9,lit [],0,a,mkS l⟩ s hs;omega)
 have hlen:k.K_.xs.length=ps.length+2:=by rw[hk'];simp
 have hkl:=@Zl k;have hq:=hL.1;have hsp:=Zh ⟨9,lit [],0,a,mkS l⟩
 obtain⟨⟨P,l1⟩,e1,e2,e3⟩:=go (f:=qcy q8r q2l) (n:=k.K_.xs.length) (A:=Sl Uq×Sl CIx) (st:=λi a=>(k.K_,k.K_.len,(i:Int),lit [],k.T_,a.1,a.2)) (fin:=λa=>(lit [],k.T_,a.1,a.2))
  (J:=λi a=>a.1.xs.length<=i/\a.2.xs.map fk=if i=k.K_.xs.length then L++[D] else [])
  (λi hi P hP=>by
   obtain⟨P,l1⟩:=P;obtain⟨hP,hl1⟩:=hP;simp only at hP hl1;rw[jv (by omega)] at hl1;unfold qcy;simp only[jk,zn];rw[ju (by simp only[zo];omega),zh hi,ji];have wk:=@zw i (by omega);by_cases c:i < ps.length
   ·have hx:k.K_.xs[i]=ps[i]:=by grind
    refine⟨(⟨P.xs++[k.K_.xs[i].T_],u⟩,l1),?_,by simp;omega,by grind⟩;rw[ju (by rw[hx];exact(hp _ (g9 c)).1),ZA (by omega) (by omega)];grind
   by_cases c2:i=ps.length
   ·have hx:k.K_.xs[i]=r:=by grind
    refine⟨(P,l1),?_,by grind,by grind⟩;grind
   ·obtain rfl:i=ps.length+1:=by omega
    have hx:k.K_.xs[ps.length+1]=⟨9,lit [],0,a,mkS l⟩:=by grind
    have h0:l1.xs=[]:=List.map_eq_nil_iff.1 hl1;obtain⟨l2,f1,f2⟩:=hL.2.1 100000 l1 (by omega) (by grind);have n2:=za7 f2;rw[h0,I] at n2;refine⟨(P,⟨l2.xs++[⟨14,a,lit [],lit [],⟨lit [],0⟩,⟨lit [],0⟩,B [] z,0,z⟩],u⟩),?_,by grind,by simp only[Dv,f2,hl1];rw[ju (by omega)];simp[fk]⟩;rw[hx,jv (by grind),ju (by rfl)];show(((((q2j 100000 (_,l1)).bind _)).bind _).bind _)=_;rw[f1,ji,yy (by omega)]
    grind)
  (λP hP=>by
   unfold qcy;simp only[jk]
   rw[jv (by simp only[zo];omega)])
  (a:=(B [] z,B [] z)) ⟨by simp,by grind⟩
 rw[ju rfl] at e3;have ek:(rN k).K_.xs=k.K_.xs.map rN:=by rw[zD]
 have ekl:(rN k).K_.xs.length=k.K_.xs.length:=by rw[ek];simp
 obtain⟨P2,g1,g2⟩:=go (f:=q4w q49) (n:=ps.length) (A:=Sl Uq) (st:=λi a=>(((ps.length+1:Nat):Int),(i:Int),rN k,lit [],k.T_,a)) (fin:=λa=>(((ps.length+1:Nat):Int),rN k,lit [],k.T_,a))
  (J:=λi a=>a.xs.length<=i)
  (λi hi P hP=>by
   refine⟨⟨P.xs++[((rN k).K_.xs[i]'(by omega)).T_],u⟩,?_,by simp;omega⟩;unfold q4w;simp only[jk,zk]
   rw[zK (by omega) (by omega),ju (by omega),zh (by omega),ji,ZA (by omega) (by omega),ji,zw (by omega)])
  (λP hP=>by
   unfold q4w;simp only[jk,zk]
   rw[zK (by omega) (by omega),jv (by omega)])
  (a:=B [] z) (by simp)
 obtain⟨out,o1,o2⟩:=hL.2.2 100000 0 (by omega) (by omega);have on:=congrArg C o2;simp only[Dn] at on;have hlast:zb (rN k).K_ ((ps.length+1:Nat):Int)=w (rN ⟨9,lit [],0,a,mkS l⟩):=by
  rw[zh (by omega)];grind
 have n3:=congrArg C e3;simp only[Dn,jx,jz] at n3;refine⟨⟨k.T_,P,l1⟩,(k.T_,P2,⟨out.xs++[⟨14,(rN ⟨9,lit [],0,a,mkS l⟩).a_,lit [],lit [],⟨lit [],0⟩,⟨lit [],0⟩,B [] z,0,z⟩],u⟩),?_,?_,?_,?_,?_⟩
 ·unfold q5j qer;rw[jv (by simp[h6])];exact congrArg (λo=>E o λy7:Uq×Uq×Sl Uq×Sl CIx=>w (q1e.mk y7.2.1 y7.2.2.1 y7.2.2.2)) e1
 ·unfold q26 q87;have hw:Ut ((rN k).K_.len - 1)=((ps.length+1:Nat):Int):=by rw[zo,ekl,hlen,zK (by omega) (by omega)];omega
  simp only[hw,zk];simp only[zX];have g1:lpO (q4w q49) (((ps.length+1:Nat):Int),0,rN k,lit [],k.T_,B [] z)=_:=g1;have o1:q49 (rN ⟨9,lit [],0,a,mkS l⟩,0)=_:=o1;rw[g1];simp only[ji,hlast,zk,o1];rw[ZA (by omega) (by omega)];rfl
 ·simp only[e3,Dv,o2];rfl
 ·grind
 ·intro p a d hd;obtain⟨_,ak⟩:=a;simp only[e3,Uu,Dl,reduceCtorEq,or_false] at hd;exact hLF p (ak _ (by rw[hk'];simp)) d hd
end Go.Px
