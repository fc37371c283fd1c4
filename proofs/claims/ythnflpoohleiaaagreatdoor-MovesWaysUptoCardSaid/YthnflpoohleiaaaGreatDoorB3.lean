/- Part B3. -/
import Derived.Test.YthnflpoohleiaaaGreatDoorA3
set_option linter.unusedSectionVars false
set_option linter.unusedVariables false
set_option linter.unusedSimpArgs false
namespace Go.Px
open Bool renaming true->G,false->I,and_eq_true_iff->qo
open Go.Builtin renaming copy_->qk,lenOf->qv,firstCells->qx
open List renaming range->Y,cons_eq_cons->qs,range'->qA,map_map->qB,length_set->qC,getElem?_replicate->qD,getElem?_eq_none_iff->qE
open Nat renaming beq->M,blt->O,ble->W,min->qy
open _root_.Option renaming some->E,none->F,some->V
section
theorem D0:∀{m n : Nat},m∈Y n↔m < n:=@List.mem_range
theorem Dz:∀{α:Type _}{p:α->Bool}{«as»:List α}{x:α},x∈List.filter p «as»↔x∈«as»/\p x=true:=@List.mem_filter
variable [Dfr]
section
variable {ρ:Type}{n:Nat}{w0:Start}{σ0 Z:FS}{p:Uv ρ}{L:List (Nat×Value)}{b:Nat->Value}{PV:List Priv}{P:Program}
variable {H:Uv ρ->List (Nat×Value)->FS->List Priv->Prop}{d:Nat}{v:Value}{t t' ty:TypeId}{ps:String}{af:Array Edge}{g:Uv (Nat×Bool)}{x y z:Operand}{k:IntKind}{i j:Int}
theorem zc.put_disj{c f:zc}{q off:Nat}{vs:List Value}(a:∀j,j < vs.length->(c q (off+j+1)).isSome)(g:c.disj f):(c.put q off vs).disj f:=λb d=>by
 cases e:c.put q off vs b d with
 |none=>exact .inl rfl
 |some y=>
  have:=zc.put_dom a (by rw[e];rfl);rcases g b d with z | z
  all_goals grind
theorem WW {α:Type}{T:OTy α}{e:TypeId}{s:Sl α}{ti:TypeInfo}{q q':α}{us:List Value}{off:Nat}(A C:List Priv) (hi':P.info? t=E ti) (l:opv L b x = .pointer (E (zi v (i.toNat * T.size+off)))) (hy:(opv L b y).cells.toList=us)
    (hs:ti.size=us.length) (h0:0 < us.length) (hone:∀u∈us,u.oneCell'=G) (hq:za s i=E q) (hoff:off+us.length<=T.size)
    (hr:∀g gA k cs,T.rel Z g cs q->Sep Z A gA->g.disj gA->g.le k->gA.le k->T.rel Z k (cs.take off++us++cs.drop (off+us.length)) q')
    (h:H p L Z (.row T e v (s.set i q')::C)):Xk P n w0 σ0 ⟨F,.store t x y,ty,ps,af,g⟩ p L b Z (.row T e v s::(A++C)) H:=by
 intro r hp a w hi hf K Q hK;have hne:us≠[]:=jE
 have hsz:(opv L b y).cells.size=us.length:=jE
 have hi0:Inv w0 σ0 Z ((.row T e v s::A)++C) w:=hi;refine Exists.elim (hi0.replace (R:=λw' A'=>(execOp a.eval ⟨F,.store t x y,ty,ps,af,g⟩).run P w = .ok .skip w'/\A'=[Priv.row T e v (s.set i q')]) ?_) ?_
 · intro hA sA c;let⟨f1,m,k1,k2,l1,l2,dd⟩:=Sep.uncons sA;let⟨U,g2,m1,m2,n1,n2,d3⟩:=(VD (v:=v) (e:=e) (i:=i) k1 hq).uncons;let⟨cs,c1,c2,p1,p2,p3,p4,p5⟩:=m2.one_of;have hcl:cs.length=T.size:=T.len p5;have o:c1.le hA:=p1.trans (n2.trans l1);have l22:c2.le hA:=p2.trans (n2.trans l1);have hsp:=p4.1;have hadd:(zi v (i.toNat * T.size)).add off=⟨(zi v (i.toNat * T.size)).block,(zi v (i.toNat * T.size)).off+off,F⟩:=Addr.add_eq _ hsp off;have d:∀j,j < us.length->∃y,c1 (zi v (i.toNat * T.size)).block ((zi v (i.toNat * T.size)).off+off+j+1)=E (.cell y):=λj X=>
     ⟨_,by rw[(Zd:(zi v (i.toNat * T.size)).off+off+j=(zi v (i.toNat * T.size)).off+(off+j))];exact p4.2 (off+j) _ (UC Zd)⟩
   have hlt2:(zi v (i.toNat * T.size)).block < w.heap.size:=by
    let⟨y,hy⟩:=d 0 Zd;exact Bit.at_lt (c _ _ _ (o _ _ _ hy))
   let⟨w',j1,j2,j3⟩:=VC (P:=P) (c.mono o) hlt2 d hone hne;have B:∀j,j < us.length->(c1 (zi v (i.toNat * T.size)).block ((zi v (i.toNat * T.size)).off+off+j+1)).isSome:=λj X=>jE
   generalize N:c1.put (zi v (i.toNat * T.size)).block ((zi v (i.toNat * T.size)).off+off) us=cp at *
   have S:∀{f:zc},c1.disj f->cp.disj f:=λ{f} df=>by rw[<- N];exact zc.put_disj B df
   have hdom:∀b D,(cp b D).isSome->(c1 b D).isSome:=λb D l=>by rw[<- N] at l;exact zc.put_dom B l
   have dcg:c1.disj U:=(d3.mono (.refl _) p1).symm;have d2g:c2.disj U:=(d3.mono (.refl _) p2).symm;have dcA:c1.disj m:=dd.mono (p1.trans n2) (.refl _);have d2A:c2.disj m:=dd.mono (p2.trans n2) (.refl _);have dgA:U.disj m:=dd.mono n1 (.refl _);have z:Z3 (zi v (i.toNat * T.size)) (cs.take off++us++cs.drop (off+us.length)) cp:=by
    refine⟨hsp,λj u X=>?_⟩;rw[xu Zd rfl] at X;rw[<- N];split at X
    ·rw[(Zd:(zi v (i.toNat * T.size)).off+j+1=(zi v (i.toNat * T.size)).off+off+(j - off)+1)];exact zc.put_in X
    ·rw[zc.put_out Zd];exact p4.2 j u X
   have hnew:=hr c2 m (c2.or m) cs p5 k2 d2A (zc.le_or _ _) (zc.le_or_right d2A);have dn:cp.disj (c2.or m):=(zc.or_disj (S p3).symm (S dcA).symm).symm;have dg:U.disj (cp.or (c2.or m)):=(zc.or_disj (S dcg) (zc.or_disj d2g dgA.symm)).symm;refine⟨w',_,U.or (cp.or (c2.or m)),⟨?_,rfl⟩,.one ?_,?_,j3.mono o,λb D l =>.inl ?_⟩
   · rw[hf.eval];have he:(⟨(zi v (i.toNat * T.size)).block,(zi v (i.toNat * T.size)).off+off,F⟩:Addr)=zi v (i.toNat * T.size+off):=by rw[<- Yw,hadd]
     rw[he] at j1;simp only[execOp,Instr.storeAt,Instr.sureAddr,l,storeVar,sizeOf,typeInfo,UP,UN,UR,UQ,hi',hsz,hs,Dc,not_true,jp,hy,j1]
   ·exact m1 Z _ q' _ (.refl _) dg ⟨_,cp,c2.or m,zc.le_or _ _,zc.le_or_right dn,dn,z,hnew⟩ (zc.le_or _ _) (zc.le_or_right dg)
   ·exact zc.or_sub (j3.frag dcg (c.mono (n1.trans l1))) (zc.or_sub j2 (zc.or_sub (j3.frag p3 (c.mono l22)) (j3.frag dcA (c.mono l2))))
   · unfold zc.or at l;cases hx1:U b D with
     |some y=>exact(n1.trans l1).isSome (by simp[hx1])
     |none=>
      rw[hx1] at l;cases hx2:cp b D with
      |some y=>exact o.isSome (hdom b D (by rw[hx2];rfl))
      |none=>
       rw[hx2] at l;cases hx3:c2 b D with
       |some y=>exact l22.isSome (by rw[hx3];rfl)
       |none=>rw[hx3] at l;exact l2.isSome (by simpa using l)
 ·rintro w' ⟨A',⟨hrun,rfl⟩,hi2⟩;unfold Oper.wp;rw[hrun,Oper.upon_skip];exact hK _ _ Z _ _ _ hp hi2 hf h
end
section
variable {κ:Kp}{C:Cod}{S:St C}{ν:Val}{vs:Nat->List Value}{ids:List Nat}{L:List (Nat×Value)}{b:Nat->Value}{Z:FS}{PV:List Priv}{P:Program}
variable {t t' ty:TypeId}{x y z:Operand}{d id:Nat}{pv:Priv}{ps:String}{af:Array Edge}{g:Uv (Nat×Bool)}{A:AV C.D}{n:Nat}{w0:Start}{σ0:FS}{o:Oper}{X:Uv (Out C)}
theorem AbsL.front1(h:AbsL κ S ν vs ids L b Z PV){id:Nat}{e:Ent C}(h1:S.heap id=E e):∃a PV',AbsL κ S ν vs (id::a) L b Z (zK C ν vs id (E e)::PV')/\∀w,Inv w0 σ0 Z PV w->Inv w0 σ0 Z (zK C ν vs id (E e)::PV') w:=by
 let⟨m,c,hid⟩:=h.at h1;exact⟨_,_,h.front hid c⟩
theorem AbsL.front2 (h:AbsL κ S ν vs ids L b Z PV) {id id2:Nat}{e c:Ent C}(i:id≠id2) (h1:S.heap id=E e) (h2:S.heap id2=E c) :
    ∃a PV',AbsL κ S ν vs (id::id2::a) L b Z (zK C ν vs id (E e)::zK C ν vs id2 (E c)::PV')/\∀w,Inv w0 σ0 Z PV w->Inv w0 σ0 Z (zK C ν vs id (E e)::zK C ν vs id2 (E c)::PV') w:=by
 let⟨d,g,f,l⟩:=h.front1 (w0:=w0) (σ0:=σ0) h2;let⟨m,j,hid⟩:=f.at h1;cases m with
 |zero=>grind
 |succ m=>
  let⟨k,n⟩:=f.front (w0:=w0) (σ0:=σ0) hid j;grind
theorem AbsL.setO0 (h:AbsL κ S ν vs (id::ids) L b Z (pv::PV)) {e e':Ent C}(r:S.heap id=E e) (s:∀cs,e' ≠.cell cs) (m:Z1 (E e')=G->Z1 (E e)=true:=by first | exact λh=>h | exact λh=>by cases h) :
    AbsL κ {S with heap:=upd S.heap id (E e')} ν vs (id::ids) L b Z (zK C ν vs id (E e')::PV):=by
 have f:∀j,(S.heap j).isSome=(upd S.heap id (E e') j).isSome:=λj=>by
  by_cases d:j=id
  ·subst d;rw[zp,r];rfl
  ·rw[zq d]
 have o:=U7.1 h.nd;have i:PV=ids.map λj=>zK C ν vs j (S.heap j):=by have:=h.pv;grind
 refine⟨⟨h.nd,λj=>?_,?_,λj c a=>?_,h.env,h.one⟩,λt=>?_,λj c a=>?_,λk n hs=>have q:=h.keep k n jE;⟨q.1,q.2.1,λl=>q.2.2 (zbM (λh=>jE) l)⟩⟩
 ·show _↔(upd S.heap id (E e') j).isSome=G;rw[<- f];exact h.dom j
 · rw[U8];refine qs.2 ⟨by show _=zK C ν vs id (upd S.heap id (E e') id);rw[zp],?_⟩;rw[i];refine Ds λj a=>?_
   have g:j≠id:=λd=>jE
   show zK C ν vs j (S.heap j)=zK C ν vs j (upd S.heap id (E e') j);rw[zq g]
 · have a:upd S.heap id (E e') j=_:=a;by_cases d:j=id
   ·subst d;rw[zp] at a;grind
   ·rw[zq d] at a;exact h.cell j c a
 ·exact AV.ok_mono (λj a=>jE) (h.live t)
 · have a:upd S.heap id (E e') j=_:=a;refine AV.oks_mono (p:=λid=>(S.heap id).isSome=G) (λj a=>jE) ?_;by_cases d:j=id
   ·subst d;rw[zp] at a;grind
   ·rw[zq d] at a;exact h.livec j c a
theorem zsW{q:Nat->Bool}{o:Uv (Ent C)}:Z1 (o.map (Ent.knx q))=Z1 o:=by
 cases o with
 |none=>rfl
 |some e=>cases e<;>rfl
def St.owk(S:St C)(id:Nat)(e:Ent C):St C:=
 {env:=λt=>AV.knx (λj=>M j id) (S.env t),heap:=λj=>bif M j id then E e else(S.heap j).map (Ent.knx λj=>M j id)}
theorem AbsL.setO (h:AbsL κ S ν vs (id::ids) L b Z (pv::PV)) {e:Ent C}(H:S.heap id=E e) {T:Nat}{s:Sl (C.D T)}{g:Own}{sub:Nat->Value}(o:g.isFix=I) :
    AbsL κ (S.owk id (.orow T s g)) {hdr:=ν.hdr,adr:=upd ν.adr id ⟨(ν.adr id).a,sub⟩ } vs (id::ids) L b Z (.row (Ze C T) T (ν.hdr id) (hpl C T sub s g)::PV):=by
 let ν':Val:={hdr:=ν.hdr,adr:=upd ν.adr id ⟨(ν.adr id).a,sub⟩ }
 let q:Nat->Bool:=λj=>M j id
 have hd:∀j,j≠id->(S.owk id (.orow T s g)).heap j=(S.heap j).map (Ent.knx q):=λj d=>by
  show(bif M j id then _ else _)=_;cases f:M j id with
  |true=>exact absurd (ge f) d
  |false=>rfl
 have l:(S.owk id (.orow T s g)).heap id=E (.orow T s g):=by
  show(bif M id id then _ else _)=_;simp
 have u:∀j,(S.heap j).isSome=((S.owk id (.orow T s g)).heap j).isSome:=λj=>by
  grind
 have w:∀j,(S.heap j).isSome=G->ν.hdr j=ν'.hdr j/\(ν.adr j).a=(ν'.adr j).a:=λj _=>by
  refine⟨rfl,?_⟩;show _=(upd ν.adr id ⟨(ν.adr id).a,sub⟩ j).a;by_cases f:j=id
  ·subst f;rw[zp]
  ·rw[zq f]
 have hs:∀j,(S.heap j).isSome=G->q j=I->(ν.adr j).sub=(ν'.adr j).sub:=λj _ x=>by
  show _=(upd ν.adr id ⟨(ν.adr id).a,sub⟩ j).sub;rw[zq λf=>by subst f;simp[q] at x]
 have A:=U7.1 h.nd;have r:PV=ids.map λj=>zK C ν vs j (S.heap j):=by have:=h.pv;grind
 have i:∀j c,(S.owk id (.orow T s g)).heap j=E (.cell c)->∃c0,S.heap j=E (.cell c0)/\c=AV.knxs q c0:=λj c d=>by
  by_cases f:j=id
  ·grind
  · rw[hd j f] at d;cases p:S.heap j with
    |none=>grind
    |some v=>
     rw[p] at d;cases v with
     |cell c0=>cases d;grind
     |row T s=>cases d
     |obj k T b s=>cases d
     |orow T s g=>cases d
 refine⟨⟨h.nd,λj=>?_,?_,λj c d=>?_,λt=>?_,h.one⟩,λt=>?_,λj c d=>?_,λk z y=>?_⟩
 ·rw[<- u];exact h.dom j
 · rw[U8];refine qs.2 ⟨?_,?_⟩
   ·rw[l];show _=Priv.row (Ze C T) T (ν.hdr id) (hpl C T (upd ν.adr id ⟨(ν.adr id).a,sub⟩ id).sub s g);rw[zp]
   · rw[r];refine Ds λj d=>?_
     have m:j≠id:=λf=>jE
     rw[hd j m];have B:upd ν.adr id ⟨(ν.adr id).a,sub⟩ j=ν.adr j:=zq m;cases S.heap j with
     |none=>rfl
     |some v=>cases v<;>simp[zK,Ent.knx,B]
 ·obtain⟨c0,h1,rfl⟩:=i j c d;exact VRs.knx w hs (h.livec j c0 h1) (h.cell j c0 h1)
 ·exact VR.knx w hs (h.live t) (h.env t)
 ·exact AV.ok_mono (λj d=>jE) (AV.ok_knx (h.live t))
 ·obtain⟨c0,h1,rfl⟩:=i j c d;exact AV.oks_mono (λj d=>jE) (AV.oks_knx (h.livec j c0 h1))
 · have h1:(S.heap k).isSome=true:=jE
   have:=h.keep k z h1;refine⟨this.1,(w k h1).2.symm.trans this.2.1,λn=>?_⟩;by_cases f:k=id
   ·subst f;rw[l] at n;exact absurd n (by show¬ g.isFix=G;rw[o];simp)
   ·refine Eq.trans (congrArg Loc.sub (zq f)) (this.2.2 ?_);rw[hd k f,zsW] at n;exact n
theorem zcc {T:Nat}{sub:Nat->Value}{s:Sl (C.D T)}{v:Value}{h:zc}{i:Int}{q:C.D T}{U:Nat}{u:Sl (C.D U)}{c:Bool}(A:zn (Ze C T) T v (hpl C T sub s .all) Z h) (m:za s i=E q) (N:Zo C T q = .sl U u c) :
    Sep Z [.row (zC C U).o U (sub i.toNat) u,.row (Ze C T) T v (hpl C T sub s (.out i))] h:=by
 let⟨h1,h2,H,z,B,k,l⟩:=(VD (v:=v) (e:=T) (i:=i) A (WK m)).uncons;let⟨cs,c1,c2,n,f,Q,y,d⟩:=z.one_of;have d:yZ C T Z c2 cs (q,Own.all.fl i.toNat,sub i.toNat):=d;let⟨R,K,t,L,k5,S⟩:=d;let⟨X,u',p,P⟩:=S rfl;rw[N] at p;cases p;have r:h1.disj c1:=l.mono (.refl _) n;have w:h1.disj c2:=l.mono (.refl _) f;have a:(Priv.row (Ze C T) T v ((hpl C T sub s .all).set i (q,(Own.out i).fl i.toNat,sub i.toNat))).holds Z (h1.or c1):=by
  refine H Z c1 _ _ (.refl _) r ⟨cs,c1,zc.none,.refl _,zc.none_le _,zc.disj_none _,y,?_⟩ (zc.le_or _ _) (zc.le_or_right r);exact⟨R,K,t,L,λe=>by simp[Own.fl] at e,λe=>by simp[Own.fl] at e⟩
 have x:(hpl C T sub s .all).set i (q,(Own.out i).fl i.toNat,sub i.toNat)=hpl C T sub s (.out i):=by
  rw[zd9 (g :=.all) (g' :=.out i) (sub':=sub) (q':=q) λj hj b=>⟨by simp[Own.fl,b],rfl⟩,Sl.set_same m]
 rw[x] at a;refine .cons (h1:=c2) (h2:=h1.or c1) P (Sep.one a) (f.trans k) (zc.or_le B (n.trans k)) ?_;exact(zc.or_disj w Q).symm
theorem ziC {T:Nat}{sub:Nat->Value}{s:Sl (C.D T)}{v:Value}{h:zc}{i:Int}{q q':C.D T}{U:Nat}{c:Sl (C.D U)}(hs:Sep Z [.row (zC C U).o U (sub i.toNat) c,.row (Ze C T) T v (hpl C T sub s (.out i))] h) (N:za s i=E q)
    (P:Zo C T q' = .sl U c I) (ho:∀(j:Nat),j≠C.nst T->(C.emb T q')[j]?=(C.emb T q)[j]?):zn (Ze C T) T v (hpl C T sub (s.set i q') .all) Z h:=by
 let⟨b,x,g,k,S,l2,n⟩:=hs.uncons;have g:zn (zC C U).o U (sub i.toNat) c Z b:=g;have k:zn (Ze C T) T v (hpl C T sub s (.out i)) Z x:=k.one_of;let⟨h1,h2,z,w,l,m,K⟩:=(VD (v:=v) (e:=T) (i:=i) k (WK N)).uncons;let⟨cs,c1,c2,f,p2,p3,u,L⟩:=w.one_of;let⟨X,B,k3,H,k5,k6⟩:=(L:yZ C T Z c2 cs (q,(Own.out i).fl i.toNat,sub i.toNat));have R:h1.disj c1:=K.mono (.refl _) f;have r:h1.disj b:=(n.mono (.refl _) l).symm;have p:c1.disj b:=(n.mono (.refl _) (f.trans m)).symm;have Q:h1.disj (c1.or b):=(zc.or_disj R.symm r.symm).symm;have a:(Priv.row (Ze C T) T v ((hpl C T sub s (.out i)).set i (q',Own.all.fl i.toNat,sub i.toNat))).holds Z h:=by
  refine z Z (c1.or b) _ h (.refl _) Q ⟨cs,c1,b,zc.le_or _ _,zc.le_or_right p,p,u,?_⟩ (l.trans l2) (zc.or_le ((f.trans m).trans l2) S);refine⟨X,B,λj A y hn=>?_,H,λe=>by simp[Own.fl] at e,λ_=>⟨U,c,P,g⟩⟩;grind
 have t:(hpl C T sub s (.out i)).set i (q',Own.all.fl i.toNat,sub i.toNat)=hpl C T sub (s.set i q') .all:=zd9 λj y d=>⟨by simp[Own.fl,d],rfl⟩
 rw[t] at a;exact a
end
end
section
variable [Dfr]
def Vs:Own->Int->Uv Own
 | .all,_=>E .all
 | .out j,i=>chk (decide (i=j)) (E .all)
 | .upto k,i=>chk (decide (i=k)) (E (.upto (k+1)))
 | .fix,_=>F
def zfy{α:Type}(g:Own)(i:Int)(K:Own->Uv α):Uv α:=match g with
 | .all=>K .all
 | .out j=>chk (decide (i=j)) (K .all)
 | .upto k=>chk (decide (i=k)) (K (.upto (k+1)))
 | .fix=>F
theorem vl{α:Type}{g:Own}{i:Int}{K:Own->Uv α}:zfy g i K=(Vs g i).bind K:=by
 cases g with
 |all=>rfl
 |out j=>exact(zx (x:=E Own.all)).symm
 |upto k=>exact(zx (x:=E (Own.upto (k+1)))).symm
 |fix=>rfl
theorem zoE{g g':Own}{i:Int}(h:Vs g i=E g')(h0:0<=i):g'.fl i.toNat=1/\∀j,j≠i.toNat->g'.fl j=g.fl j:=by
 cases g with
 |all=>cases h;exact⟨rfl,λ_ _=>rfl⟩
 |out j=>
  let⟨e,h2⟩:=zb h;have e:=Dn e;subst e;cases h2;exact⟨rfl,λj a=>by simp[Own.fl,a]⟩
 |fix=>cases h
 |upto k=>
  let⟨e,h2⟩:=zb h;have e:=Dn e;subst e;cases h2;refine⟨?_,λj a=>?_⟩
  ·show(if i.toNat < (i+1).toNat then 1 else 0)=1;grind
  ·show(if j < (i+1).toNat then 1 else 0)=(if j < i.toNat then 1 else 0);grind
theorem zfe{g g':Own}{i:Int}(h:Vs g i=E g'):g'.isFix=false:=by
 cases g with
 |all=>cases h;rfl
 |out j=>let⟨_,h2⟩:=zb h;cases h2;rfl
 |fix=>cases h
 |upto k=>let⟨_,h2⟩:=zb h;cases h2;rfl
section
variable {C:Cod}{Z:FS}{ν:Val}
theorem zkT{D:Nat->Type}{A B:AV D}(h:leA A B)(hb:A.base=G):B=A:=by
 rcases h with h | ⟨T,s,c,rfl,rfl⟩ | ⟨T,c,rfl,rfl⟩
 ·exact h.symm
 ·have:c=false:=by simpa[AV.base] using hb
  rw[this]
 ·cases hb
theorem zcd{D:Nat->Type}:∀{c bs:List (AV D)},zfk c bs->∀{j:Nat}{B:AV D},bs[j]?=E B->∃A,c[j]?=E A/\leA A B
 |[],[],_,j,B,h=>by simp at h
 |a::c,b::bs,⟨h,k⟩,0,B,e=>jE
 |a::c,b::bs,⟨h,k⟩,j+1,B,e=>by simpa using zcd k (j:=j) (by simpa using e)
 |[],_::_,h,_,_,_=>h.elim
 |_::_,[],h,_,_,_=>h.elim
theorem zdG{T:Nat}{cs:List (AV C.D)}{q:C.D T}(h:C.imp T cs=E q){j:Nat}{A:AV C.D}(f:cs[j]?=E A)(hb:A.base=G):(C.emb T q)[j]?=E A:=by
 have b:=C.imp_ok T cs q h;have d:=zko b;have a:j < (C.emb T q).length:=jE
 let⟨A',c,e⟩:=zcd b (UC a);rw[f] at c;cases c;rw[UC a,zkT e hb]
def WX{D:Nat->Type}(off:Nat)(cs us:List (AV D)):List (AV D):=cs.take off++us++cs.drop (off+us.length)
theorem zfz{D:Nat->Type}{cur us:List (AV D)}{o:Nat}(b:o+us.length<=cur.length)(j:Nat):(WX o cur us)[j]?=if o<=j/\j < o+us.length then us[j - o]? else cur[j]?:=by
 have a:(cur.take o).length=o:=ji
 unfold WX;by_cases h1:j < o
 ·grind
 ·by_cases h2:j < o+us.length
  ·rw[jv ⟨Zd,h2⟩,UV,UW Zd,a,UX Zd]
  ·rw[jx Zd,UW jE,Db];grind
theorem ziD {T off:Nat}{g:zc}{cs us:List Value}{q q':C.D T}{f:Nat}{v0:Value}{cells cells':List (AV C.D)}(r:yZ C T Z g cs (q,f,v0)) (h:VRs C Z ν us cells) (o:∀u∈us,u.oneCell'=G) (i:cells'.length=cells.length) (l:off+us.length<=C.size T)
    (p:C.imp T (WX off (C.emb T q) cells')=E q') (v:∀(j:Nat) A,cells'[j]?=E A->off+j≠C.nst T->cells[j]?=E A) :
    (cs.take off++us++cs.drop (off+us.length)).length=C.size T/\(∀u∈cs.take off++us++cs.drop (off+us.length),u.oneCell'=G)/\
    ∀(j:Nat) A,(C.emb T q')[j]?=E A->j≠C.nst T->∃u,(cs.take off++us++cs.drop (off+us.length))[j]?=E u/\Rv C Z u A:=by
 have w:=r.1;refine⟨jE,λu a=>?_,λj A n s=>?_⟩
 · rcases Ux.1 a with a | a
   · rcases Ux.1 a with a | a
     ·exact r.2.1 u (List.mem_of_mem_take a)
     grind
   ·exact r.2.1 u (List.mem_of_mem_drop a)
 · let⟨B,c,m⟩:=zcd (C.imp_ok T _ q' p) n;have hb:=C.base T q' A (UM n);rw[xu Zd rfl];have t:(C.emb T q).length=C.size T:=C.len T q;have k:=h.len;rw[zfz Zd] at c;rw[i,<- k] at c;split
   ·rename_i e;rw[jv e] at c;have:=v _ _ c Zd;let⟨u,b,d⟩:=h.get _ _ this;exact⟨u,b,(zf7 d m).rv hb⟩
   ·rename_i e;rw[jx e] at c;let⟨u,b,d⟩:=r.2.2.1 j B c s;refine⟨u,b,?_⟩;rw[zkT m (C.base T q B (UM c))];exact d
theorem zsX {T off:Nat}{g k:zc}{cs us:List Value}{q q':C.D T}{f:Nat}{v0:Value}{cells:List (AV C.D)}(r:yZ C T Z g cs (q,f,v0)) (b:VRs C Z ν us cells) (c:∀u∈us,u.oneCell'=G) (a:off+us.length<=C.size T)
    (d:C.imp T (WX off (C.emb T q) cells)=E q') (x:C.nst T < off\/off+us.length<=C.nst T) (l:g.le k):yZ C T Z k (cs.take off++us++cs.drop (off+us.length)) (q',f,v0):=by
 let⟨h1,h2,o⟩:=ziD r b c rfl a d λj A h _=>h
 have t:=r.1;have m:(C.emb T q).length=C.size T:=C.len T q;have p:=b.len;have v:=r.nlt;have i:Zo C T q'=Zo C T q:=by
  unfold Zo;have:(C.emb T q)[C.nst T]?=E ((C.emb T q)[C.nst T]' Zd):=UC Zd;rw[this];have e:(WX off (C.emb T q) cells)[C.nst T]?=E ((C.emb T q)[C.nst T]' Zd):=by
   rw[zfz Zd,jx Zd];exact this
  rw[zdG d e (C.base T q _ (UM this))]
 refine⟨h1,h2,o,?_,λe=>?_,λe=>?_⟩
 ·rw[xu Zd rfl,jx Zd];exact r.2.2.2.1
 ·show Rv C Z v0 (Zo C T q');rw[i];exact r.2.2.2.2.1 e
 ·let⟨U,s,w,n⟩:=r.2.2.2.2.2 e;exact⟨U,s,jE,n.mono (.refl _) l⟩
theorem ziE {T off U:Nat}{g gA k:zc}{cs us:List Value}{q q':C.D T}{f:Nat}{v0 v:Value}{cells:List (AV C.D)}{u:Sl (C.D U)}(r:yZ C T Z g cs (q,f,v0)) (b:VRs C Z ν us cells) (c:∀u∈us,u.oneCell'=G) (a:off+us.length<=C.size T)
    (i:C.imp T (WX off (C.emb T q) (cells.set (C.nst T - off) (.sl U u I)))=E q') (w:off<=C.nst T/\C.nst T < off+us.length) (x:us[C.nst T - off]?=E v) (d:zn (zC C U).o U v u Z gA) (l:gA.le k) :
    yZ C T Z k (cs.take off++us++cs.drop (off+us.length)) (q',1,v):=by
 have p:=b.len;let⟨h1,h2,n⟩:=ziD (cells':=cells.set (C.nst T - off) (.sl U u I)) r b c je a i λj A h t=>by
  grind
 have s:=r.1;have m:(C.emb T q).length=C.size T:=C.len T q;refine⟨h1,h2,n,?_,λe=>(by cases e),λ_=>⟨U,u,?_,d.mono (.refl _) l⟩⟩
 ·grind
 · show Zo C T q'=_;unfold Zo;have e:(WX off (C.emb T q) (cells.set (C.nst T - off) (.sl U u I)))[C.nst T]?=E (.sl U u I):=by
     rw[zfz jE,jv jE,UB,jv rfl,jv Zd]
   rw[zdG i e rfl];rfl
end
section
variable {κ:Kp}{C:Cod}{S:St C}{ν:Val}{vs:Nat->List Value}{ids:List Nat}{L:List (Nat×Value)}{b:Nat->Value}{Z:FS}{PV:List Priv}{P:Program}{ρ:Type}
variable {t t' ty:TypeId}{x y z:Operand}{d id:Nat}{pv:Priv}{ps:String}{af:Array Edge}{g:Uv (Nat×Bool)}{A:AV C.D}{n:Nat}{w0:Start}{σ0:FS}{o:Oper}{X:Uv (Out C)}
def wC(S:St C)(id T:Nat)(s:Sl (C.D T))(g:Own)(i:Int)(off:Nat)(cells:List (AV C.D))(K:Out C->Uv ρ):Uv ρ:=match cells[C.nst T - off]? with
 |some (.row id2)=>(match S.heap id2 with
  |some (.row U u)=>chk (!M id id2) ((za s i).bind λq=>zfy g i λg'=>(C.imp T (WX off (C.emb T q) (cells.set (C.nst T - off) (.sl U u I)))).bind λq'=>
      K (.go ((S.sub id2 .und).owk id (.orow T (s.set i q') g'))))
  |_=>F)
 |some .nils=>(za s i).bind λq=>(match Zo C T q with
  | .sl U _ _=>zfy g i λg'=>(C.imp T (WX off (C.emb T q) (cells.set (C.nst T - off) (.sl U ⟨[],I⟩ I)))).bind λq'=>K (.go (S.owk id (.orow T (s.set i q') g')))
  |_=>F)
 |_=>F
def VP(S:St C)(ti:TypeInfo)(y:Operand)(off N:Nat):Bool:=YS (S.op y) && (M ti.size (zt (S.op y)).length && (W (off+(zt (S.op y)).length) N && O 0 (zt (S.op y)).length))
def Xb(off n k:Nat):Bool:=W off k && O k (off+n)
def XD(P:Program)(S:St C)(t:TypeId)(x y:Operand)(K:Out C->Uv ρ):Uv ρ:=
 match P.info? t,S.op x with
 |some ti,.pr id T i off=>(match S.heap id with
  |some (.orow T' s g)=>chk (M T T' && VP S ti y off (C.size T'))
      (bif Xb off (zt (S.op y)).length (C.nst T') then wC S id T' s g i off (zt (S.op y)) K
      else(za s i).bind λq=>(C.imp T' (WX off (C.emb T' q) (zt (S.op y)))).bind λq'=>K (.go {S with heap:=upd S.heap id (E (.orow T' (s.set i q') g))}))
  |some (.row T' s)=>chk (M T T' && (VP S ti y off (C.size T') && Xb off (zt (S.op y)).length (C.nst T'))) (wC S id T' s (.upto 0) i off (zt (S.op y)) K)
  |_=>F)
 |some ti,.nx id T i (.elem U k off)=>(match S.heap id with
  |some (.orow T' s .all)=>chk (M T T' && VP S ti y off (C.size U)) ((za s i).bind λq=>(match Zo C T' q with
   | .sl a u _=>chk (M U a) ((za u k).bind λc=>(C.imp a (WX off (C.emb a c) (zt (S.op y)))).bind λb=>
       (C.imp T' ((C.emb T' q).set (C.nst T') (.sl a (u.set k b) I))).bind λq'=>K (.go {S with heap:=upd S.heap id (E (.orow T' (s.set i q') .all))}))
   |_=>F))
  |_=>F)
 |_,_=>F
def xR(P:Program)(S:St C)(t:TypeId)(x y:Operand):Uv (Out C):=XD P S t x y E
theorem zkU{id T:Nat}{s:Sl (C.D T)}{g:Own}{i:Int}{off:Nat}{cells:List (AV C.D)}{K:Out C->Uv ρ}:wC S id T s g i off cells K=(wC S id T s g i off cells E).bind K:=by
 unfold wC;simp only[vl];split
 ·split
  ·simp only[zx,gh,jj]
  ·rfl
 ·rw[gh];congr 1;funext q;split
  all_goals grind
 ·rfl
theorem zkV{K:Out C->Uv ρ}:XD P S t x y K=(xR P S t x y).bind K:=by
 unfold xR XD;split
 ·split
  ·rw[zx];congr 1;cases Xb _ _ _ with
   |true=>exact zkU
   |false=>grind
  ·rw[zx,<- zkU]
  ·rfl
 ·split
  ·rw[zx,gh];congr 1;congr 1;funext q;split
   ·simp only[zx,gh,jj]
   ·rfl
  ·rfl
 ·rfl
theorem zbp{ti:TypeInfo}{off N:Nat}(h:VP S ti y off N=G):YS (S.op y)=G/\ti.size=(zt (S.op y)).length/\off+(zt (S.op y)).length<=N/\0 < (zt (S.op y)).length:=by
 simp only[VP,gf] at h;exact⟨h.1,ge h.2.1,UZ h.2.2.1,by simpa[UT] using h.2.2.2⟩
theorem ziF{off n k:Nat}(h:Xb off n k=G):off<=k/\k < off+n:=by
 simp only[Xb,gf] at h;exact⟨UZ h.1,by simpa[UT] using h.2⟩
theorem zoF{off n k:Nat}(h:Xb off n k=I):k < off\/off+n<=k:=by
 by_cases h1:off<=k/\k < off+n
 ·exfalso;have:Xb off n k=true:=by
   simp only[Xb,gf];exact⟨Nat.ble_eq_true_of_le h1.1,by rw[UT];exact h1.2⟩
  grind
 ·omega
theorem zwR{T:Nat}{v:Value}{s:Sl (C.D T)}{h:zc}(S:C.nst T < C.size T)(r:zn (zC C T).o T v s Z h):∃sub,zn (Ze C T) T v (hpl C T sub s (.upto 0)) Z h:=by
 rcases r with⟨rfl,rfl⟩ | ⟨a,rfl,rfl⟩ | ⟨q,d,cur,hb,w,rfl,Q,y,P,l,r0,H,B,N,K,f⟩
 ·exact⟨λ_ =>.slice F 0 0,.inl ⟨rfl,rfl⟩⟩
 ·exact⟨λ_ =>.slice F 0 0,.inr (.inl ⟨a,rfl,rfl⟩)⟩
 ·have g:(zC C T).rels Z (cur.take (s.xs.length * C.size T)) s.xs:=Ty.rels_o.1 f;have l:d * C.size T<=cur.length:=l;refine⟨λj=>((cur.take (s.xs.length * C.size T))[j * C.size T+C.nst T]?).getD default,.inr (.inr ⟨q,d,cur,hb,w,by rw[WJ],Q,by rw[WJ];exact y,P,l,r0,H,B,N,K,?_⟩)⟩;rw[WJ];show(Ze C T).rels Z w (cur.take (s.xs.length * C.size T)) _;generalize cur.take (s.xs.length * C.size T)=cells at g |-
  have z:cells.length=s.xs.length * C.size T:=(zC C T).rels_len g;refine⟨by rw[WJ];exact z,λ_=>zc.none,λj p hp=>?_,λ_ _ _=>zc.none_disj _,λ_=>zc.none_le _⟩;simp only[hpl,Dm] at hp;cases n:s.xs[j]? with
  |none=>grind
  |some x=>
   rw[n] at hp;cases hp;have h1:(zC C T).rel Z ((cells.drop (j * C.size T)).take (C.size T)) x:=(zC C T).rels_get j g n;have c:∀u∈(cells.drop (j * C.size T)).take (C.size T),u.oneCell'=true:=(zC C T).one h1
   let⟨R,t⟩:=h1;have b:((cells.drop (j * C.size T)).take (C.size T))[C.nst T]?=cells[j * C.size T+C.nst T]?:=by
    grind
   have i:C.nst T < ((cells.drop (j * C.size T)).take (C.size T)).length:=jE
   have U:=UC i;refine⟨R,c,λm A hA _=>t m A hA,?_,λ_=>?_,λe=>by simp[Own.fl] at e⟩
   ·show((cells.drop (j * C.size T)).take (C.size T))[C.nst T]?=E ((cells[j * C.size T+C.nst T]?).getD default);grind
   ·show Rv C Z ((cells[j * C.size T+C.nst T]?).getD default) (Zo C T x);have k:C.nst T < (C.emb T x).length:=by rw[C.len];exact S
    let⟨u,L,X⟩:=t _ _ (UC k);rw[<- b,L];unfold Zo;grind
theorem zng{T:Nat}{v:Value}{s:Sl (C.D T)}{w:World}(i:C.nst T < C.size T)(hi:Inv w0 σ0 Z (.row (zC C T).o T v s::PV) w):∃sub,Inv w0 σ0 Z (.row (Ze C T) T v (hpl C T sub s (.upto 0))::PV) w:=by
 let⟨h,hs,c⟩:=hi.own;let⟨h1,h2,d,e,a,g,f⟩:=hs.uncons;let⟨sub,b⟩:=zwR i (d:zn (zC C T).o T v s Z h1);exact⟨sub,hi.sub,hi.le,hi.fresh,⟨h,.cons b e a g f,c⟩,hi.ext⟩
theorem OpA.of3(h:Xk P n w0 σ0 o X L b Z PV λp' e d PV'=>∀r,p'=E r->∃S' c,r = .go S'/\zD κ S' e b d c/\∀w,Inv w0 σ0 d PV' w->Inv w0 σ0 d c w):OpA κ P n w0 σ0 o X L b Z PV:=by
 intro out j a w hi f K Q m k;refine h out j a w hi f K Q ?_;intro p' e d PV' a' w' hp i g l;grind
section
variable {id2 T U off:Nat}{s:Sl (C.D T)}{gw g':Own}{i:Int}{q q':C.D T}{u:Sl (C.D U)}{ti:TypeInfo}{sub:Nat->Value}{e:Ent C}
theorem znh{v:Value}(h0:0<=i)(b:Vs gw i=E g'):(hpl C T sub s gw).set i (q',1,v)=hpl C T (upd sub i.toNat v) (s.set i q') g':=by
 let⟨c,d⟩:=zoE b h0;rw[<- zd9 (sub:=sub) (sub':=upd sub i.toNat v) (g:=gw) (g':=g') (q':=q') λj _ a=>⟨d j a,zq a⟩,c,zp]
theorem zsY (h:AbsL κ S ν vs (id::id2::ids) L b Z (pv :: .row (zC C U).o U (ν.hdr id2) u::PV)) (N:S.heap id=E e) (l:id≠id2) (K:opv L b x = .pointer (E (zi (ν.hdr id) (i.toNat * C.size T+off)))) (f:P.info? t=E ti) (p:VP S ti y off (C.size T)=G)
    (Q:off<=C.nst T/\C.nst T < off+(zt (S.op y)).length) (hc:(zt (S.op y))[C.nst T - off]?=E (.row id2)) (B:za s i=E q) (D:Vs gw i=E g') (A:C.imp T (WX off (C.emb T q) ((zt (S.op y)).set (C.nst T - off) (.sl U u I)))=E q') :
    OpA κ P n w0 σ0 ⟨F,.store t x y,ty,ps,af,g⟩ (E (.go ((S.sub id2 .und).owk id (.orow T (s.set i q') g')))) L b Z (.row (Ze C T) T (ν.hdr id) (hpl C T sub s gw) :: .row (zC C U).o U (ν.hdr id2) u::PV):=by
 let⟨k1,k2,H,k4⟩:=zbp p;let⟨w,a⟩:=ZE (h.op y) k1 h.one;have c:=w.len;have h0:=(yO.1 B).1;let⟨v2,j,d⟩:=w.get _ _ hc;have d:v2=ν.hdr id2:=d;subst d;refine OpA.of (WW (T:=Ze C T) (q:=(q,gw.fl i.toNat,sub i.toNat)) (q':=(q',1,ν.hdr id2)) (us:=(opv L b y).cells.toList) [.row (zC C U).o U (ν.hdr id2) u] PV f K rfl (by rw[k2,c]) jE a (WK B) (by rw[c];exact H) (λg gA k cs r sA dd l1 l2=>?_) λr X=>⟨_,(V.inj X).symm,?_⟩)
 ·exact ziE (v:=ν.hdr id2) r w a jE A jE j (sA.one_of:zn (zC C U).o U (ν.hdr id2) u Z gA) l2
 · rw [znh h0 D];have h1:=h.sub (id:=id2) (m:=1) (R :=.und) rfl (FS.le.refl Z) trivial trivial rfl;have z:(S.sub id2 .und).heap id=E (Ent.sub id2 .und e):=by
     show(bif M id id2 then F else(S.heap id).map _)=_;cases hb:M id id2 with
     |true=>exact absurd (ge hb) l
     |false=>rw[N];rfl
   exact⟨_,_,_,AbsL.setO (S:=S.sub id2 .und) h1 z (zfe D)⟩
theorem zsZ (h:AbsL κ S ν vs (id::ids) L b Z (pv::PV)) (B:S.heap id=E e) (A:opv L b x = .pointer (E (zi (ν.hdr id) (i.toNat * C.size T+off)))) (f:P.info? t=E ti) (l:VP S ti y off (C.size T)=G)
    (D:off<=C.nst T/\C.nst T < off+(zt (S.op y)).length) (Q:(zt (S.op y))[C.nst T - off]?=E .nils) (p:za s i=E q) (w:Vs gw i=E g') (o:C.imp T (WX off (C.emb T q) ((zt (S.op y)).set (C.nst T - off) (.sl U ⟨[],I⟩ I)))=E q') :
    OpA κ P n w0 σ0 ⟨F,.store t x y,ty,ps,af,g⟩ (E (.go (S.owk id (.orow T (s.set i q') g')))) L b Z (.row (Ze C T) T (ν.hdr id) (hpl C T sub s gw)::PV):=by
 let⟨N,K,z,R⟩:=zbp l;let⟨m,a⟩:=ZE (h.op y) N h.one;have c:=m.len;have h0:=(yO.1 p).1;let⟨v2,j,d⟩:=m.get _ _ Q;have d:v2 = .slice F 0 0:=d;subst d;refine OpA.of (WW (T:=Ze C T) (q:=(q,gw.fl i.toNat,sub i.toNat)) (q':=(q',1,.slice F 0 0)) (us:=(opv L b y).cells.toList) [] PV f A rfl (by rw[K,c]) jE a (WK p) (by rw[c];exact z) (λg gA k cs r sA X l1 l2=>?_) λr H=>⟨_,(V.inj H).symm,?_⟩)
 ·exact ziE (U:=U) (u:=⟨[],I⟩) (v :=.slice F 0 0) (gA:=zc.none) r m a jE o jE j (.inl ⟨rfl,rfl⟩) (zc.none_le _)
 ·rw[znh h0 w];exact⟨_,_,_,h.setO B (zfe w)⟩
theorem zkW {out:Out C}(h:AbsL κ S ν vs ids L b Z PV) (z:S.heap id=E e) (r:∀PV' w,Inv w0 σ0 Z (zK C ν vs id (E e)::PV') w->∃sub,Inv w0 σ0 Z (.row (Ze C T) T (ν.hdr id) (hpl C T sub s gw)::PV') w)
    (X:opv L b x = .pointer (E (zi (ν.hdr id) (i.toNat * C.size T+off)))) (m:P.info? t=E ti) (p:VP S ti y off (C.size T)=G) (o:off<=C.nst T/\C.nst T < off+(zt (S.op y)).length)
    (c:wC S id T s gw i off (zt (S.op y)) E=E out):OpA κ P n w0 σ0 ⟨F,.store t x y,ty,ps,af,g⟩ (E out) L b Z PV:=by
 unfold wC at c;simp only[vl] at c;split at c
 · rename_i id2 R;split at c
   · rename_i U u h2;let⟨f,c⟩:=zb c;have f:id≠id2:=λe=>by subst e;simp at f
     let⟨q,D,c⟩:=gd c;let⟨g',H,c⟩:=gd c;let⟨q',k,c⟩:=gd c;cases c;let⟨v,PV',N,d⟩:=h.front2 (w0:=w0) (σ0:=σ0) f z h2;intro out c a w hi l K Q B A;let⟨sub,j⟩:=r _ w (d w hi);exact zsY (sub:=sub) N z f X m p o R D H k out c a w j l K Q B A
   ·cases c
 · rename_i R;let⟨q,D,c⟩:=gd c;split at c
   ·rename_i U u0 c0 hu0;let⟨g',H,c⟩:=gd c;let⟨q',k,c⟩:=gd c;cases c;let⟨v,PV',N,d⟩:=h.front1 (w0:=w0) (σ0:=σ0) z;intro out c a w hi l K Q B A;let⟨sub,j⟩:=r _ w (d w hi);exact zsZ (U:=U) (sub:=sub) N z X m p o R D H k out c a w j l K Q B A
   ·cases c
 ·cases c
end
theorem zmO(h:AbsL κ S ν vs ids L b Z PV):OpA κ P n w0 σ0 ⟨F,.store t x y,ty,ps,af,g⟩ (xR P S t x y) L b Z PV:=by
 intro out a;unfold xR XD at a;split at a
 ·rename_i ti id T i off p ex;have v:=h.op x;rw[ex] at v;have v:opv L b x = .pointer (E (zi (ν.hdr id) (i.toNat * C.size T+off))):=v;split at a
  ·rename_i T' s gw hs;let⟨l,a⟩:=zb a;simp only[gf] at l;obtain rfl:=ge l.1;let⟨k1,k2,k3,k4⟩:=zbp l.2;cases m:Xb off (zt (S.op y)).length (C.nst T) with
   |true=>
    rw[m,Dq] at a;exact zkW h hs (λPV' w hi=>⟨(ν.adr id).sub,hi⟩) v p l.2 (ziF m) a out rfl
   |false=>
    rw[m,U0] at a;let⟨q,hq,a⟩:=gd a;let⟨q',N,a⟩:=gd a;let⟨hu,f⟩:=ZE (h.op y) k1 h.one;have d:=hu.len;let⟨H,PV',hf,B⟩:=h.front1 (w0:=w0) (σ0:=σ0) hs;refine OpA.pv B ?_ out a;refine OpA.of (WW (T:=Ze C T) (q:=(q,gw.fl i.toNat,(ν.adr id).sub i.toNat)) (q':=(q',gw.fl i.toNat,(ν.adr id).sub i.toNat)) (us:=(opv L b y).cells.toList) [] PV' p v rfl (by rw[k2,d]) jE f (WK hq) (by rw[d];exact k3) (λg gA k cs r sA dd l1 l2=>?_) λr hr=>⟨_,(V.inj hr).symm,?_⟩)
    ·exact zsX r hu f jE N (by rw[d];exact zoF m) l1
    ·rw[zd9 (sub:=(ν.adr id).sub) (sub':=(ν.adr id).sub) (g:=gw) (g':=gw) λj _ _=>⟨rfl,rfl⟩];exact⟨_,_,_,hf.setO0 (e' :=.orow T (s.set i q') gw) hs (λcs e=>by cases e)⟩
  ·rename_i T' s hs;let⟨l,a⟩:=zb a;simp only[gf] at l;obtain rfl:=ge l.1;let⟨k1,k2,k3,k4⟩:=zbp l.2.1;have m:=ziF l.2.2;exact zkW h hs (λPV' w hi=>zng Zd hi) v p l.2.1 m a out rfl
  ·cases a
 ·rename_i ti id T i U k off p ex;have v:=h.op x;rw[ex] at v;have v:opv L b x = .pointer (E (zi ((ν.adr id).sub i.toNat) (k.toNat * C.size U+off))):=v.1;split at a
  ·rename_i T' s hs;let⟨l,a⟩:=zb a;simp only[gf] at l;obtain rfl:=ge l.1;let⟨k1,k2,k3,k4⟩:=zbp l.2;let⟨q,hq,a⟩:=gd a;split at a
   ·rename_i U' u c hu;let⟨hU,a⟩:=zb a;obtain rfl:=ge hU;let⟨y0,hy0,a⟩:=gd a;let⟨y1,hy1,a⟩:=gd a;let⟨q',N,a⟩:=gd a;let⟨X,f⟩:=ZE (h.op y) k1 h.one;have d:=X.len;let⟨H,PV',hf,B⟩:=h.front1 (w0:=w0) (σ0:=σ0) hs;have K:∀w,Inv w0 σ0 Z PV w->Inv w0 σ0 Z (.row (zC C U).o U ((ν.adr id).sub i.toNat) u :: .row (Ze C T) T (ν.hdr id) (hpl C T (ν.adr id).sub s (.out i))::PV') w:=λw hi=>(B w hi).sub_own λgg kk=>by
     let⟨h1,h2,m1,m2,n1,n2,dd⟩:=kk.uncons;exact Sep.append (A:=[_,_]) (zcc (m1:zn (Ze C T) T (ν.hdr id) (hpl C T (ν.adr id).sub s .all) Z h1) hq hu) m2 n1 n2 dd
    have hlq:(C.emb T q).length=C.size T:=C.len T q;have hnlt:C.nst T < C.size T:=by
     have hh:Zo C T q ≠.und:=jE
     unfold Zo at hh;cases hg:(C.emb T q)[C.nst T]? with
     |none=>grind
     |some A=>grind
    have hbq:∀A∈(C.emb T q).set (C.nst T) (.sl U (u.set k y1) I),A.base=true:=λA hA=>by
     rcases Dv hA with z | z
     ·exact C.base T q A z
     ·rw[z];rfl
    have heq:∀(j:Nat),(C.emb T q')[j]?=((C.emb T q).set (C.nst T) (.sl U (u.set k y1) I))[j]?:=λj=>by
     cases Q:((C.emb T q).set (C.nst T) (.sl U (u.set k y1) I))[j]? with
     |none=>
      rw[qE] at Q |-
      rw[qC,C.len] at Q;rw[C.len];exact Q
     |some A=>exact zdG N Q (hbq A (UM Q))
    refine OpA.pv K ?_ out a;refine OpA.of3 (zbg (T:=zC C U) (q:=y0) (q':=y1) (us:=(opv L b y).cells.toList) 0 rfl p v rfl (by rw[k2,d]) jE f hy0 (by rw[d];exact k3) (λcs hcs=>?_) λr hr=>⟨_,_,(V.inj hr).symm,⟨ν,vs,id::H,hf.setO0 (e' :=.orow T (s.set i q') .all) hs (λcs e=>by cases e)⟩,λw hi=>hi.sub_own λgg kk=>?_⟩)
    ·have R:=zbH (ν:=ν) hcs;have D:=((R.take off).append X).append (R.drop (off+(opv L b y).cells.toList.length));have e:(C.emb U y0).drop (off+(opv L b y).cells.toList.length)=(C.emb U y0).drop (off+(zt (S.op y)).length):=by rw[d]
     rw[e] at D;exact WM D hy1
    ·let⟨h1,h2,m1,m2,n1,n2,dd⟩:=Sep.split (A:=[_,_]) kk;refine .cons (h1:=h1) (ziC m1 hq ?_ λj Q=>?_) m2 n1 n2 dd
     ·unfold Zo;grind
     grind
   ·cases a
  ·cases a
 ·cases a
end
end
section
variable [Dfr]
inductive Sh where
 |int (k:IntKind)
 |bool
 |str
 |val (T:Nat)
 |sl (T:Nat)
 |row (k:Nat)
 |pc (k off:Nat)
 |pr (k T off:Nat)
 |nx (k T:Nat)
 |nxe (k T U off:Nat)
 |nxp (k T U:Nat)
 |orow (T:Nat)
 |pz (T off:Nat)
 |pnil
 |nils
 |nilf
 |nili
 |und
 |clo (f:Nat) (l:List Sh)
 |agg (l:List Sh)
 |tup (l:List Sh)
 |ifc (t:Nat) (s:Sh)
mutual
def Sh.unit:Sh->Bool
 | .row _=>G
 | .pc _ _=>G
 | .pnil=>G
 | .nils=>G
 | .nilf=>G
 | .nili=>G
 | .und=>G
 | .clo _ l=>Sh.units l
 | .agg l=>Sh.units l
 | .tup l=>Sh.units l
 | .ifc _ s=>s.unit
 |_=>I
def Sh.units:List Sh->Bool
 |[]=>G
 |s::l=>s.unit && Sh.units l
end
def Pty(u v:Bool)(A B:Type):Type:=match u,v with
 |true,_=>B
 |false,G=>A
 |false,I=>A×B
def Pty.mk{u v:Bool}{A B:Type}(x:A)(y:B):Pty u v A B:=match u,v with
 |true,_=>y
 |false,G=>x
 |false,I=>(x,y)
def Pty.fst{u v:Bool}{A B:Type}(d:u=G->A)(p:Pty u v A B):A:=match u,v,d,p with
 |true,_,d,_=>d rfl
 |false,G,_,x=>x
 |false,I,_,x=>x.1
def Pty.snd{u v:Bool}{A B:Type}(d:v=G->B)(p:Pty u v A B):B:=match u,v,d,p with
 |true,_,_,y=>y
 |false,G,d,_=>d rfl
 |false,I,_,x=>x.2
theorem Pty.fst_mk{u v:Bool}{A B:Type}{d:u=G->A}{x:A}{y:B}(h:∀e,d e=x):Pty.fst d (Pty.mk (u:=u) (v:=v) x y)=x:=by
 cases u<;>cases v<;>first | exact h rfl | rfl
theorem Pty.snd_mk{u v:Bool}{A B:Type}{d:v=G->B}{x:A}{y:B}(h:∀e,d e=y):Pty.snd d (Pty.mk (u:=u) (v:=v) x y)=y:=by
 cases u<;>cases v<;>first | exact h rfl | rfl
mutual
def Sh.ty(C:Cod):Sh->Type
 | .int _=>Int
 | .bool=>Bool
 | .str=>ByteArray
 | .val T=>C.D T
 | .sl T=>Sl (C.D T)
 | .pr _ _ _=>Int
 | .nx _ _=>Int
 | .nxe _ _ _ _=>Int×Int
 | .nxp _ _ _=>Int×Int×Int
 | .orow T=>Sl (C.D T)
 | .pz T _=>C.D T
 | .clo _ l=>Sh.tys C l
 | .agg l=>Sh.tys C l
 | .tup l=>Sh.tys C l
 | .ifc _ s=>s.ty C
 | .row _=>Unit
 | .pc _ _=>Unit
 | .pnil=>Unit
 | .nils=>Unit
 | .nilf=>Unit
 | .nili=>Unit
 | .und=>Unit
def Sh.tys(C:Cod):List Sh->Type
 |[]=>Unit
 |s::l=>Pty s.unit (Sh.units l) (s.ty C) (Sh.tys C l)
end
mutual
def Sh.dflt(C:Cod):(s:Sh)->s.unit=G->s.ty C
 | .row _,_=>()
 | .pc _ _,_=>()
 | .pnil,_=>()
 | .nils,_=>()
 | .nilf,_=>()
 | .nili,_=>()
 | .und,_=>()
 | .clo _ l,h=>Sh.dflts C l h
 | .agg l,h=>Sh.dflts C l h
 | .tup l,h=>Sh.dflts C l h
 | .ifc _ s,h=>s.dflt C h
def Sh.dflts(C:Cod):(l:List Sh)->Sh.units l=G->Sh.tys C l
 |[],_=>()
 |s::l,h=>Pty.mk (s.dflt C (qo.1 h).1) (Sh.dflts C l (qo.1 h).2)
end
section
variable {C:Cod}
theorem Pty.unique{u v:Bool}{A B:Type}(a:u=G)(b:v=G->∀x y:B,x=y)(c:v=G):∀x y:Pty u v A B,x=y:=by
 subst a;subst c;exact b rfl
omit [Dfr] in
mutual
theorem Sh.unique:∀(s:Sh),s.unit=G->∀x y:s.ty C,x=y
 | .row _,_=>λ_ _=>rfl
 | .pc _ _,_=>λ_ _=>rfl
 | .pnil,_=>λ_ _=>rfl
 | .nils,_=>λ_ _=>rfl
 | .nilf,_=>λ_ _=>rfl
 | .nili,_=>λ_ _=>rfl
 | .und,_=>λ_ _=>rfl
 | .clo _ l,h=>Sh.uniques l h
 | .agg l,h=>Sh.uniques l h
 | .tup l,h=>Sh.uniques l h
 | .ifc _ s,h=>s.unique h
theorem Sh.uniques:∀(l:List Sh),Sh.units l=G->∀x y:Sh.tys C l,x=y
 |[],_=>λ_ _=>rfl
 |s::l,h=>Pty.unique (qo.1 h).1 (λa=>Sh.uniques l a) (qo.1 h).2
end
abbrev Sh.hd{s:Sh}{l:List Sh}(p:Sh.tys C (s::l)):s.ty C:=Pty.fst (s.dflt C) p
abbrev Sh.tl{s:Sh}{l:List Sh}(p:Sh.tys C (s::l)):Sh.tys C l:=Pty.snd (Sh.dflts C l) p
abbrev Sh.pk{s:Sh}{l:List Sh}(x:s.ty C)(y:Sh.tys C l):Sh.tys C (s::l):=Pty.mk x y
theorem Sh.hd_pk{s:Sh}{l:List Sh}{x:s.ty C}{y:Sh.tys C l}:Sh.hd (Sh.pk x y:Sh.tys C (s::l))=x:=Pty.fst_mk λe=>s.unique e _ _
theorem Sh.tl_pk{s:Sh}{l:List Sh}{x:s.ty C}{y:Sh.tys C l}:Sh.tl (Sh.pk x y:Sh.tys C (s::l))=y:=Pty.snd_mk λe=>Sh.uniques l e _ _
def zru{D:Nat->Type}:AV D->Bool
 | .agg _=>G
 |_=>I
def Xp{T T':Nat}(s:Sl (C.D T')):Uv (Sl (C.D T)):=if h:T'=T then E (h ▸ s) else F
def zi2{T T':Nat}(s:C.D T'):Uv (C.D T):=if h:T'=T then E (h ▸ s) else F
def VQ:Uv Nat->Nat->Bool
 |some a,b=>M a b
 |none,_=>I
def Sh.isVal:Sh->Uv Nat
 | .val T=>E T
 |_=>F
def zz7(s:Sh){T:Nat}(z:C.D T):Uv (s.ty C):=match s with
 | .val T'=>zi2 z
 |_=>F
def Sh.vcells{C:Cod}(s:Sh)(x:s.ty C):List (AV C.D):=match s,x with
 | .val T,x=>C.emb T x
 |_,_=>[]
mutual
def Sh.get(B:Nat->Uv Nat):(s:Sh)->AV C.D->Uv (s.ty C)
 | .int k,A=>(match A with
  | .int d n=>chk (decide (k=d)) (E n)
  |_=>F)
 | .bool,A=>(match A with
  | .bool b=>E b
  |_=>F)
 | .str,A=>(match A with
  | .str s=>E s
  |_=>F)
 | .val T,A=>chk (YS A && (zru A == C.agg T)) (C.imp T (zt A))
 | .sl T,A=>(match A with
  | .sl _ s _=>Xp s
  | .nils=>E ⟨[],I⟩
  |_=>F)
 | .pr k T off,A=>(match A with
  | .pr id T' i a=>chk (VQ (B k) id && (M T T' && M off a)) (E i)
  |_=>F)
 | .nx k T,A=>(match A with
  | .nx id T' i .whole=>chk (VQ (B k) id && M T T') (E i)
  |_=>F)
 | .nxe k T U off,A=>(match A with
  | .nx id T' i (.elem c j a)=>chk (VQ (B k) id && (M T T' && (M U c && M off a))) (E (i,j))
  |_=>F)
 | .nxp k T U,A=>(match A with
  | .nx id T' i (.part c lo hi)=>chk (VQ (B k) id && (M T T' && M U c)) (E (i,lo,hi))
  |_=>F)
 | .orow T,A=>(match A with
  | .clo 0 [.sl _ s _]=>Xp s
  | .clo 1 [.int _ k,.sl _ s _]=>chk (decide (s.len<=k)) (Xp s)
  |_=>F)
 | .pz T off,A=>(match A with
  | .pz _ x a=>chk (M off a) (zi2 x)
  |_=>F)
 | .row k,A=>(match A with
  | .row id=>chk (VQ (B k) id) (E ())
  |_=>F)
 | .pc k off,A=>(match A with
  | .pc id a=>chk (VQ (B k) id && M off a) (E ())
  |_=>F)
 | .pnil,A=>(match A with
  | .pnil=>E ()
  |_=>F)
 | .nils,A=>(match A with
  | .nils=>E ()
  |_=>F)
 | .nilf,A=>(match A with
  | .nilf=>E ()
  |_=>F)
 | .nili,A=>(match A with
  | .nili=>E ()
  |_=>F)
 | .und,_=>E ()
 | .clo f l,A=>(match A with
  | .clo e cs=>chk (M f e) (Sh.gets B l cs)
  |_=>F)
 | .agg l,A=>(match A with
  | .agg cs=>Sh.getc B l cs
  |_=>F)
 | .tup l,A=>(match A with
  | .tup cs=>Sh.gets B l cs
  |_=>F)
 | .ifc t s,A=>(match A with
  | .ifc t' A=>chk (M t t') (Sh.get B s A)
  |_=>F)
def Sh.gets(B:Nat->Uv Nat):(l:List Sh)->List (AV C.D)->Uv (Sh.tys C l)
 |[],As=>(match As with
  |[]=>E ()
  |_::_=>F)
 |s::l,As=>(match As with
  |A::As=>(Sh.get B s A).bind λx=>(Sh.gets B l As).bind λy=>E (Sh.pk x y)
  |[]=>F)
def Sh.getc(B:Nat->Uv Nat):(l:List Sh)->List (AV C.D)->Uv (Sh.tys C l)
 |[],As=>(match As with
  |[]=>E ()
  |_::_=>F)
 |s::l,As=>(match Sh.isVal s with
  |some T=>(C.imp T (As.take (C.size T))).bind λz=>(zz7 s z).bind λx=>(Sh.getc B l (As.drop (C.size T))).bind λy=>E (Sh.pk x y)
  |none=>(match As with
   |A::As=>(Sh.get B s A).bind λx=>(Sh.getc B l As).bind λy=>E (Sh.pk x y)
   |[]=>F))
end
mutual
def Sh.put(ρ:Nat->Nat):(s:Sh)->s.ty C->AV C.D
 | .int k,n =>.int k n
 | .bool,b =>.bool b
 | .str,s =>.str s
 | .val T,x=>zbE (C.agg T) (C.emb T x)
 | .sl T,s =>.sl T s I
 | .pr k T off,i =>.pr (ρ k) T i off
 | .nx k T,i =>.nx (ρ k) T i .whole
 | .nxe k T U off,i =>.nx (ρ k) T i.1 (.elem U i.2 off)
 | .nxp k T U,i =>.nx (ρ k) T i.1 (.part U i.2.1 i.2.2)
 | .orow _,_ =>.und
 | .pz T off,x =>.pz T x off
 | .row k,_ =>.row (ρ k)
 | .pc k off,_ =>.pc (ρ k) off
 | .pnil,_ =>.pnil
 | .nils,_ =>.nils
 | .nilf,_ =>.nilf
 | .nili,_ =>.nili
 | .und,_ =>.und
 | .clo f l,x =>.clo f (Sh.puts ρ l x)
 | .agg l,x =>.agg (Sh.putc ρ l x)
 | .tup l,x =>.tup (Sh.puts ρ l x)
 | .ifc t s,x =>.ifc t (Sh.put ρ s x)
def Sh.puts(ρ:Nat->Nat):(l:List Sh)->Sh.tys C l->List (AV C.D)
 |[],_=>[]
 |s::l,x=>Sh.put ρ s (Sh.hd x)::Sh.puts ρ l (Sh.tl x)
def Sh.putc(ρ:Nat->Nat):(l:List Sh)->Sh.tys C l->List (AV C.D)
 |[],_=>[]
 |s::l,x=>match Sh.isVal s with
  |some _=>Sh.vcells s (Sh.hd x)++Sh.putc ρ l (Sh.tl x)
  |none=>Sh.put ρ s (Sh.hd x)::Sh.putc ρ l (Sh.tl x)
end
end
end
section
variable [Dfr]
section
variable {C:Cod}{Z:FS}{ν ν':Val}{B:Nat->Uv Nat}{ρ:Nat->Nat}
theorem yK{T T':Nat}{s:Sl (C.D T')}{s':Sl (C.D T)}(h:Xp s=E s'):∃e:T'=T,e ▸ s=s':=by
 unfold Xp at h;grind
theorem zgq{T T':Nat}{s:C.D T'}{s':C.D T}(h:zi2 s=E s'):∃e:T'=T,e ▸ s=s':=by
 unfold zi2 at h;grind
theorem yz{x:Uv Nat}{a:Nat}(h:VQ x a=G):x=E a:=by
 cases x with
 |none=>cases h
 |some b=>rw[ge h]
theorem ziG{us:List Value}{cs ds:List (AV C.D)}(h:VRs C Z ν us cs)(l:zfk cs ds)(hb:∀A∈ds,A.base=G):VRs C Z ν' us ds:=
 .of (by rw[(zbN h l).len]) λj u A h1 h2=>((zbN h l).rel h1 h2 |>.rv (hb A (UM h2))).vr
structure Rn(B:Nat->Uv Nat)(ρ:Nat->Nat)(ν ν':Val):Prop where
 eq:∀k id,B k=E id->ν'.hdr (ρ k)=ν.hdr id/\ν'.adr (ρ k)=ν.adr id
 one:∀i,(ν.hdr i).oneCell'=G
omit [Dfr] in
mutual
theorem Sh.get_put(b:Rn B ρ ν ν'):∀(s:Sh) {A:AV C.D}{x:s.ty C},Sh.get B s A=E x->∀{v:Value},VR C Z ν v A->VR C Z ν' v (Sh.put ρ s x)
 | .int k,A,x,h,v,r=>by
  cases A<;>first | (cases h;done) | skip
  let⟨g,h⟩:=zb h;cases h;obtain rfl:=Dn g;exact(r:Rv C Z v _)
 | .bool,A,x,h,v,r=>by
  cases A<;>first | (cases h;done) | skip
  cases h;exact(r:Rv C Z v _)
 | .str,A,x,h,v,r=>by
  cases A<;>first | (cases h;done) | skip
  cases h;exact(r:Rv C Z v _)
 | .val T,A,x,h,v,r=>by
  let⟨a,h⟩:=zb h;simp only[gf,beq_iff_eq] at a;let⟨d,_⟩:=ZE r a.1 b.one;have h2:VRs C Z ν' v.cells.toList (C.emb T x):=ziG d (C.imp_ok T _ x h) (C.base T x);have j:v=yD (C.agg T) v.cells.toList:=by
   rcases zde a.1 with c | ⟨cs,rfl,_⟩
   ·have h1:=r.one c b.one;have:zru A=false:=by cases A<;>first | rfl | cases c
    rw[<- a.2,this];cases v<;>simp_all[Value.oneCell',Value.cells,yD]
   ·obtain⟨vs,rfl,_⟩:=r;rw[<- a.2];rfl
  rw[j];exact h2.val
 | .sl T,A,x,h,v,r=>by
  cases A<;>first | (cases h;done) | skip
  ·obtain⟨e,rfl⟩:=yK h;subst e;exact(Rv.of_vrel (r.sl_vrel)).vr
  ·cases h;exact zf7 (A :=.nils) r (.inr (.inr ⟨T,I,rfl,rfl⟩))
 | .pr k T off,A,x,h,v,r=>by
  cases A<;>first | (cases h;done) | skip
  let⟨a,h⟩:=zb h;simp only[gf] at a;cases h;obtain rfl:=ge a.2.1;obtain rfl:=ge a.2.2;show v = .pointer (E (zi (ν'.hdr (ρ k)) _));rw[(b.eq k _ (yz a.1)).1];exact r
 | .nx k T,A,x,h,v,r=>by
  cases A<;>first | (cases h;done) | skip
  rename_i id T' i nx;cases nx<;>first | (cases h;done) | skip
  let⟨a,h⟩:=zb h;simp only[gf] at a;cases h;obtain rfl:=ge a.2;refine⟨?_,r.2⟩;rw[(b.eq k _ (yz a.1)).2];exact r.1
 | .nxe k T U off,A,x,h,v,r=>by
  cases A<;>first | (cases h;done) | skip
  rename_i id T' i nx;cases nx<;>first | (cases h;done) | skip
  let⟨a,h⟩:=zb h;simp only[gf] at a;cases h;obtain rfl:=ge a.2.1;obtain rfl:=ge a.2.2.1;obtain rfl:=ge a.2.2.2;refine⟨?_,r.2⟩;rw[(b.eq k _ (yz a.1)).2];exact r.1
 | .nxp k T U,A,x,h,v,r=>by
  cases A<;>first | (cases h;done) | skip
  rename_i id T' i nx;cases nx<;>first | (cases h;done) | skip
  let⟨a,h⟩:=zb h;simp only[gf] at a;cases h;obtain rfl:=ge a.2.1;obtain rfl:=ge a.2.2;refine⟨?_,r.2⟩;rw[(b.eq k _ (yz a.1)).2];exact r.1
 | .orow T,A,x,h,v,r=>trivial
 | .pz T off,A,x,h,v,r=>by
  cases A<;>first | (cases h;done) | skip
  let⟨a,h2⟩:=zb h;obtain rfl:=ge a;obtain⟨e,rfl⟩:=zgq h2;subst e;exact(r:Rv C Z v _)
 | .row k,A,x,h,v,r=>by
  cases A<;>first | (cases h;done) | skip
  let⟨a,h⟩:=zb h;show v=ν'.hdr (ρ k);rw[(b.eq k _ (yz a)).1];exact r
 | .pc k off,A,x,h,v,r=>by
  cases A<;>first | (cases h;done) | skip
  let⟨a,h⟩:=zb h;simp only[gf] at a;obtain rfl:=ge a.2;show v = .pointer (E ((ν'.adr (ρ k)).add _));rw[(b.eq k _ (yz a.1)).2];exact r
 | .pnil,A,x,h,v,r=>by
  cases A<;>first | (cases h;done) | exact(r:Rv C Z v _)
 | .nils,A,x,h,v,r=>by
  cases A<;>first | (cases h;done) | exact r
 | .nilf,A,x,h,v,r=>by
  cases A<;>first | (cases h;done) | exact(r:Rv C Z v _)
 | .nili,A,x,h,v,r=>by
  cases A<;>first | (cases h;done) | exact(r:Rv C Z v _)
 | .und,A,x,h,v,r=>trivial
 | .clo f l,A,x,h,v,r=>by
  cases A<;>first | (cases h;done) | skip
  let⟨a,h2⟩:=zb h;obtain rfl:=ge a;let⟨vs,e,r⟩:=r;exact⟨vs,e,Sh.gets_puts b l h2 r⟩
 | .agg l,A,x,h,v,r=>by
  cases A<;>first | (cases h;done) | skip
  let⟨vs,e,r⟩:=r;exact⟨vs,e,Sh.getc_putc b l h r⟩
 | .tup l,A,x,h,v,r=>by
  cases A<;>first | (cases h;done) | skip
  let⟨vs,e,r⟩:=r;exact⟨vs,e,Sh.gets_puts b l h r⟩
 | .ifc t s,A,x,h,v,r=>by
  cases A<;>first | (cases h;done) | skip
  let⟨a,h2⟩:=zb h;obtain rfl:=ge a;let⟨u,e,r⟩:=r;exact⟨u,e,Sh.get_put b s h2 r⟩
theorem Sh.gets_puts(a:Rn B ρ ν ν'):∀(l:List Sh) {As:List (AV C.D)}{x:Sh.tys C l},Sh.gets B l As=E x->∀{vs:List Value},VRs C Z ν vs As->VRs C Z ν' vs (Sh.puts ρ l x)
 |[],[],x,h,[],r=>trivial
 |s::l,A::As,x,h,v::vs,r=>by
  let⟨y,c,h⟩:=gd h;let⟨z,b,h⟩:=gd h;cases h;simp only[Sh.puts,Sh.hd_pk,Sh.tl_pk];exact⟨Sh.get_put a s c r.1,Sh.gets_puts a l b r.2⟩
 |[],_::_,x,h,_,r=>by cases h
 |_::_,[],x,h,_,r=>by cases h
 |[],[],x,h,_::_,r=>r.elim
 |_::_,_::_,x,h,[],r=>r.elim
theorem Sh.getc_putc(a:Rn B ρ ν ν'):∀(l:List Sh) {As:List (AV C.D)}{x:Sh.tys C l},Sh.getc B l As=E x->∀{vs:List Value},VRs C Z ν vs As->VRs C Z ν' vs (Sh.putc ρ l x)
 |[],As,x,h,vs,r=>by
  cases As with
  |nil=>cases vs with
   |nil=>trivial
   |cons=>exact r.elim
  |cons=>cases h
 |s::l,As,x,h,vs,r=>by
  have d:∀{A:AV C.D} {As:List (AV C.D)},((Sh.get B s A).bind λx=>(Sh.getc B l As).bind λy=>E (Sh.pk x y))=E x->VRs C Z ν vs (A::As)->VRs C Z ν' vs (Sh.put ρ s (Sh.hd x)::Sh.putc ρ l (Sh.tl x)):=by
   intro A As h r;let⟨y,c,h⟩:=gd h;let⟨z,b,h⟩:=gd h;cases h;cases vs with
   |nil=>exact r.elim
   |cons v vs=>
    simp only[Sh.hd_pk,Sh.tl_pk];exact⟨Sh.get_put a s c r.1,Sh.getc_putc a l b r.2⟩
  unfold Sh.getc at h;unfold Sh.putc;cases hs:Sh.isVal s with
  |some T=>
   obtain rfl:s = .val T:=by cases s<;>first | cases hs;rfl | cases hs
   simp only[hs] at h |-
   let⟨w,f,h⟩:=gd h;let⟨y,c,h⟩:=gd h;let⟨z,b,h⟩:=gd h;obtain⟨e,rfl⟩:=zgq c;cases h;rw[show Sh.hd (s :=.val T) (l:=l) (Sh.pk (s :=.val T) w z)=w from Sh.hd_pk,show Sh.tl (s :=.val T) (l:=l) (Sh.pk (s :=.val T) w z)=z from Sh.tl_pk];rw[<- List.take_append_drop (C.size T) vs];exact(ziG (r.take _) (C.imp_ok T _ w f) (C.base T w)).append (Sh.getc_putc a l b (r.drop _))
  |none=>
   grind
end
def InB(B:Nat->Uv Nat)(ρ:Nat->Nat)(j:Nat):Prop:=∃k id,B k=E id/\j=ρ k
omit [Dfr] in
mutual
theorem Sh.put_ok:∀(s:Sh) {A:AV C.D}{x:s.ty C},Sh.get B s A=E x->(Sh.put ρ s x).ok (InB B ρ)
 | .int k,A,x,h=>trivial
 | .bool,A,x,h=>trivial
 | .str,A,x,h=>trivial
 | .val T,A,x,h=>zmY zbh
 | .sl T,A,x,h=>trivial
 | .pr k T off,A,x,h=>by
  cases A<;>first | (cases h;done) | skip
  let⟨a,h⟩:=zb h;simp only[gf] at a;exact⟨k,_,yz a.1,rfl⟩
 | .nx k T,A,x,h=>by
  cases A<;>first | (cases h;done) | skip
  rename_i id T' i nx;cases nx<;>first | (cases h;done) | skip
  let⟨a,h⟩:=zb h;simp only[gf] at a;exact⟨k,_,yz a.1,rfl⟩
 | .nxe k T U off,A,x,h=>by
  cases A<;>first | (cases h;done) | skip
  rename_i id T' i nx;cases nx<;>first | (cases h;done) | skip
  let⟨a,h⟩:=zb h;simp only[gf] at a;exact⟨k,_,yz a.1,rfl⟩
 | .nxp k T U,A,x,h=>by
  cases A<;>first | (cases h;done) | skip
  rename_i id T' i nx;cases nx<;>first | (cases h;done) | skip
  let⟨a,h⟩:=zb h;simp only[gf] at a;exact⟨k,_,yz a.1,rfl⟩
 | .orow T,A,x,h=>trivial
 | .pz T off,A,x,h=>trivial
 | .row k,A,x,h=>by
  cases A<;>first | (cases h;done) | skip
  let⟨a,h⟩:=zb h;exact⟨k,_,yz a,rfl⟩
 | .pc k off,A,x,h=>by
  cases A<;>first | (cases h;done) | skip
  let⟨a,h⟩:=zb h;simp only[gf] at a;exact⟨k,_,yz a.1,rfl⟩
 | .pnil,A,x,h=>trivial
 | .nils,A,x,h=>trivial
 | .nilf,A,x,h=>trivial
 | .nili,A,x,h=>trivial
 | .und,A,x,h=>trivial
 | .clo f l,A,x,h=>by
  cases A<;>first | (cases h;done) | skip
  let⟨a,h⟩:=zb h;exact Sh.puts_ok l h
 | .agg l,A,x,h=>by
  cases A<;>first | (cases h;done) | skip
  exact Sh.putc_ok l h
 | .tup l,A,x,h=>by
  cases A<;>first | (cases h;done) | skip
  exact Sh.puts_ok l h
 | .ifc t s,A,x,h=>by
  cases A<;>first | (cases h;done) | skip
  let⟨a,h⟩:=zb h;exact Sh.put_ok s h
theorem Sh.puts_ok:∀(l:List Sh) {As:List (AV C.D)}{x:Sh.tys C l},Sh.gets B l As=E x->AV.oks (InB B ρ) (Sh.puts ρ l x)
 |[],_,_,_=>trivial
 |s::l,[],x,h=>by cases h
 |s::l,A::As,x,h=>by
  let⟨y,b,h⟩:=gd h;let⟨z,a,h⟩:=gd h;cases h;simp only[Sh.puts,Sh.hd_pk,Sh.tl_pk];exact⟨Sh.put_ok s b,Sh.puts_ok l a⟩
theorem Sh.putc_ok:∀(l:List Sh) {As:List (AV C.D)}{x:Sh.tys C l},Sh.getc B l As=E x->AV.oks (InB B ρ) (Sh.putc ρ l x)
 |[],_,_,_=>trivial
 |s::l,As,x,h=>by
  have b:∀{A:AV C.D} {As:List (AV C.D)},((Sh.get B s A).bind λx=>(Sh.getc B l As).bind λy=>E (Sh.pk x y))=E x->AV.oks (InB B ρ) (Sh.put ρ s (Sh.hd x)::Sh.putc ρ l (Sh.tl x)):=by
   intro A As h;let⟨y,c,h⟩:=gd h;let⟨z,a,h⟩:=gd h;cases h;simp only[Sh.hd_pk,Sh.tl_pk];exact⟨Sh.put_ok s c,Sh.putc_ok l a⟩
  unfold Sh.getc at h;unfold Sh.putc;cases hs:Sh.isVal s with
  |some T=>
   obtain rfl:s = .val T:=by cases s<;>first | cases hs;rfl | cases hs
   simp only[hs] at h |-
   let⟨w,d,h⟩:=gd h;let⟨y,c,h⟩:=gd h;let⟨z,a,h⟩:=gd h;cases h;simp only[Sh.hd_pk,Sh.tl_pk];exact AV.oks_append zbh (Sh.putc_ok l a)
  |none=>
   simp only[hs] at h |-
   cases As with
   |nil=>cases h
   |cons A As=>exact b h
end
end
variable [Dfr]
inductive ESh where
 |cell (l:List Sh)
 |row (T:Nat)
 |obj (k T:Nat)
 |orow (T:Nat)
 |xrow (T:Nat)
 |forow (T:Nat)
 |gone
def ESh.sh:ESh->Sh
 | .cell l =>.agg l
 | .row T =>.sl T
 | .obj k T =>.ifc k (.tup [.str,.sl T])
 | .orow T =>.orow T
 | .xrow T =>.clo 1 [.int .i64,.sl T]
 | .forow T =>.orow T
 | .gone =>.und
def ESh.isGone:ESh->Bool
 | .gone=>G
 |_=>I
structure Sig where
 ts:List (Nat×Sh)
 es:List ESh
def Sig.shs(g:Sig):List Sh:=g.ts.map (·.2)++g.es.map ESh.sh
abbrev Sig.ty(C:Cod)(g:Sig):Type:=Sh.tys C g.shs
section
variable {C:Cod}
def WY(ρ:Nat->Nat):(ts:List (Nat×Sh))->(a:List Sh)->Sh.tys C (ts.map (·.2)++a)->Nat->AV C.D
 |[],_,_=>λ_ =>.und
 |(t,s)::ts,a,x=>λi=>bif M i t then Sh.put ρ s (Sh.hd (s:=s) (l:=ts.map (·.2)++a) x) else WY ρ ts a (Sh.tl (s:=s) (l:=ts.map (·.2)++a) x) i
def WZ:(ts:List (Nat×Sh))->(a:List Sh)->Sh.tys C (ts.map (·.2)++a)->Sh.tys C a
 |[],_,x=>x
 |(t,s)::ts,a,x=>WZ ts a (Sh.tl (s:=s) (l:=ts.map (·.2)++a) x)
def ESh.ent(ρ:Nat->Nat):(e:ESh)->e.sh.ty C->Uv (Ent C)
 | .cell l,x=>E (.cell (Sh.putc ρ l x))
 | .row T,s=>E (.row T s)
 | .obj k T,x=>E (.obj k T (Sh.hd (s :=.str) (l:=[.sl T]) x) (Sh.hd (s :=.sl T) (l:=[]) (Sh.tl (s :=.str) (l:=[.sl T]) x)))
 | .orow T,s=>E (.orow T s .all)
 | .xrow T,x=>E (.orow T (Sh.hd (s :=.sl T) (l:=[]) (Sh.tl (s :=.int .i64) (l:=[.sl T]) x)) (.upto (Sh.hd (s :=.int .i64) (l:=[.sl T]) x)))
 | .forow T,s=>E (.orow T s .fix)
 | .gone,_=>F
def ZO(ρ:Nat->Nat):(es:List ESh)->Nat->Sh.tys C (es.map ESh.sh)->Nat->Uv (Ent C)
 |[],_,_=>λ_=>F
 |e::es,k,x=>λi=>bif M i (ρ k) then e.ent ρ (Sh.hd (s:=e.sh) (l:=es.map ESh.sh) x) else ZO ρ es (k+1) (Sh.tl (s:=e.sh) (l:=es.map ESh.sh) x) i
def Sig.open(g:Sig)(x:g.ty C):St C:=
 {env:=WY (λk=>k) g.ts (g.es.map ESh.sh) x,heap:=ZO (λk=>k) g.es 0 (WZ g.ts (g.es.map ESh.sh) x)}
def zi3:Uv (Ent C)->AV C.D
 |some (.cell cs) =>.agg cs
 |some (.row T s) =>.sl T s I
 |some (.obj k T b s) =>.ifc k (.tup [.str b,.sl T s I])
 |some (.orow T s .all) =>.clo 0 [.sl T s I]
 |some (.orow T s .fix) =>.clo 0 [.sl T s I]
 |some (.orow T s (.upto k)) =>.clo 1 [.int .i64 k,.sl T s I]
 |some (.orow _ _ (.out _)) =>.und
 |none =>.und
abbrev Bl:=List (Uv Nat)
def Bl.fn(bl:Bl)(k:Nat):Uv Nat:=(bl[k]?).join
def vE(S:St C)(bl:Bl)(k:Nat):AV C.D:=match Bl.fn bl k with
 |some id=>zi3 (S.heap id)
 |none =>.und
def zhI(bl:Bl)(k id:Nat):Bl:=match Bl.fn bl k with
 |some _=>bl
 |none=>bl.set k (E id)
mutual
def zi4:Sh->AV C.D->Bl->Bl
 | .row k,A,bl=>(match A with
  | .row id=>zhI bl k id
  |_=>bl)
 | .pc k _,A,bl=>(match A with
  | .pc id _=>zhI bl k id
  |_=>bl)
 | .pr k _ _,A,bl=>(match A with
  | .pr id _ _ _=>zhI bl k id
  |_=>bl)
 | .nx k _,A,bl=>(match A with
  | .nx id _ _ _=>zhI bl k id
  |_=>bl)
 | .nxe k _ _ _,A,bl=>(match A with
  | .nx id _ _ _=>zhI bl k id
  |_=>bl)
 | .nxp k _ _,A,bl=>(match A with
  | .nx id _ _ _=>zhI bl k id
  |_=>bl)
 | .clo _ l,A,bl=>(match A with
  | .clo _ cs=>zgr l cs bl
  |_=>bl)
 | .agg l,A,bl=>(match A with
  | .agg cs=>zgr l cs bl
  |_=>bl)
 | .tup l,A,bl=>(match A with
  | .tup cs=>zgr l cs bl
  |_=>bl)
 | .ifc _ s,A,bl=>(match A with
  | .ifc _ A=>zi4 s A bl
  |_=>bl)
 |_,_,bl=>bl
def zgr:List Sh->List (AV C.D)->Bl->Bl
 |[],_,bl=>bl
 |s::l,As,bl=>(match Sh.isVal s with
  |some T=>zgr l (As.drop (C.size T)) bl
  |none=>(match As with
   |A::As=>zgr l As (zi4 s A bl)
   |[]=>bl))
end
def zgs(S:St C):List (Nat×Sh)->Bl->Bl
 |[],bl=>bl
 |(t,s)::ts,bl=>zgs S ts (zi4 s (S.env t) bl)
def zgt(S:St C):List ESh->Nat->Bl->Bl
 |[],_,bl=>bl
 |e::es,k,bl=>zgt S es (k+1) (zi4 e.sh (vE S bl k) bl)
def zrv:List ESh->Nat->Nat->Bl
 |[],_,_=>[]
 |e::es,k,m=>(bif e.isGone then F else bif O k m then E k else F)::zrv es (k+1) m
def Zz(g:Sig)(m:Nat)(S:St C):Bl:=zgt S g.es 0 (zgs S g.ts (zrv g.es 0 m))
def yf(id:Nat):Bl->Bool
 |[]=>I
 |some a::r=>M a id || yf id r
 |none::r=>yf id r
def zkX(m:Nat):List ESh->Bl->Nat->Bool
 |[],[],_=>G
 |e::es,b::bl,k=>(match b with
  |some id=> !e.isGone && (!yf id bl && (!O k m || M k id))
  |none=>e.isGone) && zkX m es bl (k+1)
 |_,_,_=>I
def zfA(S:St C)(m:Nat):List ESh->Nat->Bool
 |[],_=>G
 |e::es,k=>(match e with
  | .forow _=> !O k m || Z1 (S.heap k)
  |_=>G) && zfA S m es (k+1)
def YX(g:Sig)(m:Nat)(S:St C)(bl:Bl):Uv (g.ty C):=
 chk (zkX m g.es bl 0 && zfA S m g.es 0) (Sh.gets (Bl.fn bl) g.shs (g.ts.map (λt=>S.env t.1)++(Y g.es.length).map (vE S bl)))
mutual
def fzS:Sh->AV C.D->List Nat
 | .sl _,A=>AV.rows A
 | .val _,A=>AV.rows A
 | .clo _ l,A=>(match A with
  | .clo _ cs=>fzL l cs
  |_=>[])
 | .agg l,A=>(match A with
  | .agg cs=>fzL l cs
  |_=>[])
 | .tup l,A=>(match A with
  | .tup cs=>fzL l cs
  |_=>[])
 | .ifc _ s,A=>(match A with
  | .ifc _ A=>fzS s A
  |_=>[])
 |_,_=>[]
def fzL:List Sh->List (AV C.D)->List Nat
 |[],_=>[]
 |s::l,As=>(match Sh.isVal s with
  |some T=>AV.rowss (As.take (C.size T))++fzL l (As.drop (C.size T))
  |none=>(match As with
   |A::As=>fzS s A++fzL l As
   |[]=>[]))
end
def fzT(S:St C):List (Nat×Sh)->List Nat
 |[]=>[]
 |(t,s)::ts=>fzS s (S.env t)++fzT S ts
def fzE(S:St C)(bl:Bl):List ESh->Nat->List Nat
 |[],_=>[]
 |e::es,k=>(match e with
  | .cell l=>(match vE S bl k with
   | .agg cs=>fzL l cs
   |_=>[])
  |_=>[])++fzE S bl es (k+1)
def zgu(C:Cod)(es:List ESh)(k:Nat):Uv (Ent C):=match es[k]? with
 |some (.row T)=>E (.row T ⟨[],I⟩)
 |some (.orow T)=>E (.orow T ⟨[],I⟩ .all)
 |some (.forow T)=>E (.orow T ⟨[],I⟩ .all)
 |_=>F
def zx5(C:Cod)(s:Sh):Nat:=match Sh.isVal s with | some T=>C.size T | none=>1
def nilA1(es:List ESh)(t:Nat)(s:Sh)(p:Nat)(S:St C):St C:=match s,S.env t with
 | .row k,.agg cs=>(match cs[p]?,zgu C es k with
  |some .nils,E e=>bif isNone (S.heap (1048576+k)) then {env:=upd S.env t (.agg (cs.set p (.row (1048576+k)))),heap:=upd S.heap (1048576+k) (E e)} else S
  |_,_=>S)
 |_,_=>S
def nilA(es:List ESh)(t:Nat):List Sh->Nat->St C->St C
 |[],_,S=>S
 |s::l,p,S=>nilA es t l (p+zx5 C s) (nilA1 es t s p S)
def nilT(es:List ESh):List (Nat×Sh)->St C->St C
 |[],S=>S
 |(t,s)::ts,S=>nilT es ts (match s,S.env t with
  | .row k,.nils=>(match zgu C es k with
   |some e=>bif isNone (S.heap (1048576+k)) then {env:=upd S.env t (.row (1048576+k)),heap:=upd S.heap (1048576+k) (E e)} else S
   |none=>S)
  | .agg l,.agg _=>nilA es t l 0 S
  |_,_=>S)
def nil1(es:List ESh)(id:Nat)(s:Sh)(p:Nat)(S:St C):St C:=match s,S.heap id with
 | .row k,E (.cell cs)=>(match cs[p]?,zgu C es k with
  |some .nils,E e=>bif isNone (S.heap (1048576+k)) then {S with heap:=upd (upd S.heap (1048576+k) (E e)) id (E (.cell (cs.set p (.row (1048576+k)))))} else S
  |_,_=>S)
 |_,_=>S
def nilC(es:List ESh)(id:Nat):List Sh->Nat->St C->St C
 |[],_,S=>S
 |s::l,p,S=>nilC es id l (p+zx5 C s) (nil1 es id s p S)
def zgv(all:List ESh)(bl:Bl)(e:ESh)(k:Nat)(S:St C):St C:=match e,Bl.fn bl k with
 | .cell l,E id=>nilC all id l 0 S
 |_,_=>S
def nilE(all:List ESh)(bl:Bl):List ESh->Nat->St C->St C
 |[],_,S=>S
 |e::es,k,S=>nilE all bl es (k+1) (zgv all bl e k S)
def Sig.prep(g:Sig)(m:Nat)(S:St C):St C:=
 let S1:=nilT g.es g.ts (S.frz (fzT S g.ts))
 let S2:=nilE g.es (Zz g m S1) g.es 0 S1
 S2.frz (fzE S2 (Zz g m S2) g.es 0)
def zs0(bl:Bl)(e:ESh)(k:Nat)(S:St C):St C:=match e,Bl.fn bl k with
 | .xrow _,E id=>(match S.heap id with
  |some (.row T s)=>bif O (C.nst T) (C.size T) then S.owk id (.orow T s (.upto 0)) else S
  |_=>S)
 |_,_=>S
def zs1(bl:Bl):List ESh->Nat->St C->St C
 |[],_,S=>S
 |e::es,k,S=>zs1 bl es (k+1) (zs0 bl e k S)
def Sig.close(g:Sig)(m:Nat)(S:St C):Uv (g.ty C):=
 let S1:=g.prep m S
 let S2:=zs1 (Zz g m S1) g.es 0 S1
 YX g m S2 (Zz g m S2)
end
section
variable {κ:Kp}{C:Cod}{S:St C}{ν:Val}{vs:Nat->List Value}{ids:List Nat}{L:List (Nat×Value)}{b:Nat->Value}{Z:FS}{PV:List Priv}
variable {n:Nat}{w0:Start}{σ0:FS}
theorem zce{B:Nat->Uv Nat}:∀(ts:List (Nat×Sh)) (a:List Sh) {avs b:List (AV C.D)}{x:Sh.tys C (ts.map (·.2)++a)},avs.length=ts.length->Sh.gets B (ts.map (·.2)++a) (avs++b)=E x->Sh.gets B a b=E (WZ ts a x)
 |[],a,avs,b,x,hl,h=>by
  have:avs=[]:=UJ hl;subst this;exact h
 |(t,s)::ts,a,A::avs,b,x,hl,h=>by
  let⟨y,d,h⟩:=gd h;let⟨z,c,h⟩:=gd h;cases h;show Sh.gets B a b=E (WZ ts a (Sh.tl (s:=s) (l:=ts.map (·.2)++a) (Sh.pk y z)));rw[Sh.tl_pk];exact zce ts a (by simpa using hl) c
 |_::_,_,[],_,_,hl,_=>by simp at hl
theorem zcf {B:Nat->Uv Nat}{ρ:Nat->Nat}{ν':Val}(d:Rn B ρ ν ν') (a:List Sh) {c:List (AV C.D)}(g:∀t,VR C Z ν (look L b t) (S.env t)):∀(ts:List (Nat×Sh)) {x:Sh.tys C (ts.map (·.2)++a)},
    Sh.gets B (ts.map (·.2)++a) (ts.map (λt=>S.env t.1)++c)=E x->∀t,VR C Z ν' (look L b t) (WY ρ ts a x t)/\(WY ρ ts a x t).ok (InB B ρ)
 |[],x,h,t=>⟨trivial,trivial⟩
 |(t0,s)::ts,x,h,t=>by
   let⟨y,f,h⟩:=gd h;let⟨z,i,h⟩:=gd h;cases h;have j:=zcf d a g ts i t;unfold WY;rw[show Sh.hd (s:=s) (l:=ts.map (·.2)++a) (Sh.pk y z)=y from Sh.hd_pk,show Sh.tl (s:=s) (l:=ts.map (·.2)++a) (Sh.pk y z)=z from Sh.tl_pk];cases e:M t t0 with
   |true=>
    have:=ge e;subst this;exact⟨Sh.get_put d s f (g t),Sh.put_ok s f⟩
   |false=>exact j
theorem za6 {B:Nat->Uv Nat}{ρ:Nat->Nat}{ν':Val}(p:Rn B ρ ν ν') {N:Nat}(D:∀i j,i < N->j < N->ρ i=ρ j->i=j) (f:∀id cs,S.heap id=E (.cell cs)->VRs C Z ν (vs id) cs):∀(es:List ESh) (k0:Nat) {x:Sh.tys C (es.map ESh.sh)},
    k0+es.length<=N->Sh.gets B (es.map ESh.sh) ((qA k0 es.length).map λk=>match B k with | some id=>zi3 (S.heap id) | none =>.und)=E x->
    (∀k e,es[k]?=E e->(e.isGone=G↔B (k0+k)=F))->∀k id,B k=E id->k0<=k->k < k0+es.length->
      (∃cs cs',S.heap id=E (.cell cs)/\ZO ρ es k0 x (ρ k)=E (.cell cs')/\VRs C Z ν' (vs id) cs'/\AV.oks (InB B ρ) cs')\/(∃T s,S.heap id=E (.row T s)/\ZO ρ es k0 x (ρ k)=E (.row T s))\/(∃q T b s,S.heap id=E (.obj q T b s)/\ZO ρ es k0 x (ρ k)=E (.obj q T b s))\/∃T s g g',S.heap id=E (.orow T s g)/\ZO ρ es k0 x (ρ k)=E (.orow T s g')/\∀j,j < s.xs.length->g.fl j=g'.fl j
 |[],k0,x,hN,h,hg,k,id,hB,h1,h2=>jE
 |e::es,k0,x,hN,h,hg,k,id,hB,h1,h2=>by
  simp only[jz] at hN h2;simp only[jz,List.range'_succ,U8] at h;let⟨y,a,h⟩:=gd h;let⟨z,H,h⟩:=gd h;cases h;have ih:=za6 p D f es (k0+1) (x:=z) Zd H (λj e' c=>by have:=hg (j+1) e' (by simpa using c);grind) k id hB;unfold ZO;rw[show Sh.hd (s:=e.sh) (l:=es.map ESh.sh) (Sh.pk y z)=y from Sh.hd_pk,show Sh.tl (s:=e.sh) (l:=es.map ESh.sh) (Sh.pk y z)=z from Sh.tl_pk];by_cases U:k=k0
  · subst U;simp only[Nat.beq_refl,Dq];rw[hB] at a;simp only at a;have v:e.isGone=false:=by
      cases P:e.isGone with
      |false=>rfl
      |true=>have:=(hg 0 e rfl).1 P;grind
    cases e with
    |gone=>cases v
    |cell l=>
     left;cases hs:S.heap id with
     |none=>rw[hs] at a;cases a
     |some d=>
      rw[hs] at a;cases d with
      |row T s=>cases a
      |obj q T b s=>cases a
      |orow T s g=>cases g<;>cases a
      |cell cs=>
       have a:Sh.getc B l cs=E y:=a;exact⟨cs,_,rfl,rfl,Sh.getc_putc p l a (f id cs hs),Sh.putc_ok l a⟩
    |row T=>
     right;left;cases hs:S.heap id with
     |none=>rw[hs] at a;cases a
     |some d=>
      rw[hs] at a;cases d with
      |cell cs=>cases a
      |obj q T b s=>cases a
      |orow T s g=>cases g<;>cases a
      |row T' s=>
       let⟨e,c⟩:=yK (show Xp s=E y from a);subst e;subst c;exact⟨_,_,rfl,rfl⟩
    |obj q T=>
     right;right;left;cases hs:S.heap id with
     |none=>rw[hs] at a;cases a
     |some d=>
      rw[hs] at a;cases d with
      |cell cs=>cases a
      |row T' s=>cases a
      |orow T s g=>cases g<;>cases a
      |obj q' T' b s=>
       let⟨u,t⟩:=zb (show chk (M q q') (Sh.gets B [.str,.sl T] [.str b,.sl T' s I])=E y from a);have u:=ge u;let⟨s',A,r⟩:=gd (show(Sh.gets B [.sl T] [.sl T' s I]).bind (λz=>E (Sh.pk (s :=.str) (l:=[.sl T]) b z))=E y from t);let⟨R,n,m⟩:=gd (show(Xp s).bind (λz=>E (Sh.pk (s :=.sl T) (l:=[]) z ()))=E s' from A);cases m;cases r;subst u;let⟨e,c⟩:=yK n;subst e;subst c;refine⟨_,_,b,_,rfl,?_⟩;show E (Ent.obj q T' (Sh.hd (s :=.str) (l:=[.sl T']) (Sh.pk (s :=.str) (l:=[.sl T']) b (Sh.pk (s :=.sl T') (l:=[]) s ()))) (Sh.hd (s :=.sl T') (l:=[]) (Sh.tl (s :=.str) (l:=[.sl T']) (Sh.pk (s :=.str) (l:=[.sl T']) b (Sh.pk (s :=.sl T') (l:=[]) s ())))))=_;rw[show Sh.hd (s :=.str) (l:=[.sl T']) (Sh.pk (s :=.str) (l:=[.sl T']) b (Sh.pk (s :=.sl T') (l:=[]) s ()))=b from Sh.hd_pk,show Sh.tl (s :=.str) (l:=[.sl T']) (Sh.pk (s :=.str) (l:=[.sl T']) b (Sh.pk (s :=.sl T') (l:=[]) s ()))=_ from Sh.tl_pk,show Sh.hd (s :=.sl T') (l:=[]) (Sh.pk (s :=.sl T') (l:=[]) s ())=s from Sh.hd_pk]
    |orow T=>
     right;right;right;cases hs:S.heap id with
     |none=>rw[hs] at a;cases a
     |some d=>
      rw[hs] at a;cases d with
      |cell cs=>cases a
      |row T' s=>cases a
      |obj q' T' b s=>cases a
      |orow T' s g=>
       cases g with
       |out i=>cases a
       |all=>
        let⟨e,c⟩:=yK (show Xp s=E y from a);subst e;subst c;exact⟨_,_,.all,.all,rfl,rfl,λ_ _=>rfl⟩
       |fix=>
        let⟨e,c⟩:=yK (show Xp s=E y from a);subst e;subst c;exact⟨_,_,.fix,.all,rfl,rfl,λ_ _=>rfl⟩
       |upto k=>
        let⟨f,a⟩:=zb (show chk (decide (s.len<=k)) (Xp s)=E y from a);have f:=Dn f;let⟨e,c⟩:=yK a;subst e;subst c;refine⟨_,_,.upto k,.all,rfl,rfl,λj K=>?_⟩;show(if j < k.toNat then 1 else 0)=1;rw[jv (by unfold Sl.len at f;omega)]
    |forow T=>
     right;right;right;cases hs:S.heap id with
     |none=>rw[hs] at a;cases a
     |some d=>
      rw[hs] at a;cases d with
      |cell cs=>cases a
      |row T' s=>cases a
      |obj q' T' b s=>cases a
      |orow T' s g=>
       cases g with
       |out i=>cases a
       |all=>
        let⟨e,c⟩:=yK (show Xp s=E y from a);subst e;subst c;exact⟨_,_,.all,.fix,rfl,rfl,λ_ _=>rfl⟩
       |fix=>
        let⟨e,c⟩:=yK (show Xp s=E y from a);subst e;subst c;exact⟨_,_,.fix,.fix,rfl,rfl,λ_ _=>rfl⟩
       |upto k=>
        let⟨f,a⟩:=zb (show chk (decide (s.len<=k)) (Xp s)=E y from a);have f:=Dn f;let⟨e,c⟩:=yK a;subst e;subst c;refine⟨_,_,.upto k,.fix,rfl,rfl,λj K=>?_⟩;show(if j < k.toNat then 1 else 0)=1;rw[jv (by unfold Sl.len at f;omega)]
    |xrow T=>
     right;right;right;cases hs:S.heap id with
     |none=>rw[hs] at a;cases a
     |some d=>
      rw[hs] at a;cases d with
      |cell cs=>cases a
      |row T' s=>cases a
      |obj q' T' b s=>cases a
      |orow T' s g=>
       cases g with
       |out i=>cases a
       |all=>cases a
       |fix=>cases a
       |upto k=>
        let⟨X,o,a⟩:=gd (show(Sh.get B (.int .i64) (.int .i64 k)).bind (λx=>(Sh.gets B [.sl T] [.sl T' s I]).bind λz=>E (Sh.pk (s :=.int .i64) (l:=[.sl T]) x z))=E y from a);let⟨Q,w,a⟩:=gd a;let⟨R,n,m⟩:=gd (show(Xp s).bind (λz=>E (Sh.pk (s :=.sl T) (l:=[]) z ()))=E Q from w);cases m;cases a;let⟨_,o⟩:=zb o;cases o;let⟨e,c⟩:=yK n;subst e;subst c;refine⟨_,_,.upto k,.upto k,rfl,?_,λ_ _=>rfl⟩;show E (Ent.orow T' (Sh.hd (s :=.sl T') (l:=[]) (Sh.tl (s :=.int .i64) (l:=[.sl T']) (Sh.pk (s :=.int .i64) (l:=[.sl T']) k (Sh.pk (s :=.sl T') (l:=[]) s ())))) (.upto (Sh.hd (s :=.int .i64) (l:=[.sl T']) (Sh.pk (s :=.int .i64) (l:=[.sl T']) k (Sh.pk (s :=.sl T') (l:=[]) s ())))))=_;rw[show Sh.hd (s :=.int .i64) (l:=[.sl T']) (Sh.pk (s :=.int .i64) (l:=[.sl T']) k (Sh.pk (s :=.sl T') (l:=[]) s ()))=k from Sh.hd_pk,show Sh.tl (s :=.int .i64) (l:=[.sl T']) (Sh.pk (s :=.int .i64) (l:=[.sl T']) k (Sh.pk (s :=.sl T') (l:=[]) s ()))=_ from Sh.tl_pk,show Sh.hd (s :=.sl T') (l:=[]) (Sh.pk (s :=.sl T') (l:=[]) s ())=s from Sh.hd_pk]
  · have L:M (ρ k) (ρ k0)=false:=by
      cases e':M (ρ k) (ρ k0) with
      |false=>rfl
      |true=>
       exfalso;have e2:=ge e';grind
    grind
end
variable [Dfr]
section
variable {κ:Kp}{C:Cod}{S:St C}{ν:Val}{vs:Nat->List Value}{ids:List Nat}{L:List (Nat×Value)}{b:Nat->Value}{Z:FS}{PV:List Priv}
variable {n:Nat}{w0:Start}{σ0:FS}
theorem Xi{id:Nat}:∀{bl:Bl}{k:Nat},Bl.fn bl k=E id->yf id bl=G
 |[],k,h=>by simp[Bl.fn] at h
 |none::r,0,h=>by simp[Bl.fn] at h
 |some a::r,0,h=>by
  have:a=id:=by simpa[Bl.fn] using h
  subst this;simp[yf]
 |none::r,k+1,h=>by
  have:Bl.fn r k=E id:=by simpa[Bl.fn] using h
  simp[yf,Xi this]
 |some a::r,k+1,h=>by
  have:Bl.fn r k=E id:=by simpa[Bl.fn] using h
  simp[yf,Xi this]
structure BdOK(m:Nat)(es:List ESh)(B:Nat->Uv Nat):Prop where
 gone:∀k e,es[k]?=E e->(e.isGone=G↔B k=F)
 lt:∀k id,B k=E id->k < es.length
 inj:∀i j id,B i=E id->B j=E id->i=j
 same:∀k id,k < m->B k=E id->k=id
theorem zni{m:Nat}:∀{es:List ESh}{bl:Bl}{k0:Nat},zkX m es bl k0=G->(∀k e,es[k]?=E e->(e.isGone=G↔Bl.fn bl k=F))/\(∀k id,Bl.fn bl k=E id->k < es.length)/\(∀i j id,Bl.fn bl i=E id->Bl.fn bl j=E id->i=j)/\(∀k id,k0+k < m->Bl.fn bl k=E id->k0+k=id)
 |[],[],k0,h=>⟨λk e a=>by simp at a,λk id a=>by simp[Bl.fn] at a,λi j id a=>by simp[Bl.fn] at a,λk id _ a=>by simp[Bl.fn] at a⟩
 |[],_::_,k0,h=>by cases h
 |_::_,[],k0,h=>by cases h
 |e::es,b::bl,k0,h=>by
  simp only[zkX,gf] at h;let⟨h1,h2⟩:=h;let⟨d,i2,i3,i4⟩:=zni h2;have hs:∀k,Bl.fn (b::bl) (k+1)=Bl.fn bl k:=λk=>by simp[Bl.fn]
  have h0:Bl.fn (b::bl) 0=b:=by simp[Bl.fn]
  refine⟨λk e' a=>?_,λk id a=>?_,λi j id hi c=>?_,λk id f a=>?_⟩
  ·cases k with
   |zero=>
    simp at a;grind
   |succ k=>grind
  ·cases k with
   |zero=>simp
   |succ k=>grind
  ·cases i with
   |zero=>
    cases j with
    |zero=>rfl
    |succ j=>
     rw[h0] at hi;subst hi;rw[hs] at c;simp only[gf,Do] at h1;rw[Xi c] at h1;simp at h1
   |succ i=>
    cases j with
    |zero=>
     rw[h0] at c;subst c;rw[hs] at hi;simp only[gf,Do] at h1;rw[Xi hi] at h1;simp at h1
    |succ j=>grind
  ·cases k with
   |zero=>
    rw[h0] at a;subst a;simp only[gf,UH,Do] at h1;rcases h1.2.2 with q | q
    ·have:¬ O k0 m=true:=by rw[q];simp
     rw[UT] at this;omega
    ·have:=ge q;omega
   |succ k=>
    grind
omit [Dfr] in
theorem BdOK.of{m:Nat}{es:List ESh}{bl:Bl}(h:zkX m es bl 0=G):BdOK m es (Bl.fn bl):=by
 let⟨h1,h2,a,b⟩:=zni h;exact⟨h1,h2,a,λk id c hb=>jE⟩
theorem vQ{ρ:Nat->Nat}:∀(es:List ESh) (k0:Nat) {x:Sh.tys C (es.map ESh.sh)}{i:Nat},(∀k e,es[k]?=E e->i=ρ (k0+k)->e.isGone=G)->ZO ρ es k0 x i=F
 |[],_,_,_,_=>rfl
 |e::es,k0,x,i,h=>by
  unfold ZO;cases e':M i (ρ k0) with
  |true=>
   have:=h 0 e rfl (ge e');cases e with
   |gone=>rfl
   |cell=>cases this
   |row=>cases this
   |obj=>cases this
   |orow=>cases this
   |xrow=>cases this
   |forow=>cases this
  |false=>exact vQ es (k0+1) λk e a hi=>h (k+1) e (by simpa using a) jE
theorem zdH{ρ:Nat->Nat}:∀(es:List ESh) (k0:Nat) {x:Sh.tys C (es.map ESh.sh)}{i:Nat},Z1 (ZO ρ es k0 x i)=G->∃k T,es[k]?=E (.forow T)/\i=ρ (k0+k)
 |[],_,_,_,h=>by cases h
 |e::es,k0,x,i,h=>by
  unfold ZO at h;cases e':M i (ρ k0) with
  |true=>
   rw[e',Dq] at h;cases e with
   |forow T=>exact⟨0,T,rfl,ge e'⟩
   |gone=>cases h
   |cell=>cases h
   |row=>cases h
   |obj=>cases h
   |orow=>cases h
   |xrow=>cases h
  |false=>
   rw[e',U0] at h;let⟨k,T,h1,h2⟩:=zdH es (k0+1) h;exact⟨k+1,T,by simpa using h1,jE⟩
theorem znj{m:Nat}:∀{es:List ESh}{k0:Nat},zfA S m es k0=G->∀{k T:Nat},es[k]?=E (.forow T)->k0+k < m->Z1 (S.heap (k0+k))=G
 |[],_,_,k,T,h,_=>by simp at h
 |e::es,k0,h,k,T,hk,hm=>by
  unfold zfA at h;simp only[gf] at h;cases k with
  |zero=>
   simp at hk;subst hk;have h1:=h.1;simp only[UH,Do] at h1;rcases h1 with q | q
   ·have:O k0 m=true:=by rw[UT];omega
    grind
   ·exact q
  |succ k=>
   have:=znj h.2 (k:=k) (T:=T) (by simpa using hk) Zd;grind
theorem AbsL.rename (h:AbsL κ S ν vs ids L b Z PV) {g:Sig}{bl:Bl}{x:g.ty C}(hg:YX g κ.m S bl=E x) :
    ∃ν' vs' ids' PV',AbsL κ (g.open x) ν' vs' ids' L b Z PV'/\∀w,Inv w0 σ0 Z PV w->Inv w0 σ0 Z PV' w:=by
 let⟨hb,hg⟩:=zb hg;let⟨hb,hfx⟩:=(gf _ _).mp hb;have hB:=BdOK.of hb
 let B:=Bl.fn bl
 let ν':Val:={hdr:=λk=>match B k with | some id=>ν.hdr id | none =>.slice F 0 0,adr:=λk=>match B k with | some id=>ν.adr id | none=>default}
 let vs':Nat->List Value:=λk=>match B k with | some id=>vs id | none=>[]
 have hν:Rn B (λk=>k) ν ν':=⟨λk id e=>by simp[ν',e],h.one⟩;have hsplit:=zce g.ts (g.es.map ESh.sh) (avs:=g.ts.map λt=>S.env t.1) (by simp) hg;have hsl:(Y g.es.length).map (vE S bl)=(qA 0 g.es.length).map λk=>match B k with | some id=>zi3 (S.heap id) | none =>.und:=by
  rw[<- List.range_eq_range'];rfl
 rw[hsl] at hsplit;have hheap:=λk id (e:B k=E id)=>za6 (N:=g.es.length) hν (λi j _ _ e=>e) h.cell g.es 0 (by omega) hsplit (λk e he=>by rw[US];exact hB.gone k e he) k id e (UE _) (by have:=hB.lt k id e;omega)
 have hnone:∀k,B k=F->(g.open x).heap k=none:=λk e=>by
  refine vQ g.es 0 λj e' he hj=>?_
  have hj:k=j:=by simpa using hj
  subst hj;exact(hB.gone k e' he).2 e
 have hsome:∀k,((g.open x).heap k).isSome=G↔(B k).isSome=true:=λk=>by
  cases e:B k with
  |none=>grind
  |some id=>
   rcases hheap k id e with⟨cs,cs',_,h2,_⟩ | ⟨T,s,_,h2⟩ | ⟨q,T,b2,s,_,h2⟩ | ⟨T,s,g1,g2,_,h2,_⟩
   all_goals rw[show(g.open x).heap k=_ from h2];simp
 have henv:=zcf (L:=L) (b:=b) (Z:=Z) hν (g.es.map ESh.sh) h.env g.ts hg
 let ids':=(Y g.es.length).filter λk=>(B k).isSome
 have hmem:∀k,k∈ids'↔(B k).isSome=true:=λk=>by
  simp only[ids',Dz,D0];refine⟨λh=>h.2,λh=>⟨?_,h⟩⟩;let⟨id,e⟩:=UG.1 h;exact hB.lt k id e
 have hpos:∀k,k∈ids'->∃(id m:Nat),B k=E id/\ids[m]?=E id/\PV[m]?=E (zK C ν' vs' k ((g.open x).heap k)):=λk hk=>by
  let⟨id,e⟩:=UG.1 ((hmem k).1 hk);rcases hheap k id e with⟨cs,cs',h1,h2,_⟩ | ⟨T,s,h1,h2⟩ | ⟨q,T,b2,s,h1,h2⟩ | ⟨T,s,g1,g2,h1,h2,h3⟩
  ·let⟨m,hm,hid⟩:=h.at h1;refine⟨id,m,e,hid,?_⟩;rw[hm,show(g.open x).heap k=_ from h2];simp[zK,ν',vs',e]
  ·let⟨m,hm,hid⟩:=h.at h1;refine⟨id,m,e,hid,?_⟩;rw[hm,show(g.open x).heap k=_ from h2];simp[zK,ν',e]
  ·let⟨m,hm,hid⟩:=h.at h1;refine⟨id,m,e,hid,?_⟩;rw[hm,show(g.open x).heap k=_ from h2];simp[zK,ν',e]
  ·let⟨m,hm,hid⟩:=h.at h1;refine⟨id,m,e,hid,?_⟩;rw[hm,show(g.open x).heap k=_ from h2];simp only[zK,ν',e];rw[zda λj hj=>⟨h3 j hj,rfl⟩]
 classical
 let pos:Nat->Nat:=λk=>if hk:k∈ids' then(hpos k hk).choose_spec.choose else 0
 have hposk:∀k (hk:k∈ids'),B k=E (hpos k hk).choose/\ids[pos k]?=E (hpos k hk).choose/\PV[pos k]?=E (zK C ν' vs' k ((g.open x).heap k)):=λk hk=>by
  have:=(hpos k hk).choose_spec.choose_spec;grind
 have hnd:ids'.Nodup:=List.Nodup.sublist List.filter_sublist List.nodup_range;refine⟨ν',vs',ids',ids'.map λk=>zK C ν' vs' k ((g.open x).heap k),⟨⟨hnd,λk=>by grind,rfl,λk cs hk=>?_,λt=>(henv t).1,λi=>?_⟩,λt=>?_,λk cs hk=>?_,λk hk hs=>?_⟩,λw hi=>hi.sub_own λgg ks=>?_⟩
 · have hB1:=(hsome k).1 (by rw[hk];rfl);let⟨id,e⟩:=UG.1 hB1;rcases hheap k id e with⟨c,c',h1,h2,h3,_⟩ | ⟨T,s,h1,h2⟩ | ⟨q,T,b2,s,h1,h2⟩ | ⟨T,s,g1,g2,h1,h2,_⟩
   ·rw[show(g.open x).heap k=_ from h2] at hk;grind
   ·rw[show(g.open x).heap k=_ from h2] at hk;cases hk
   ·rw[show(g.open x).heap k=_ from h2] at hk;cases hk
   ·rw[show(g.open x).heap k=_ from h2] at hk;cases hk
 · simp only[ν'];cases B i with
   |none=>rfl
   |some id=>exact h.one id
 ·refine AV.ok_mono (λj hj=>?_) (henv t).2;let⟨k2,id2,e2,e3⟩:=hj;grind
 · have hB1:=(hsome k).1 (by rw[hk];rfl);let⟨id,e⟩:=UG.1 hB1;rcases hheap k id e with⟨c,c',h1,h2,_,h4⟩ | ⟨T,s,h1,h2⟩ | ⟨q,T,b2,s,h1,h2⟩ | ⟨T,s,g1,g2,h1,h2,_⟩
   ·rw[show(g.open x).heap k=_ from h2] at hk;cases hk;refine AV.oks_mono (λj hj=>?_) h4;let⟨k2,id2,e2,e3⟩:=hj;grind
   ·rw[show(g.open x).heap k=_ from h2] at hk;cases hk
   ·rw[show(g.open x).heap k=_ from h2] at hk;cases hk
   ·rw[show(g.open x).heap k=_ from h2] at hk;cases hk
 · obtain ⟨id,e⟩:=UG.1 ((hsome k).1 hs);have:=hB.same k id hk e;subst this;have hS:(S.heap k).isSome=true:=by
     rcases hheap k k e with⟨c,c',h1,_⟩ | ⟨T,s,h1,_⟩ | ⟨q,T,b2,s,h1,_⟩ | ⟨T,s,g1,g2,h1,_⟩<;>rw[h1]<;>rfl
   have:=h.keep k hk hS;refine⟨by simpa[ν',e] using this.1,by simpa[ν',e] using this.2.1,λhf=>?_⟩;let⟨j,T,h1,h2⟩:=zdH g.es 0 (show Z1 (ZO (λk=>k) g.es 0 (WZ g.ts (g.es.map ESh.sh) x) k)=G from hf);have h2:k=j:=by simpa using h2
   subst h2;have:=this.2.2 (by have:=znj hfx h1 (by omega);rwa [US] at this);simpa[ν',e] using this
 · refine ks.select (ids'.map pos) ?_ ?_
   ·rw[U6,List.pairwise_map];refine List.Pairwise.imp_of_mem ?_ (U6.1 hnd);intro i j hi hj hne e;let⟨e1,e2,_⟩:=hposk i hi;let⟨e3,e4,_⟩:=hposk j hj;rw[e] at e2;rw[e2] at e4;rw[<- V.inj e4] at e3;exact hne (hB.inj i j _ e1 e3)
   ·rw[qB,qB];exact Ds λk hk=>(hposk k hk).2.2
end
variable [Dfr]
section
variable {κ:Kp}{C:Cod}{S:St C}{ν:Val}{vs:Nat->List Value}{ids:List Nat}{L:List (Nat×Value)}{b:Nat->Value}{Z:FS}{PV:List Priv}
variable {n:Nat}{w0:Start}{σ0:FS}
theorem zs2{t:Nat}{v:Value}(h:look L b t=v):∀i,look ((t,v)::L) b i=look L b i:=λi=>by
 show(bif M i t then v else look L b i)=_;cases e:M i t with
 |true=>rw[ge e];exact h.symm
 |false=>rfl
theorem zD.unput{t:Nat}{v:Value}(h:zD κ S ((t,v)::L) b Z PV)(a:look L b t=v):zD κ S L b Z PV:=by
 let⟨ν,vs,ids,h⟩:=h;exact⟨ν,vs,ids,⟨⟨h.nd,h.dom,h.pv,h.cell,λt=>by have:=h.env t;rw[zs2 a] at this;exact this,h.one⟩,h.live,h.livec,h.keep⟩⟩
theorem zcg{es:List ESh}{k:Nat}{e:Ent C}(h:zgu C es k=E e):(∃T,e = .row T ⟨[],I⟩)\/∃T,e = .orow T ⟨[],I⟩ .all:=by
 unfold zgu at h;grind
theorem znk{T:Nat}{sub:Nat->Value}{g:Own}:hpl C T sub ⟨[],I⟩ g=⟨[],I⟩:=by simp[hpl]
theorem AbsL.pvEq{PV':List Priv}(h:AbsL κ S ν vs ids L b Z PV)(e:PV=PV'):AbsL κ S ν vs ids L b Z PV':=e ▸ h
theorem AbsL.addRow (h:AbsL κ S ν vs ids L b Z PV) {id:Nat}{e:Ent C}(he:(∃T,e = .row T ⟨[],I⟩)\/∃T,e = .orow T ⟨[],I⟩ .all) (h0:S.heap id=F) (h64:κ.m<=id) :
    ∃ν' pv,AbsL κ {S with heap:=upd S.heap id (E e)} ν' (upd vs id []) (id::ids) L b Z (pv::PV)/\ν'.hdr id = .slice F 0 0/\(∀j,(S.heap j).isSome=G->ν.hdr j=ν'.hdr j/\ν.adr j=ν'.adr j)/\∀{w0:Start} {σ0:FS} {w:World},Inv w0 σ0 Z PV w->Inv w0 σ0 Z (pv::PV) w:=by
 let ν':Val:={hdr:=upd ν.hdr id (.slice F 0 0),adr:=upd ν.adr id default}
 have hec:∀cs,e ≠.cell cs:=λcs ee=>by grind
 have hvs:zK C ν' (upd vs id []) id (E e)=zK C ν' (upd vs id []) id (E e):=rfl;have hne:∀j,(S.heap j).isSome=G->j≠id:=λj hj e=>by grind
 have hag:∀j,(S.heap j).isSome=G->ν.hdr j=ν'.hdr j/\ν.adr j=ν'.adr j:=λj hj=>⟨(zq (hne j hj)).symm,(zq (hne j hj)).symm⟩
 have hlv:∀j,(S.heap j).isSome=G->(upd S.heap id (E e) j).isSome=true:=λj hj=>by rw[zq (hne j hj)];exact hj
 have hid:id ∉ ids:=λhm=>by have:=(h.dom id).1 hm;grind
 refine⟨ν',zK C ν' (upd vs id []) id (E e),⟨⟨U7.2 ⟨hid,h.nd⟩,λj=>?_,?_,λj cs hj=>?_,λt=>(h.env t).congr hag (h.live t),λi=>?_⟩,λt=>AV.ok_mono hlv (h.live t),λj cs hj=>?_,λk hk hs=>?_⟩,zp,hag,λ{w0 σ0 w} hi=>?_⟩
 · by_cases e':j=id
   ·subst e';show _↔(upd S.heap j (E e) j).isSome=G;rw[zp];simp
   ·show _↔(upd S.heap id (E e) j).isSome=G;rw[zq e',UU,h.dom];grind
 · rw[U8,h.pv];refine qs.2 ⟨?_,Ds λj hj=>?_⟩
   ·show _=zK C ν' _ id (upd S.heap id (E e) id);rw[zp]
   · have hj':=hne j ((h.dom j).1 hj);show zK C ν vs j (S.heap j)=zK C ν' (upd vs id []) j (upd S.heap id (E e) j);rw[zq hj'];cases S.heap j with
     |none=>rfl
     |some en=>cases en<;>simp[zK,ν',zq hj']
 · by_cases e':j=id
   ·subst e';have hj:upd S.heap j (E e) j=_:=hj;rw[zp] at hj;grind
   ·have hj:upd S.heap id (E e) j=_:=hj;rw[zq e'] at hj;show VRs C Z ν' (upd vs id [] j) cs;rw[zq e'];exact(h.cell j cs hj).congr hag (h.livec j cs hj)
 · by_cases e':i=id
   ·subst e';show(upd ν.hdr i _ i).oneCell'=G;rw[zp];rfl
   ·show(upd ν.hdr id _ i).oneCell'=G;rw[zq e'];exact h.one i
 · by_cases e':j=id
   ·subst e';have hj:upd S.heap j (E e) j=_:=hj;rw[zp] at hj;grind
   ·have hj:upd S.heap id (E e) j=_:=hj;rw[zq e'] at hj;exact AV.oks_mono hlv (h.livec j cs hj)
 · have hne':k≠id:=by omega
   have hs:(upd S.heap id (E e) k).isSome=true:=hs;rw[zq hne'] at hs;have:=hag k hs;have h2:=h.keep k hk hs;refine⟨this.1.symm.trans h2.1,(congrArg Loc.a this.2).symm.trans h2.2.1,λhf=>(congrArg Loc.sub this.2).symm.trans (h2.2.2 ?_)⟩;have hf:Z1 (upd S.heap id (E e) k)=true:=hf;rw[zq hne'] at hf;exact hf
 · refine hi.sub_own λgg k =>.cons (h1:=zc.none) ?_ k (zc.none_le _) (.refl _) (zc.none_disj _)
   rcases he with⟨T,rfl⟩ | ⟨T,rfl⟩
   ·show(Priv.row (zC C T).o T (upd ν.hdr id (.slice F 0 0) id) ⟨[],I⟩).holds Z zc.none;rw[zp];exact .inl ⟨rfl,rfl⟩
   ·show(Priv.row (Ze C T) T (upd ν.hdr id (.slice F 0 0) id) (hpl C T _ ⟨[],I⟩ .all)).holds Z zc.none;rw[zp];exact .inl ⟨rfl,znk⟩
omit [Dfr] in
theorem VRs.set{ν:Val}:∀{vs:List Value}{cs:List (AV C.D)}{p:Nat}{A:AV C.D},VRs C Z ν vs cs->(∀v,vs[p]?=E v->VR C Z ν v A)->VRs C Z ν vs (cs.set p A)
 |[],[],p,A,h,k=>h
 |v::vs,c::cs,0,A,h,k=>⟨k v rfl,h.2⟩
 |v::vs,c::cs,p+1,A,h,k=>⟨h.1,VRs.set h.2 λu a=>k u (by simpa using a)⟩
 |[],_::_,p,A,h,k=>h.elim
 |_::_,[],p,A,h,k=>h.elim
theorem zhJ{D:Nat->Type}{q:Nat->Prop}{A:AV D}(hA:A.ok q):∀{cs:List (AV D)}{p:Nat},AV.oks q cs->AV.oks q (cs.set p A)
 |[],p,h=>h
 |c::cs,0,h=>⟨hA,h.2⟩
 |c::cs,p+1,h=>⟨h.1,zhJ hA h.2⟩
theorem zrw{es:List ESh}{t:Nat}{w:World}{s:Sh}{p:Nat}{S:St C}{PV:List Priv}(h:zD κ S L b Z PV)(hi:Inv w0 σ0 Z PV w):∃PV',Inv w0 σ0 Z PV' w/\zD κ (nilA1 es t s p S) L b Z PV':=by
 unfold nilA1;split
 ·rename_i k cs j;split
  ·rename_i o hp m;cases h0:isNone (S.heap (1048576+k)) with
   |false=>grind
   |true=>
    simp only[Dq];let⟨ν,vs,ids,h⟩:=h;let⟨ν',pv,a,n,r,q⟩:=h.addRow (zcg m) (Zf h0) (by have:=κ.le;omega);refine⟨pv::PV,q hi,ν',_,_,⟨a.nd,a.dom,a.pv,a.cell,λt'=>?_,a.one⟩,λt'=>?_,a.livec,a.keep⟩
    ·have c:=a.env t';show VR C Z ν' (look L b t') (upd S.env t _ t');by_cases e:t'=t
     ·subst e;rw[zp];have c:VR C Z ν' (look L b t') (S.env t'):=c;rw[j] at c;let⟨us,l,i⟩:=c;refine⟨us,l,i.set λv c=>?_⟩;let⟨u,f,g⟩:=i.get p .nils hp;have e:=V.inj (f.symm.trans c);rw[<- e];show u=ν'.hdr _;rw[n];exact g
     ·rw[zq e];exact c
    ·have d:=a.live t';show(upd S.env t _ t').ok _;by_cases e:t'=t
     ·subst e;rw[zp];have d:(S.env t').ok _:=d;rw[j] at d
      exact zhJ (by
       show((upd S.heap (1048576+k) (E o)) (1048576+k)).isSome=G
       rw[zp];rfl) d
     ·rw[zq e];exact d
  grind
 grind
theorem zkY{es:List ESh}{t:Nat}{w:World}:∀(l:List Sh) (p:Nat) {S:St C}{PV:List Priv},zD κ S L b Z PV->Inv w0 σ0 Z PV w->∃PV',Inv w0 σ0 Z PV' w/\zD κ (nilA es t l p S) L b Z PV'
 |[],_,S,PV,h,hi=>⟨PV,hi,h⟩
 |s::l,p,S,PV,h,hi=>by
  obtain⟨c,a,h1⟩:=zrw (es:=es) (t:=t) (s:=s) (p:=p) h hi;exact zkY l _ h1 a
theorem wJ{es:List ESh}{w:World}:∀(ts:List (Nat×Sh)) {S:St C}{PV:List Priv},zD κ S L b Z PV->Inv w0 σ0 Z PV w->∃PV',Inv w0 σ0 Z PV' w/\zD κ (nilT es ts S) L b Z PV'
 |[],S,PV,h,hi=>⟨PV,hi,h⟩
 |(t,s)::ts,S,PV,h,hi=>by
  unfold nilT;split
  ·rename_i k e;split
   ·rename_i en hT;cases h0:isNone (S.heap (1048576+k)) with
    |false=>simp only[U0];exact wJ ts h hi
    |true=>
     simp only[Dq];let⟨ν,vs,ids,h⟩:=h;have hv:=h.env t;rw[e] at hv;have hv:look L b t = .slice F 0 0:=hv;rcases zcg hT with⟨T,rfl⟩ | ⟨T,rfl⟩
     ·refine wJ (PV :=.row (zC C T).o T (.slice F 0 0) ⟨[],I⟩::PV) ts ?_ (hi.sub_own λgg k =>.cons (h1:=zc.none) (.inl ⟨rfl,rfl⟩) k (zc.none_le _) (.refl _) (zc.none_disj _));exact(h.newRow (d:=t) (s:=⟨[],I⟩) (Zf h0) (by have:=κ.le;omega) (v :=.slice F 0 0) rfl).unput hv
     ·refine wJ (PV :=.row (Ze C T) T (.slice F 0 0) (hpl C T (default:Loc).sub ⟨[],I⟩ .all)::PV) ts ?_ (hi.sub_own λgg k =>.cons (h1:=zc.none) (.inl ⟨rfl,znk⟩) k (zc.none_le _) (.refl _) (zc.none_disj _));exact(h.new (d:=t) (e :=.orow T ⟨[],I⟩ .all) (v :=.slice F 0 0) (a:=default) (us:=[]) (A :=.row (1048576+k)) (Zf h0) (by have:=κ.le;omega) (λν' h1 h2=>⟨by show _=ν'.hdr _;rw[h1];rfl,by show _=_;rfl⟩) rfl rfl (λcs hc=>by cases hc) rfl).unput hv
   ·exact wJ ts h hi
  ·obtain⟨PV',hi',h'⟩:=zkY (es:=es) (t:=t) _ 0 h hi;exact wJ ts h' hi'
  ·exact wJ ts h hi
theorem zs3{es:List ESh}{id:Nat}{w:World}{s:Sh}{p:Nat}{S:St C}{PV:List Priv}(h:zD κ S L b Z PV)(hi:Inv w0 σ0 Z PV w):∃PV',Inv w0 σ0 Z PV' w/\zD κ (nil1 es id s p S) L b Z PV':=by
 unfold nil1;split
 ·rename_i k cs g;split
  ·rename_i y hp A;cases h0:isNone (S.heap (1048576+k)) with
   |false=>grind
   |true=>
    simp only[Dq];let⟨ν,vs,ids,h⟩:=h;have q:id≠1048576+k:=λe=>by rw[e,Zf h0] at g;cases g
    let⟨ν',pv,i,B,K,H⟩:=h.addRow (zcg A) (Zf h0) (by have:=κ.le;omega);have a:(upd S.heap (1048576+k) (E y)) id=E (.cell cs):=by rw[zq q];exact g
    have o:id∈ids:=(h.dom id).2 (by rw[g];rfl);let⟨m,D⟩:=List.mem_iff_getElem?.1 o;have d:=i.cell id cs a;have r:=i.livec id cs a;have f:((1048576+k)::ids)[m+1]?=E id:=by simpa using D
    have hs:=i.setCell (m:=m+1) (cs':=cs.set p (.row (1048576+k))) (us:=upd vs (1048576+k) [] id) a f (d.set λv z=>by
     let⟨u,n,x⟩:=d.get p .nils hp;have e:=V.inj (n.symm.trans z);rw[<- e];show u=ν'.hdr _
     rw[B];exact x) (zhJ (by
      show((upd S.heap (1048576+k) (E y)) (1048576+k)).isSome=G
      rw[zp];rfl) r)
    refine⟨pv::PV,H hi,_,_,_,hs.pvEq ?_⟩;have t:=i.pv;refine UA λj=>?_
    rw[UB];by_cases e:m+1=j
    ·subst e;have c:=congrArg (λl=>l[m+1]?) t;simp only[U3,f,U4] at c;rw[jv rfl,c,jv (U5.1 c).1];rw[a];rfl
    grind
  grind
 grind
theorem zkZ{es:List ESh}{id:Nat}{w:World}:∀(l:List Sh) (p:Nat) {S:St C}{PV:List Priv},zD κ S L b Z PV->Inv w0 σ0 Z PV w->∃PV',Inv w0 σ0 Z PV' w/\zD κ (nilC es id l p S) L b Z PV'
 |[],p,S,PV,h,hi=>⟨PV,hi,h⟩
 |s::l,p,S,PV,h,hi=>by
  obtain⟨c,a,h1⟩:=zs3 (es:=es) (id:=id) (s:=s) (p:=p) h hi;exact zkZ l _ h1 a
theorem zk0{all:List ESh}{bl:Bl}{w:World}:∀(es:List ESh) (k:Nat) {S:St C}{PV:List Priv},zD κ S L b Z PV->Inv w0 σ0 Z PV w->∃PV',Inv w0 σ0 Z PV' w/\zD κ (nilE all bl es k S) L b Z PV'
 |[],k,S,PV,h,hi=>⟨PV,hi,h⟩
 |e::es,k,S,PV,h,hi=>by
  have:∃PV',Inv w0 σ0 Z PV' w/\zD κ (zgv all bl e k S) L b Z PV':=by
   unfold zgv;split
   ·exact zkZ _ 0 h hi
   grind
  let⟨c,a,h1⟩:=this;exact zk0 es _ h1 a
theorem zch{g:Sig}{m:Nat}(h:zD κ S L b Z PV){w:World}(hi:Inv w0 σ0 Z PV w):∃e PV',Inv w0 σ0 e PV' w/\zD κ (g.prep m S) L b e PV':=by
 obtain⟨l,f,d,h1⟩:=zee (fzT S g.ts) h hi;obtain⟨k,a,h2⟩:=wJ (es:=g.es) g.ts h1 d;obtain⟨i,c,j⟩:=zk0 (all:=g.es) g.es 0 h2 a;exact zee _ j c
theorem zs4{bl:Bl}{e:ESh}{k:Nat}{w:World}{S:St C}{PV:List Priv}(h:zD κ S L b Z PV)(hi:Inv w0 σ0 Z PV w):∃PV',Inv w0 σ0 Z PV' w/\zD κ (zs0 bl e k S) L b Z PV':=by
 unfold zs0;split
 ·rename_i id _;split
  ·rename_i T s hs;cases g:O (C.nst T) (C.size T) with
   |false=>grind
   |true=>
    simp only[Dq];let⟨ν,vs,ids,h⟩:=h;let⟨d,f,h1,c⟩:=h.front1 (w0:=w0) (σ0:=σ0) hs;let⟨sub,a⟩:=zng (UT ▸ g) (c w hi);exact⟨_,a,_,_,_,h1.setO hs rfl⟩
  grind
 grind
theorem zk1{bl:Bl}{w:World}:∀(es:List ESh) (k:Nat) {S:St C}{PV:List Priv},zD κ S L b Z PV->Inv w0 σ0 Z PV w->∃PV',Inv w0 σ0 Z PV' w/\zD κ (zs1 bl es k S) L b Z PV'
 |[],k,S,PV,h,hi=>⟨PV,hi,h⟩
 |e::es,k,S,PV,h,hi=>by
  let⟨c,a,h1⟩:=zs4 (bl:=bl) (e:=e) (k:=k) h hi;exact zk1 es _ h1 a
theorem zdI{g:Sig}{x:g.ty C}(k:g.close κ.m S=E x)(h:zD κ S L b Z PV){w:World}(hi:Inv w0 σ0 Z PV w):∃i PV',Inv w0 σ0 i PV' w/\zD κ (g.open x) L b i PV':=by
 let⟨f,n,d,h0⟩:=zch (g:=g) (m:=κ.m) h hi;let⟨j,e,ν,vs,ids,h1⟩:=zk1 (bl:=Zz g κ.m (g.prep κ.m S)) g.es 0 h0 d;let⟨ν',c,a,PV',h2,l⟩:=h1.rename (w0:=w0) (σ0:=σ0) k;exact⟨f,PV',l w e,ν',c,a,h2⟩
end
inductive XE(C:Cod) where
 |normal
 |exit (i:Nat)
 |ret
 |pan (v:AV C.D)
inductive XK where
 |normal
 |exit (i:Nat)
 |ret
 |pan (s:Sh)
inductive Hint where
 |loop (g:Sig) (outs:List (XK×Sig))
 |cut (outs:List (XK×Sig))
 |draw (ord:List (Nat×Bool)) (outs:List (XK×Sig))
def XK.shs:XK->Sig->List Sh
 | .pan s,g=>s::g.shs
 |_,g=>g.shs
abbrev XK.ty(C:Cod)(k:XK)(g:Sig):Type:=Sh.tys C (k.shs g)
def XK.is{C:Cod}:XK->XE C->Bool
 | .normal,.normal=>G
 | .exit i,.exit j=>M i j
 | .ret,.ret=>G
 | .pan _,.pan _=>G
 |_,_=>I
def zg(C:Cod):List (XK×Sig)->Type
 |[]=>Empty
 |[o]=>XK.ty C o.1 o.2
 |o::a::r=>XK.ty C o.1 o.2⊕zg C (a::r)
section
variable {C:Cod}
def zgw(m:Nat)(k:XK)(g:Sig)(e:XE C)(S:St C):Uv (XK.ty C k g):=match k,e with
 | .pan s,.pan v=>(Sh.get (λ_=>F) s v).bind λy=>(g.close m S).bind λx=>E (Sh.pk (s:=s) (l:=g.shs) y x)
 | .normal,.normal=>g.close m S
 | .exit i,.exit j=>chk (M i j) (g.close m S)
 | .ret,.ret=>g.close m S
 |_,_=>F
def Yi{α:Type}(k:XK)(g:Sig)(y:XK.ty C k g)(K:XE C->St C->α):α:=match k,y with
 | .pan s,y=>K (.pan (Sh.put (λk=>k) s (Sh.hd (s:=s) (l:=g.shs) y))) (g.open (Sh.tl (s:=s) (l:=g.shs) y))
 | .normal,y=>K .normal (g.open y)
 | .exit i,y=>K (.exit i) (g.open y)
 | .ret,y=>K .ret (g.open y)
def zU(m:Nat):(outs:List (XK×Sig))->XE C->St C->Uv (zg C outs)
 |[],_,_=>F
 |[o],e,S=>zgw m o.1 o.2 e S
 |o :: a::r,e,S=>bif XK.is o.1 e then(match zgw m o.1 o.2 e S with
    |some y=>E (.inl y)
    |none=>(zU m (a::r) e S).map .inr) else(zU m (a::r) e S).map .inr
def zT{α:Type}:(outs:List (XK×Sig))->zg C outs->(XE C->St C->α)->α
 |[],y,_=>y.elim
 |[o],y,K=>Yi o.1 o.2 y K
 |o::b::r,y,K=>match(y:XK.ty C o.1 o.2⊕zg C (b::r)) with
  | .inl a=>Yi o.1 o.2 a K
  | .inr y=>zT (b::r) y K
end
abbrev yQ(C:Cod):=Oper->St C->(ρ:Type)->(Out C->Uv ρ)->Uv ρ
abbrev YC(C:Cod):=Array Oper->List (Nat×Bool)->(ρ:Type)->St C->(XE C->St C->Uv ρ)->Uv ρ
abbrev ZX:=∀{s β:Type},(s->Uv (Step s β))->s->Uv β
def xS:Code->Nat
 | .seq a b=>xS a+xS b+1
 | .cond _ a b=>xS a+xS b+1
 | .block _ a=>xS a+1
 | .loop a=>xS a+1
 | .scope a=>xS a+1
 |_=>1
section
variable {C:Cod}{ρ:Type}
def ZK(stp:yQ C)(n:Nat)(ops:Array Oper):List Oper->St C->(XE C->St C->Uv ρ)->Uv ρ
 |[],S,K=>K .normal S
 |o::r,S,K=>match o.guard with
  |none=>stp o S _ λout=>match out with
   | .go S'=>ZK stp n ops r S' K
   | .pan v S'=>K (.pan v) S'
  |some (j,a)=>match(ops[j]?).bind (·.dst) with
   |none=>F
   |some b=>match S.env b with
    | .bool q=>if q=G then go o r (S.put b (.bool G)) a K (λS K=>ZK stp n ops r S K) else go o r (S.put b (.bool I)) (!a) K (λS K=>ZK stp n ops r S K)
    | .tup []=>skip o S K (λS K=>ZK stp n ops r S K)
    |_=>F
where
 skip (o:Oper) (S:St C) (K:XE C->St C->Uv ρ) (next:St C->(XE C->St C->Uv ρ)->Uv ρ):Uv ρ:=match o.dst with
  |some d=>chk (O d n) (next (S.put d (.tup [])) K)
  |none=>next S K
 go (o:Oper) (r:List Oper) (S:St C) (run:Bool) (K:XE C->St C->Uv ρ) (next:St C->(XE C->St C->Uv ρ)->Uv ρ):Uv ρ:=
  bif run then stp o S _ λout=>match out with
   | .go S'=>next S' K
   | .pan v S'=>K (.pan v) S'
  else skip o S K next
def ZD{C:Cod}(stp:yQ C)(d:YC C)(f:ZX)(n m:Nat)(hs:Nat->Uv Hint):Code->Nat->(ρ:Type)->St C->(XE C->St C->Uv ρ)->Uv ρ
 | .skip,i,_,S,K=>wrap i S K λ_ S K=>K .normal S
 | .ret,i,_,S,K=>wrap i S K λ_ S K=>K .ret S
 | .exit j,i,_,S,K=>wrap i S K λ_ S K=>K (.exit j) S
 | .seq a b,i,_,S,K=>wrap i S K λ_ S K=>ZD stp d f n m hs a (i+1) _ S λe S'=>match e with
  | .normal=>ZD stp d f n m hs b (i+1+xS a) _ S' K
  |e=>K e S'
 | .cond c a b,i,_,S,K=>wrap i S K λ_ S K=>match S.op c with
  | .bool q=>if q=G then ZD stp d f n m hs a (i+1) _ S K else ZD stp d f n m hs b (i+1+xS a) _ S K
  |_=>F
 | .block j a,i,_,S,K=>wrap i S K λ_ S K=>ZD stp d f n m hs a (i+1) _ S λe S'=>match e with
  | .exit h=>bif M h j then K .normal S' else K (.exit h) S'
  |e=>K e S'
 | .loop a,i,_,S,K=>match hs i with
  |some (.loop g outs)=>(g.close m S).bind λk=>
      (f (λx=>ZD stp d f n m hs a (i+1) _ (g.open x) λe S'=>match e with
        | .normal=>(g.close m S').bind λl=>E (Step.next l)
        |e=>(zU m outs e S').bind λy=>E (Step.done y)) k).bind λy=>zT outs y K
  |_=>F
 | .scope a,i,_,S,K=>wrap i S K λ_ S K=>ZD stp d f n m hs a (i+1) _ S K
 | .label _,i,_,S,K=>wrap i S K λ_ S K=>K .normal S
 | .region _ ops I,i,_,S,K=>wrap i S K λ_ S K=>ZK stp n ops ops.toList S K
 | .region _ ops G,i,_,S,K=>match hs i with
  |some (.draw ord [])=>d ops ord _ S K
  |some (.draw ord (o::outs))=>(d ops ord _ S λe S'=>zU m (o::outs) e S').bind λy=>zT (o::outs) y K
  |_=>F
 |_,_,_,_,_=>F
where
 wrap {ρ:Type} (i:Nat) (S:St C) (K:XE C->St C->Uv ρ) (raw:(ρ:Type)->St C->(XE C->St C->Uv ρ)->Uv ρ):Uv ρ:=match hs i with
  |some (.cut outs)=>(raw _ S λe S'=>zU m outs e S').bind λy=>zT outs y K
  |_=>raw _ S K
end
variable [Dfr]
section
variable {κ:Kp}{C:Cod}{S:St C}{ν:Val}{vs:Nat->List Value}{ids:List Nat}{L:List (Nat×Value)}{b:Nat->Value}{Z:FS}{PV:List Priv}{P:Program}{ρ:Type}
variable {t t' ty:TypeId}{x y z:Operand}{d id:Nat}{pv:Priv}{ps:String}{af:Array Edge}{g:Uv (Nat×Bool)}{A:AV C.D}{n:Nat}{w0:Start}{σ0:FS}{o:Oper}{X:Uv (Out C)}
def Wk{α:Type}(S:St C)(a id T:Nat)(i:Int)(gid:Nat)(K:St C->Uv α):Uv α:=match S.heap id with
 |some (.orow T' s .all)=>chk (M T T' && isNone (S.heap gid)) ((za s i).bind λq=>match Zo C T' q with
  | .sl U u _=>K {env:=upd S.env a (.row gid),heap:=upd (upd S.heap id (E (.orow T' s (.out i)))) gid (E (.row U u))}
  |_=>F)
 |_=>F
theorem zoG{α β:Type}{a id T:Nat}{i:Int}{gid:Nat}{K:St C->Uv α}{k:α->Uv β}:(Wk S a id T i gid K).bind k=Wk S a id T i gid λS'=>(K S').bind k:=by
 unfold Wk;split
 ·rw[zx,gh];grind
 ·rfl
theorem zs5 {α:Type}(h:AbsL κ S ν vs ids L b Z PV) {f id T:Nat}{i:Int}{gid:Nat}{K:St C->Uv α}{r:α}(t:S.env f = .nx id T i .whole) (h64:κ.m<=gid) (a:Wk S f id T i gid K=E r) :
    ∃S1 j,K S1=E r/\zD κ S1 L b Z j/\∀w,Inv w0 σ0 Z PV w->Inv w0 σ0 Z j w:=by
 unfold Wk at a;split at a
 · rename_i T' s hs;let⟨o,a⟩:=zb a;simp only[gf] at o;obtain rfl:=ge o.1;have h0:=Zf o.2;let⟨q,P,a⟩:=gd a;split at a
   · rename_i U u c Q;have n:=h.env f;rw[t] at n;have k:look L b f=(ν.adr id).sub i.toNat:=n.1;have y:(look L b f).oneCell'=true:=n.2;have l:gid≠id:=λe=>jE
     let⟨p,PV',R,g⟩:=h.front1 (w0:=w0) (σ0:=σ0) hs;have h1:=R.setO0 (e' :=.orow T s (.out i)) hs (λcs e=>by cases e);have h2:=h1.newRow (d:=f) (id:=gid) (T:=U) (s:=u) (v:=(ν.adr id).sub i.toNat) (by show upd S.heap id _ gid=F;rw[zq l];exact h0) h64 jE;refine⟨_,_,a,h2.unput k,λw hi=>(g w hi).sub_own λgg kk=>?_⟩;let⟨H,X,D,x,z,B,N⟩:=kk.uncons;exact Sep.append (A:=[_,_]) (zcc (D:zn (Ze C T) T (ν.hdr id) (hpl C T (ν.adr id).sub s .all) Z H) P Q) x z B N
   ·cases a
 ·cases a
theorem OpA.via{S1:St C}{a:List Priv}(hA:zD κ S1 L b Z a)(hi:∀w,Inv w0 σ0 Z PV w->Inv w0 σ0 Z a w)(k:∀ν vs ids,AbsL κ S1 ν vs ids L b Z a->OpA κ P n w0 σ0 o X L b Z a):OpA κ P n w0 σ0 o X L b Z PV:=by
 let⟨ν,vs,ids,h⟩:=hA;exact OpA.pv hi (k ν vs ids h)
def Wl(P:Program)(S:St C)(d:Nat)(t:TypeId)(x y:Operand):Uv (Out C):=match x with
 | .tmp a=>(match S.env a with
  | .nx id T i .whole=>Wk S a id T i (nid d 1) λS1=>Ya P S1 d t x y
  |_=>F)
 |_=>F
theorem zrx(h:AbsL κ S ν vs ids L b Z PV)(j:O d n=G):OpA κ P n w0 σ0 ⟨E d,.call {callee :=.builtin .append,args:= #[x,y],argTypes:= #[t,t]},ty,ps,af,g⟩ (Wl P S d t x y) L b Z PV:=by
 intro out a;unfold Wl at a;split at a
 ·rename_i k;split at a
  ·rename_i id T i e;let⟨S1,c,h1,h2,f⟩:=zs5 (w0:=w0) (σ0:=σ0) h e (yP κ d 1) a;exact OpA.via h2 f (λν vs ids h=>ze0 h j) out h1
  ·cases a
 ·cases a
theorem AbsL.newO (h:AbsL κ S ν vs ids L b Z PV) {id T:Nat}(h0:S.heap id=F) (h64:κ.m<=id) {s:Sl (C.D T)}{gw:Own}{v:Value}{sub:Nat->Value}(c:v.oneCell'=G) :
    zD κ {env:=upd S.env d (.row id),heap:=upd S.heap id (E (.orow T s gw))} ((d,v)::L) b Z (.row (Ze C T) T v (hpl C T sub s gw)::PV):=
 h.new h0 h64 (e :=.orow T s gw) (v:=v) (a:=⟨default,sub⟩) (us:=[]) (A :=.row id) (λν' h1 h2=>⟨by show v=ν'.hdr id;rw[h1];rfl,by show id=id;rfl⟩) c rfl (λcs f=>by cases f) rfl
theorem Wm{α:Type}{T:OTy α}{e:TypeId}{s:Sl α}{v:Value}{PV:List Priv}{w:World}(hi:Inv w0 σ0 Z (.row T e v s::PV) w):v.oneCell'=true:=by
 let⟨b,a,_⟩:=hi.held.get (m:=0) rfl;obtain⟨q,c,rfl,_⟩:=zn.form a;rfl
def XF(P:Program)(S:St C)(d:Nat)(t:TypeId)(y:Operand)(K:Out C->Uv ρ):Uv ρ:=match P.underlying t with
 |some (.slice e)=>(match P.info? e with
  |some ti=>(match ti.zero with
   |some a=>chk (M ti.size (C.size e) && (O 0 (C.size e) && (W (C.size e) 16777216 && (isNone (S.heap (nid d 0)) && (YS (S.op y) && M (zt (S.op y)).length (C.size e))))))
    (match(zt (S.op y))[C.nst e]? with
    |some (.row id2)=>(match S.heap id2 with
     |some (.row U u)=>(C.imp e ((zt (S.op y)).set (C.nst e) (.sl U u I))).bind λq=>K (.go {env:=upd (S.sub id2 .und).env d (.row (nid d 0)),heap:=upd (S.sub id2 .und).heap (nid d 0) (E (.orow e ⟨[q],G⟩ .all))})
     |_=>F)
    |_=>F)
   |none=>F)
  |none=>F)
 |_=>F
def xT(P:Program)(S:St C)(d:Nat)(t:TypeId)(y:Operand):Uv (Out C):=XF P S d t y E
theorem zk2{K:Out C->Uv ρ}:XF P S d t y K=(xT P S d t y).bind K:=by
 unfold xT XF;split
 ·split
  ·split
   ·rw[zx];congr 1;grind
   ·rfl
  ·rfl
 ·rfl
theorem zs6 {T U:Nat}{gA:zc}{us:List Value}{q:C.D T}{v:Value}{cells:List (AV C.D)}{u:Sl (C.D U)}(a:VRs C Z ν us cells) (b:∀u∈us,u.oneCell'=G) (n:us.length=C.size T)
    (d:C.imp T (cells.set (C.nst T) (.sl U u I))=E q) (i:us[C.nst T]?=E v) (c:zn (zC C U).o U v u Z gA):yZ C T Z gA us (q,1,v):=by
 have h:=a.len;have l:=(U5.1 i).1;refine⟨n,b,λj A f r=>?_,i,λe=>(by cases e),λ_=>⟨U,u,?_,c⟩⟩
 ·let⟨B,g,k⟩:=zcd (C.imp_ok T _ q d) f;rw[UB,jx (λe=>r e.symm)] at g;let⟨w,m,p⟩:=a.get _ _ g;exact⟨w,m,(zf7 p k).rv (C.base T q A (UM f))⟩
 ·show Zo C T q=_;unfold Zo;rw[zdG d (j:=C.nst T) (A :=.sl U u I) jE rfl];rfl
theorem zmP(h:AbsL κ S ν vs ids L b Z PV)(hn:O d n=G){a:Array (Nat×Operand)}(hp:a.toList=[(0,y)]):OpA κ P n w0 σ0 ⟨E d,.buildSlice t 1 a,ty,ps,af,g⟩ (xT P S d t y) L b Z PV:=by
 intro out f;unfold xT XF at f;split at f
 ·rename_i e hu;split at f
  ·rename_i ti hi;split at f
   ·rename_i zv Q;let⟨N,c⟩:=zb f;simp only[gf] at N;let⟨c1,c2,c3,c4,c5,c6⟩:=N;have h0:=Zf c4;have c6:=ge c6;split at c
    ·rename_i id2 z;split at c
     ·rename_i U u h2;let⟨q,X,B⟩:=gd c;let⟨j,p⟩:=ZE (h.op y) c5 h.one;have x:=j.len;let⟨v2,A,i⟩:=j.get _ _ z;have i:v2=ν.hdr id2:=i;subst i;let⟨K,PV',hf,k⟩:=h.front1 (w0:=w0) (σ0:=σ0) h2;refine OpA.pv k ?_ out B;refine OpA.of2 (vK (T:=Ze C e) (vs:=[opv L b y]) (xs:=[(q,1,ν.hdr id2)]) [.row (zC C U).o U (ν.hdr id2) u] PV' hn hu hi Q (ge c1) (by rw[Nat.one_mul];exact c3) c2 (by rw[hp];rfl) rfl (λH sA=>?_) λv l r D=>⟨_,(V.inj D).symm,?_⟩)
      ·refine⟨H,.refl _,?_,rfl,λw l=>?_⟩
       ·have D:=zs6 (T:=e) j p (by rw[x,c6]) X A (sA.one_of:zn (zC C U).o U (ν.hdr id2) u Z H);have:Yg [opv L b y]=(opv L b y).cells.toList:=by simp[Yg]
        rw[this];exact OTy.rels_single (T:=Ze C e) D
       ·rw[Dr.1 l];show(opv L b y).cells.size=C.size e;grind
      ·let⟨w,l⟩:=l;have h1:=hf.sub (id:=id2) (m:=0) (R :=.und) rfl (FS.le.refl Z) trivial trivial rfl
       exact AbsL.newO (S:=S.sub id2 .und) (T:=e) (s:=⟨[q],G⟩) (gw :=.all) (sub:=λ_=>ν.hdr id2) h1 (by
        show(bif M (nid d 0) id2 then F else(S.heap (nid d 0)).map _)=F
        grind) (yP κ d 0) (Wm l)
     ·cases c
    ·cases c
   ·cases f
  ·cases f
 ·cases f
theorem zwS{T:Nat}{s1 c:Sl (C.D T)}{sub1 sub2:Nat->Value}{nn:Bool}:(⟨(hpl C T sub1 s1 .all).xs++(hpl C T sub2 c .all).xs,nn⟩:Sl (C.D T×Nat×Value))=hpl C T (λj=>if j < s1.xs.length then sub1 j else sub2 (j - s1.xs.length)) ⟨s1.xs++c.xs,nn⟩ .all:=by
 unfold hpl;congr 1;apply UA;intro j;rw[Dm];by_cases b:j < s1.xs.length
 ·rw[UX (by simpa using b),UX b,Dm];grind
 ·rw[UW (by simpa using b),UW Zd,Dm];simp only[List.length_mapIdx];cases c.xs[j - s1.xs.length]? with
  |none=>rfl
  |some a=>simp[b,Own.fl]
theorem zk3{T a:Nat}{s1 b s':Sl (C.D T)}{sub1 sub2:Nat->Value}(h:zo a s1 b.xs=E s'):∃sub,zo a (hpl C T sub1 s1 .all) (hpl C T sub2 b .all).xs=E (hpl C T sub s' .all):=by
 obtain⟨h1,h2,rfl⟩:=zie h;refine⟨λj=>if j < s1.xs.length then sub1 j else sub2 (j - s1.xs.length),?_⟩;unfold zo;rw[jv (by simp only[WJ];grind)];rw[show(hpl C T sub1 s1 .all).nn=s1.nn from rfl,show(hpl C T sub2 b .all).xs.isEmpty=b.xs.isEmpty by cases h:b.xs<;>simp[hpl,h]];rw[zwS]
def W0(P:Program)(S:St C)(d:Nat)(t:TypeId)(x y:Operand)(K:Out C->Uv ρ):Uv ρ:=match P.underlying t with
 |some (.slice e)=>(match P.info? e with
  |some ti=>(match ti.zero with
   |some b=>chk (M ti.size (C.size e) && (O 0 (C.size e) && (M b.cells.size (C.size e) && isNone (S.heap (nid d 0)))))
    (match S.op y with
    | .row id2=>(match S.heap id2 with
     |some (.orow c a .all)=>(match S.op x with
      | .row id=>(match S.heap id with
       |some (.orow T s .all)=>chk (M T e && !M id id2) ((wu a).bind λts=>(zo ti.bytes s ts).bind λs'=>K (.go {env:=upd ((S.sub id .und).sub id2 .und).env d (.row (nid d 0)),heap:=upd ((S.sub id .und).sub id2 .und).heap (nid d 0) (E (.orow T s' .all))}))
       |_=>F)
      | .nils=>(wu (T:=e) a).bind λts=>(zo ti.bytes ⟨[],I⟩ ts).bind λs'=>K (.go {env:=upd (S.sub id2 .und).env d (.row (nid d 0)),heap:=upd (S.sub id2 .und).heap (nid d 0) (E (.orow e s' .all))})
      |_=>F)
     |_=>F)
    |_=>F)
   |none=>F)
  |none=>F)
 |_=>F
def Wn(P:Program)(S:St C)(d:Nat)(t:TypeId)(x y:Operand):Uv (Out C):=W0 P S d t x y E
theorem zoH{K:Out C->Uv ρ}:W0 P S d t x y K=(Wn P S d t x y).bind K:=by
 unfold Wn W0;split
 ·split
  ·split
   ·rw[zx];congr 1;split
    ·split
     ·split
      ·split
       ·simp only[zx,gh,jj]
       ·rfl
      all_goals grind
     ·rfl
    ·rfl
   ·rfl
  ·rfl
 ·rfl
theorem zfB{id j:Nat}{R:AV C.D}(h:S.heap j=F):(S.sub id R).heap j=none:=by
 show(bif M j id then F else(S.heap j).map _)=F;grind
theorem zry(h:AbsL κ S ν vs ids L b Z PV)(hn:O d n=G):OpA κ P n w0 σ0 ⟨E d,.call {callee :=.builtin .append,args:= #[x,y],argTypes:= #[t,t]},ty,ps,af,g⟩ (Wn P S d t x y) L b Z PV:=by
 intro out q;unfold Wn W0 at q;split at q
 ·rename_i e hu;split at q
  ·rename_i ti hi;split at q
   ·rename_i zv hz;let⟨hc,a⟩:=zb q;simp only[gf] at hc;let⟨c1,c2,c3,c4⟩:=hc;have h0:=Zf c4;have p:=h.op x;have X:=h.op y;split at a
    ·rename_i id2 ey;rw[ey] at X;have X:opv L b y=ν.hdr id2:=X;split at a
     ·rename_i c s2 N;split at a
      ·rename_i id ex;rw[ex] at p;have p:opv L b x=ν.hdr id:=p;split at a
       ·rename_i T s hs;let⟨D,hX3⟩:=zb a;simp only[gf] at D;obtain rfl:=ge D.1;have hne:id≠id2:=λe=>by subst e;simp at D
        let⟨ts,f,z⟩:=gd hX3;let⟨s',K,j⟩:=gd z;unfold wu at f;split at f
        ·rename_i hT;subst hT;cases f;let⟨ids',PV',hf,l⟩:=h.front2 (w0:=w0) (σ0:=σ0) hne hs N;let⟨sub',U⟩:=zk3 (sub1:=(ν.adr id).sub) (sub2:=(ν.adr id2).sub) K;refine OpA.pv l ?_ out j;have key:=zag (ρ:=Out C) (P:=P) (n:=n) (w0:=w0) (σ0:=σ0) (Z:=Z) (L:=L) (b:=b) (ty:=ty) (ps:=ps) (af:=af) (g:=g) (d:=d) (T:=Ze C c) (s:=hpl C c (ν.adr id).sub s .all) (ts:=(hpl C c (ν.adr id2).sub s2 .all).xs) (v:=ν.hdr id) (u:=opv L b y) (kk:=λ_=>E out) (H:=λp' L' Q PV'=>(∃w,Inv w0 σ0 Q PV' w)->∀r,p'=E r->∃S',r = .go S'/\zD κ S' L' b Q PV') [.row (Ze C c) c (ν.hdr id2) (hpl C c (ν.adr id2).sub s2 .all)] PV' hn hu hi hz (ge c3) (ge c1) c2 p rfl (λw gg o sA B=>by rw[X];exact zeY w gg o sA B) λs'' v' i o r hr=>?_
         ·rw[U] at key;have:=OpA.of2 key;rw[j];exact this
         ·rw[U] at i;cases i;cases j;cases hr;let⟨w,o⟩:=o;have h1:=hf.sub (id:=id) (m:=0) (R :=.und) rfl (FS.le.refl Z) trivial trivial rfl;have h2:=AbsL.sub (S:=S.sub id .und) h1 (id:=id2) (m:=0) (R :=.und) rfl (FS.le.refl Z) trivial trivial rfl;exact⟨_,rfl,AbsL.newO (S:=(S.sub id .und).sub id2 .und) (T:=c) h2 (zfB (S:=S.sub id .und) (zfB h0)) (yP κ d 0) (Wm o)⟩
        ·cases f
       ·cases a
      ·rename_i ex;rw[ex] at p;have p:opv L b x = .slice F 0 0:=p;let⟨ts,f,z⟩:=gd a;let⟨s',K,j⟩:=gd z;unfold wu at f;split at f
       ·rename_i hT;subst hT;cases f;let⟨ids',PV',hf,l⟩:=h.front1 (w0:=w0) (σ0:=σ0) N;let⟨sub',U⟩:=zk3 (s1:=⟨[],I⟩) (sub1:=(ν.adr id2).sub) (sub2:=(ν.adr id2).sub) K;have A:∀w,Inv w0 σ0 Z PV w->Inv w0 σ0 Z (.row (Ze C c) c (.slice F 0 0) (hpl C c (ν.adr id2).sub ⟨[],I⟩ .all) :: .row (Ze C c) c (ν.hdr id2) (hpl C c (ν.adr id2).sub s2 .all)::PV') w:=λw hi=>(l w hi).sub_own λgg k =>.cons (h1:=zc.none) (.inl ⟨rfl,rfl⟩) k (zc.none_le _) (.refl _) (zc.none_disj _)
        refine OpA.pv A ?_ out j;have key:=zag (ρ:=Out C) (P:=P) (n:=n) (w0:=w0) (σ0:=σ0) (Z:=Z) (L:=L) (b:=b) (ty:=ty) (ps:=ps) (af:=af) (g:=g) (d:=d) (T:=Ze C c) (s:=hpl C c (ν.adr id2).sub ⟨[],I⟩ .all) (ts:=(hpl C c (ν.adr id2).sub s2 .all).xs) (v :=.slice F 0 0) (u:=opv L b y) (kk:=λ_=>E out) (H:=λp' L' Q PV'=>(∃w,Inv w0 σ0 Q PV' w)->∀r,p'=E r->∃S',r = .go S'/\zD κ S' L' b Q PV') [.row (Ze C c) c (ν.hdr id2) (hpl C c (ν.adr id2).sub s2 .all)] PV' hn hu hi hz (ge c3) (ge c1) c2 p rfl (λw gg o sA B=>by rw[X];exact zeY w gg o sA B) λs'' v' i o r hr=>?_
        ·rw[U] at key;have:=OpA.of2 key;grind
        ·rw[U] at i;cases i;cases j;cases hr;let⟨w,o⟩:=o;have h1:=hf.sub (id:=id2) (m:=0) (R :=.und) rfl (FS.le.refl Z) trivial trivial rfl;exact⟨_,rfl,AbsL.newO (S:=S.sub id2 .und) (T:=c) h1 (zfB h0) (yP κ d 0) (Wm o)⟩
       ·cases f
      ·cases a
     ·cases a
    ·cases a
   ·cases q
  ·cases q
 ·cases q
def wK(P:Program)(S:St C)(d:Nat)(t:TypeId)(x y:Operand)(K:Out C->Uv ρ):Uv ρ:=match P.underlying t with
 |some (.slice e)=>(match P.info? e with
  |some ti=>(match ti.zero,S.op x with
   |some a,.int _ i=>chk (zdh x y && (M ti.size (C.size e) && (O 0 (C.size e) && isNone (S.heap (nid d 0)))))
       (match a.cells.toList[C.nst e]? with
       |some (.slice F 0 0)=>(C.imp e (a.cells.toList.map ZZ)).bind λq=>(match Zo C e q with
        | .sl _ u _=>chk (M u.xs.length 0 && !u.nn) ((xM ti.bytes i q).bind λs=>K (.go {env:=upd S.env d (.row (nid d 0)),heap:=upd S.heap (nid d 0) (E (.orow e s .all))}))
        |_=>F)
       |_=>F)
   |_,_=>F)
  |none=>F)
 |_=>F
def XW(P:Program)(S:St C)(d:Nat)(t:TypeId)(x y:Operand):Uv (Out C):=wK P S d t x y E
theorem zmQ{K:Out C->Uv ρ}:wK P S d t x y K=(XW P S d t x y).bind K:=by
 unfold XW wK;split
 ·split
  ·split
   ·rw[zx];congr 1;split
    ·rw[gh];congr 1;funext q;split
     ·simp only[zx,gh,jj]
     ·rfl
    ·rfl
   ·rfl
  ·rfl
 ·rfl
theorem zoI(h:AbsL κ S ν vs ids L b Z PV)(hn:O d n=G):OpA κ P n w0 σ0 ⟨E d,.makeSlice t x y,ty,ps,af,g⟩ (XW P S d t x y) L b Z PV:=by
 intro out a;unfold XW wK at a;split at a
 ·rename_i e hu;split at a
  ·rename_i ti hi;split at a
   ·rename_i zv k i hz ex;have N:=h.op x;rw[ex] at N;let⟨hc,m⟩:=zb a;simp only[gf] at hc;let⟨c0,c1,c2,c3⟩:=hc;have h0:=Zf c3;obtain rfl:=zin c0;split at m
    ·rename_i K;let⟨q,hq,f⟩:=gd m;split at f
     ·rename_i U u c o;let⟨l,R⟩:=zb f;simp only[gf,Do] at l;have Q:u=⟨[],I⟩:=by
       let⟨xs,nn⟩:=u;have h1:xs=[]:=UJ (ge l.1);have h2:nn=false:=l.2;rw[h1,h2]
      subst Q;let⟨s,hs,X⟩:=gd R;obtain⟨g1,g2,g3,rfl⟩:=zfY hs;have D:∀τ:FS,yZ C e τ zc.none zv.cells.toList (q,1,.slice F 0 0):=λτ=>by
       have z:=WM (τ:=τ) (ν:=ν) (xK zv.cells.toList) hq;refine⟨z.1,(zC C e).one z,λj A hj _=>z.2 j A hj,K,λe=>(by cases e),λ_=>⟨U,⟨[],I⟩,?_,.inl ⟨rfl,rfl⟩⟩⟩;have hb:(Zo C e q).base=true:=by
        have hh:Zo C e q ≠.und:=by rw[o];intro e;cases e
        unfold Zo at hh |-
        cases hg:(C.emb e q)[C.nst e]? with
        |none=>rw[hg] at hh;exact absurd rfl hh
        |some A=>exact C.base e q A (UM hg)
       rw[o] at hb;have:c=false:=by simpa[AV.base] using hb
       show Zo C e q=_;rw[o,this]
      have p:xM ti.bytes i (q,1,Value.slice F 0 0)=E (hpl C e (λ_ =>.slice F 0 0) ⟨List.replicate i.toNat q,G⟩ .all):=by
       unfold xM;rw[jv ⟨g1,g2,g3⟩];congr 1;unfold hpl;congr 1;apply UA;intro j;rw[Dm,qD,qD];split<;>rfl
      have key:=zmV (ρ:=Out C) (P:=P) (n:=n) (w0:=w0) (σ0:=σ0) (Z:=Z) (PV:=PV) (L:=L) (b:=b) (ty:=ty) (ps:=ps) (af:=af) (g:=g) (d:=d) (T:=Ze C e) (q:=(q,1,Value.slice F 0 0)) (kk:=λ_=>E out) (H:=λp' L' Z' PV'=>(∃w,Inv w0 σ0 Z' PV' w)->∀r,p'=E r->∃S',r = .go S'/\zD κ S' L' b Z' PV') hn hu hi hz (ge c1) c2 N.int_inv N.int_inv D λs' v B hw r z=>?_
      ·rw[p] at key;have:=OpA.of2 key;exact this out rfl
      ·rw[p] at B;cases B;cases X;cases z;let⟨w,hw⟩:=hw;exact⟨_,rfl,h.newO h0 (yP κ d 0) (Wm hw)⟩
     ·cases f
    ·cases m
   ·cases a
  ·cases a
 ·cases a
end
variable [Dfr]
section
variable {ρ:Type}{n:Nat}{w0:Start}{σ0 Z:FS}{p:Uv ρ}{L:List (Nat×Value)}{b:Nat->Value}{PV PV':List Priv}{P:Program}
variable {H:Uv ρ->List (Nat×Value)->FS->List Priv->Prop}{d:Nat}{v:Value}{t ty:TypeId}{ps:String}{af:Array Edge}{g:Uv (Nat×Bool)}{x:Operand}
theorem zrz {α:Type}{T:Ty α}{s:Sl α}{e':TypeId}{cs:List Value}{a:List α}{w:World}(m:Nat) (hT:0 < T.o.size) (hm:PV[m]?=E (.row T.o e' v s)) (C:∀τ,Z.le τ->T.rels τ cs a) (t:a.length<=s.xs.length) (hne:0 < a.length) (g:Inv w0 σ0 Z PV w) :
    ∃a0 c w',v = .slice (E a0) s.xs.length c/\(storeCells a0 cs).run P w = .ok () w'/\Inv w0 σ0 Z (PV.set m (.row T.o e' v ⟨a++s.xs.drop a.length,s.nn⟩)) w':=by
 let⟨y,k,x⟩:=g.held.get hm;have k:zn T.o e' v s Z y:=k;have d:=C Z (FS.le.refl Z);have n:cs.length=a.length * T.o.size:=T.rels_len d;have z:∀u∈cs,u.oneCell'=true:=OTy.rels_one (T:=T.o) (h:=zc.none) (Ty.rels_o.2 d)
 have hlen:s.xs.length≠0:=Zd
 rcases k with⟨rfl,rfl⟩ | ⟨aq,rfl,rfl⟩ | ⟨qb,e,cur,hb,gg,rfl,r2,r3,r4,r5,r0,r6,r7,r8,r9,N⟩
 ·grind
 ·grind
 have r:∀h1:zc,zn T.o e' (.slice (E ⟨qb,0,F⟩) s.xs.length e) s Z h1->h1.sub w->
     ∃w',(storeCells ⟨qb,0,F⟩ cs).run P w = .ok () w'/\∃h1',zn T.o e' (.slice (E ⟨qb,0,F⟩) s.xs.length e) ⟨a++s.xs.drop a.length,s.nn⟩ Z h1'/\h1'.sub w'/\Ext w h1 w'/\∀b i,(h1' b i).isSome->(h1 b i).isSome\/w.heap.size<=b:=by
  rintro h1 (⟨c1,rfl⟩ | ⟨aq,c1,rfl⟩ | ⟨qc,cap2,cur2,l,g2,c1,s2,s3,s4,s5,L,X,s7,s8,s9,H⟩) A
  ·grind
  ·grind
  cases c1;have R:a.length * T.o.size<=cur2.length:=UF (Dd _ (UF t s3)) s5;have f:∀j,j < cs.length->∃u,l qb (0+j+1)=E (.cell u):=λj p=>⟨_,by rw[US];exact s7 j _ (UC Zd)⟩
  have Q:qb < w.heap.size:=Bit.at_lt (A _ _ _ (L _ _ _ X));have S:0 < a.length * T.o.size:=Nat.mul_pos Zd hT;let⟨w',K,j2,j3⟩:=VC (P:=P) (A.mono L) Q f z jE;have B:(a++s.xs.drop a.length).length=s.xs.length:=ji
  refine⟨w',K,l.put qb 0 cs,?_,j2,j3.mono L,λb i hx =>.inl (L.isSome (zc.put_dom (λj p=>jE) hx))⟩;refine .inr (.inr ⟨qb,e,cs++cur2.drop (a.length * T.o.size),_,zc.none,by simp[B],s2,jE,s4,?_,.refl _,?_,λj u p=>?_,zc.none_le _,λb i =>.inr rfl,?_⟩)
  ·grind
  ·rw[zc.put_out Zd,X];grind
  · by_cases c1:j < a.length * T.o.size
    ·rw[UX Zd] at p;have:=zc.put_in (h:=l) (q:=qb) (off:=0) p;grind
    ·rw[UW Zd,n,Db] at p;rw[(Zd:a.length * T.o.size+(j - a.length * T.o.size)=j)] at p;rw[zc.put_out Zd];grind
  · rw[Ty.rels_o] at H |-
    have hd:=T.rels_drop a.length H;have ha:=T.rels_append d hd;have:(cs++cur2.drop (a.length * T.o.size)).take ((a++s.xs.drop a.length).length * T.o.size)=cs++(cur2.take (s.xs.length * T.o.size)).drop (a.length * T.size):=by
     rw[B,List.take_append,n,List.take_of_length_le (by rw[n];exact Dd _ t),List.drop_take];rfl
    grind
 let⟨w',K,j2⟩:=r y (.inr (.inr ⟨qb,e,cur,hb,gg,rfl,r2,r3,r4,r5,r0,r6,r7,r8,r9,N⟩)) x;refine⟨_,e,w',rfl,K,g.change hm λh1 k1 D=>?_⟩;let⟨w2,U,q2⟩:=r h1 k1 D;rw[K] at U;cases U;exact q2
theorem zs7 {α:Type}{T:Ty α}{s:Sl α}{e e':TypeId}{ti:TypeInfo}{xs:List α}{y:Operand}{tt:Array TypeId}(m:Nat) (hn:O d n=G) (ht:tt[0]?=E t) (hu:P.underlying t=E (.slice e)) (B:P.info? e=E ti) (hsz:ti.size=T.o.size) (h0:O 0 T.o.size=G)
    (hx:opv L b x=v) (hm:PV[m]?=E (.row T.o e' v s)) (hs:∀w,Y5 Z PV w->∃f,(∀τ,Z.le τ->T.rels τ f xs)/\vy w (opv L b y) xs.length f)
    (h:H p ((d,.int .i64 (min xs.length s.xs.length:Nat))::L) Z (PV.set m (.row T.o e' v ⟨xs.take s.xs.length++s.xs.drop xs.length,s.nn⟩))) :
    Xk P n w0 σ0 ⟨E d,.call {callee :=.builtin .copy,args:= #[x,y],argTypes:=tt},ty,ps,af,g⟩ p L b Z PV H:=by
 intro r hp a w i R K Q hK;have hT:0 < T.o.size:=by simpa using h0
 let⟨f,z,k⟩:=hs w i.held;have key:∃w',(qk tt ty #[v,opv L b y]).run P w = .ok (.int .i64 (min xs.length s.xs.length:Nat)) w'/\Inv w0 σ0 Z (PV.set m (.row T.o e' v ⟨xs.take s.xs.length++s.xs.drop xs.length,s.nn⟩)) w':=by
  have hnl:f.length=xs.length * T.o.size:=T.rels_len (z Z (FS.le.refl Z));by_cases hk:min xs.length s.xs.length=0
  · have A:(⟨xs.take s.xs.length++s.xs.drop xs.length,s.nn⟩:Sl α)=s:=by
      let⟨l,q⟩:=s;rcases Nat.min_eq_zero_iff.1 hk with e | e
      ·grind
      grind
    rw[A];have X:PV.set m (.row T.o e' v s)=PV:=by
     let⟨hl,he⟩:=U5.1 hm;rw[<- he,List.set_getElem_self]
    rw[X];refine⟨w,?_,i⟩;let⟨hh0,hr0,hsub⟩:=i.held.get hm;obtain⟨a0,c,rfl,_⟩:=zn.form (hr0:zn T.o e' v s Z hh0);rcases k with⟨D,e2,e3⟩ | ⟨a1,c1,D,_⟩
    ·rw[D,e2];cases a0<;>simp[qk,ht,UO hu,qv,qx,sizeOf,typeInfo,B,storeCells,goInt]
    ·rw[D,hk];have hk':qy xs.length s.xs.length=0:=hk;cases a0<;>simp[qk,ht,UO hu,qv,qx,sizeOf,typeInfo,B,storeCells,goInt,hk',loadCells,loadCellsFrom]
  · have hpos:0 < min xs.length s.xs.length:=Nat.pos_of_ne_zero hk;have hr2:∀τ,Z.le τ->T.rels τ (f.take (min xs.length s.xs.length * T.o.size)) (xs.take (min xs.length s.xs.length)):=λτ l=>T.rels_take _ (z τ l)
    have hl1:(xs.take (min xs.length s.xs.length)).length=min xs.length s.xs.length:=je
    obtain⟨a0,c,w',rfl,q1,q2⟩:=zrz (P:=P) m hT hm hr2 jE jE i;refine⟨w',?_,?_⟩
    · rcases k with⟨D,e2,e3⟩ | ⟨a1,c1,D,e2⟩
      ·grind
      · rw[D];have S:=VB (P:=P) (w:=w) a1 (f.take (min xs.length s.xs.length * T.o.size)) λj u hj=>e2 j u jE
        rw[show(f.take (min xs.length s.xs.length * T.o.size)).length=min xs.length s.xs.length * T.o.size by rw[De,hnl];exact Df (Dd _ (Nat.min_le_left _ _))] at S;have U:qy xs.length s.xs.length=min xs.length s.xs.length:=rfl;simp[qk,ht,UO hu,qv,qx,sizeOf,typeInfo,B,hsz,goInt,U,S,q1,Result.andThen]
    · have:(⟨xs.take (min xs.length s.xs.length)++s.xs.drop (xs.take (min xs.length s.xs.length)).length,s.nn⟩:Sl α)=⟨xs.take s.xs.length++s.xs.drop xs.length,s.nn⟩:=by
        rw[hl1];congr 1;rcases Nat.le_total xs.length s.xs.length with l | l
        ·grind
        ·rw[Nat.min_eq_right l,Uy (UD _),Uy l]
      grind
 let⟨w',N,hi2⟩:=key;unfold Oper.wp;have C:(execOp a.eval ⟨E d,.call {callee :=.builtin .copy,args:= #[x,y],argTypes:=tt},ty,ps,af,g⟩).run P w = .ok (.value (.int .i64 (min xs.length s.xs.length:Nat))) w':=by
  rw[R.eval];simp[execOp,resolve,invoke,builtin,hx,N]
 rw[C,Oper.upon_value];exact hK _ _ Z _ _ _ hp hi2 (R.put (by simpa[UT] using hn) _) h
end
section
variable {κ:Kp}{C:Cod}{S:St C}{ν:Val}{vs:Nat->List Value}{ids:List Nat}{L:List (Nat×Value)}{b:Nat->Value}{Z:FS}{PV:List Priv}{P:Program}{ρ:Type}
variable {t t' ty:TypeId}{x y z:Operand}{d id:Nat}{pv:Priv}{ps:String}{af:Array Edge}{g:Uv (Nat×Bool)}{A:AV C.D}{n:Nat}{w0:Start}{σ0:FS}{o:Oper}{X:Uv (Out C)}
theorem zx6{T U:Nat}{q:C.D T}{u:Sl (C.D U)}{c:Bool}(d:Zo C T q = .sl U u c):C.nst T < C.size T:=by
 have a:Zo C T q ≠.und:=jE
 unfold Zo at a;cases b:(C.emb T q)[C.nst T]? with
 |none=>grind
 |some A=>rw[<- C.len T q];grind
theorem zwT{T U:Nat}{q q':C.D T}{b:Sl (C.D U)}(g:C.nst T < C.size T)(d:C.imp T ((C.emb T q).set (C.nst T) (.sl U b I))=E q'):Zo C T q' = .sl U b I/\∀(j:Nat),j≠C.nst T->(C.emb T q')[j]?=(C.emb T q)[j]?:=by
 have e:(C.emb T q).length=C.size T:=C.len T q;have c:∀A∈(C.emb T q).set (C.nst T) (.sl U b I),A.base=true:=λA hA=>by
  rcases Dv hA with z | z
  ·exact C.base T q A z
  ·rw[z];rfl
 have f:∀(j:Nat),(C.emb T q')[j]?=((C.emb T q).set (C.nst T) (.sl U b I))[j]?:=λj=>by
  cases a:((C.emb T q).set (C.nst T) (.sl U b I))[j]? with
  |none=>
   rw[qE] at a |-
   rw[qC,C.len] at a;rw[C.len];exact a
  |some A=>exact zdG d a (c A (UM a))
 refine⟨?_,λj a=>?_⟩
 ·unfold Zo;grind
 grind
def W1(P:Program)(S:St C)(d:Nat)(ts:Array TypeId)(x y:Operand)(K:Out C->Uv ρ):Uv ρ:=match ts[0]? with
 |some t=>(match P.underlying t with
  |some (.slice e)=>(match P.info? e,S.op x,S.op y with
   |some ti,.nx id T i .whole,.nx id2 f i2 .whole=>(match S.heap id,S.heap id2 with
    |some (.orow T' s .all),E (.orow a b .all)=>chk (!M id id2 && (M T T' && M f a)) ((za s i).bind λq=>(za b i2).bind λc=>(match Zo C T' q,Zo C a c with
     | .sl U u _,.sl g u2 _=>chk (O 0 (C.size U) && M ti.size (C.size U)) ((wu (T:=U) u2).bind λxs=>(C.imp T' ((C.emb T' q).set (C.nst T') (.sl U ⟨xs.take u.xs.length++u.xs.drop xs.length,u.nn⟩ I))).bind λq'=>
         K (.go {env:=upd S.env d (.int .i64 (min xs.length u.xs.length:Nat)),heap:=upd S.heap id (E (.orow T' (s.set i q') .all))}))
     |_,_=>F))
    |_,_=>F)
   |_,_,_=>F)
  |_=>F)
 |none=>F
def Wo(P:Program)(S:St C)(d:Nat)(ts:Array TypeId)(x y:Operand):Uv (Out C):=W1 P S d ts x y E
theorem zoJ{ts:Array TypeId}{K:Out C->Uv ρ}:W1 P S d ts x y K=(Wo P S d ts x y).bind K:=by
 unfold Wo W1;split
 ·split
  ·split
   ·split
    ·rw[zx,gh];congr 1;congr 1;funext q;rw[gh];congr 1;funext q2;split
     ·simp only[zx,gh,jj]
     ·rfl
    ·rfl
   ·rfl
  ·rfl
 ·rfl
theorem zrA(h:AbsL κ S ν vs ids L b Z PV)(hn:O d n=G){ts:Array TypeId}:OpA κ P n w0 σ0 ⟨E d,.call {callee :=.builtin .copy,args:= #[x,y],argTypes:=ts},ty,ps,af,g⟩ (Wo P S d ts x y) L b Z PV:=by
 intro out a;unfold Wo W1 at a;split at a
 ·rename_i t ht;split at a
  ·rename_i e hu;have R:=h.op x;have hy:=h.op y;split at a
   ·rename_i ti id T i id2 Q i2 hi ex ey;rw[ex] at R;rw[ey] at hy;have R:opv L b x=(ν.adr id).sub i.toNat:=R.1;have hy:opv L b y=(ν.adr id2).sub i2.toNat:=hy.1;split at a
    ·rename_i T' s T2' s2 hs hs2;let⟨hT,a⟩:=zb a;simp only[gf,Do] at hT;let⟨v,hT1,hT2⟩:=hT;obtain rfl:=ge hT1;obtain rfl:=ge hT2;have v:id≠id2:=λe=>by subst e;simp at v
     let⟨q,hq,a⟩:=gd a;let⟨q2,hq2,a⟩:=gd a;split at a
     ·rename_i U u c j u2 c2 B hu2;let⟨c0,a⟩:=zb a;simp only[gf] at c0;let⟨xs,k,a⟩:=gd a;let⟨q',hq',a⟩:=gd a;unfold wu at k;split at k
      ·rename_i hUU;subst hUU;cases k;let⟨K,PV',hf,H⟩:=h.front2 (w0:=w0) (σ0:=σ0) v hs hs2;have z:∀w,Inv w0 σ0 Z PV w->Inv w0 σ0 Z (.row (zC C j).o j ((ν.adr id).sub i.toNat) u :: .row (Ze C T) T (ν.hdr id) (hpl C T (ν.adr id).sub s (.out i))::zK C ν vs id2 (E (.orow Q s2 .all))::PV') w:=λw hi=>(H w hi).sub_own λgg kk=>by
        let⟨h1,h2,m1,m2,n1,n2,X⟩:=kk.uncons;exact Sep.append (A:=[_,_]) (zcc (m1:zn (Ze C T) T (ν.hdr id) (hpl C T (ν.adr id).sub s .all) Z h1) hq B) m2 n1 n2 X
       refine OpA.pv z ?_ out a;have N:∀w,Y5 Z (.row (zC C j).o j ((ν.adr id).sub i.toNat) u :: .row (Ze C T) T (ν.hdr id) (hpl C T (ν.adr id).sub s (.out i))::zK C ν vs id2 (E (.orow Q s2 .all))::PV') w->∃f,(∀τ,Z.le τ->(zC C j).rels τ f u2.xs)/\vy w (opv L b y) u2.xs.length f:=by
        intro w hw;let⟨g1,p,D⟩:=hw.get (m:=2) rfl;have p:zn (Ze C Q) Q (ν.hdr id2) (hpl C Q (ν.adr id2).sub s2 .all) Z g1:=p;let⟨f1,f2,r1,r2,l1,l2,X⟩:=(zcc p hq2 hu2).uncons;have r1:zn (zC C j).o j ((ν.adr id2).sub i2.toNat) u2 Z f1:=r1;let⟨gA,f,k1,k2,k3⟩:=r1.source (D.mono l1);rw[hy];exact⟨f,λτ l=>(zC C j).rels_mono l (Ty.rels_o.1 k2),k3⟩
       refine OpA.of3 (zs7 (T:=zC C j) 0 hn ht hu hi (ge c0.2) c0.1 R rfl N λr hr=>⟨_,_,(V.inj hr).symm,⟨ν,vs,id::id2::K,(hf.setO0 (e' :=.orow T (s.set i q') .all) hs (λcs e=>by cases e)).put (A :=.int .i64 _) Rv.int trivial⟩,λw hi=>hi.sub_own λgg kk=>?_⟩);let⟨h1,h2,m1,m2,n1,n2,X⟩:=Sep.split (A:=[_,_]) kk;let⟨e1,e2⟩:=zwT (zx6 B) hq';exact .cons (h1:=h1) (ziC m1 hq e1 e2) m2 n1 n2 X
      ·cases k
     ·cases a
    ·cases a
   ·cases a
  ·cases a
 ·cases a
end
variable [Dfr]
section
variable {ρ:Type}{n:Nat}{w0:Start}{σ0 Z:FS}{p:Uv ρ}{L:List (Nat×Value)}{b:Nat->Value}{PV PV':List Priv}{P:Program}
variable {H:Uv ρ->List (Nat×Value)->FS->List Priv->Prop}{d:Nat}{v:Value}{t ty:TypeId}{ps:String}{af:Array Edge}{g:Uv (Nat×Bool)}{x:Operand}
end
section
variable {κ:Kp}{C:Cod}{S:St C}{ν:Val}{vs:Nat->List Value}{ids:List Nat}{L:List (Nat×Value)}{b:Nat->Value}{Z:FS}{PV:List Priv}{P:Program}{ρ:Type}
variable {t t' ty:TypeId}{x y z:Operand}{d id:Nat}{pv:Priv}{ps:String}{af:Array Edge}{g:Uv (Nat×Bool)}{A:AV C.D}{n:Nat}{w0:Start}{σ0:FS}{o:Oper}{X:Uv (Out C)}
def zdJ{D:Nat->Type}:List (AV D)->Nat->Bool
 |cs,k=>match cs[k]? with
  |some (.row _)=>G
  |_=>I
def isO(S:St C)(x:Operand):Bool:=match S.op x with
 | .row id=>(match S.heap id with
  |some (.orow _ _ _)=>G
  |_=>I)
 |_=>I
def zfC(S:St C)(x:Operand):Bool:=match S.op x with
 | .nx _ _ _ _=>G
 |_=>I
def zfD(S:St C)(x y:Operand):Bool:=match S.op x with
 | .pr id T i off=>(match S.heap id with
  |some (.orow _ _ _)=>G
  |some (.row T' _)=>C.own T' && (W off (C.nst T') && zdJ (zt (S.op y)) (C.nst T' - off))
  |_=>I)
 | .nx _ _ _ _=>G
 |_=>I
def YO(P:Program)(t:TypeId):Nat:=match P.underlying t with
 |some (.slice e)=>e
 |_=>0
inductive KN where
 |st (t:TypeId) (x y:Operand)
 |apn (d:Nat) (t t':TypeId) (x y:Operand)
 |apo (d:Nat) (t t':TypeId) (x y:Operand)
 |bl (d:Nat) (t:TypeId) (i m:Nat) (y:Operand)
 |mk (d:Nat) (t:TypeId) (x y:Operand)
 |cy (d:Nat) (ts:Array TypeId) (x y:Operand)
def xd(P:Program)(S:St C):Uv Nat->Op->Uv KN
 |none,.store t x y=>bif zfD S x y then E (.st t x y) else F
 |some d,.call ⟨.builtin .append,args,ts⟩=>(match args.toList,ts.toList with
  |[x,y],[t,t']=>bif zfC S x then E (.apn d t t' x y) else bif isO S y then E (.apo d t t' x y) else F
  |_,_=>F)
 |some d,.buildSlice t m a=>(match a.toList with
  |[(i,y)]=>bif C.own (YO P t) && zdJ (zt (S.op y)) (C.nst (YO P t)) then E (.bl d t i m y) else F
  |_=>F)
 |some d,.makeSlice t x y=>bif C.own (YO P t) then E (.mk d t x y) else F
 |some d,.call ⟨.builtin .copy,args,ts⟩=>(match args.toList with
  |[x,y]=>E (.cy d ts x y)
  |_=>F)
 |_,_=>F
def W3(P:Program)(S:St C):KN->Uv (Out C)
 | .st t x y=>xR P S t x y
 | .apn d t t' x y=>chk (M t t') (Wl P S d t x y)
 | .apo d t t' x y=>chk (M t t') (Wn P S d t x y)
 | .bl d t i m y=>chk (M i 0 && M m 1) (xT P S d t y)
 | .mk d t x y=>XW P S d t x y
 | .cy d ts x y=>Wo P S d ts x y
theorem zx7(h:AbsL κ S ν vs ids L b Z PV){dst:Uv Nat}{op:Op}(l:∀d,dst=E d->O d n=G){k:KN}(a:xd P S dst op=E k):OpA κ P n w0 σ0 ⟨dst,op,ty,ps,af,g⟩ (W3 P S k) L b Z PV:=by
 unfold xd at a;split at a
 ·rename_i t x y;cases e:zfD S x y with
  |false=>grind
  |true=>rw[e] at a;cases a;exact zmO h
 ·rename_i d args ts;split at a
  ·rename_i x y t t' j q;cases e:zfC S x with
   |true=>
    rw[e] at a;cases a;intro out a;let⟨f,c⟩:=zb a;obtain rfl:=ge f;rw[za0 j,za0 q];exact zrx h (l d rfl) out c
   |false=>
    rw[e,U0] at a;cases p:isO S y with
    |false=>grind
    |true=>
     rw[p] at a;cases a;intro out a;let⟨f,c⟩:=zb a;obtain rfl:=ge f;rw[za0 j,za0 q];exact zry h (l d rfl) out c
  ·cases a
 ·rename_i d t m o;split at a
  ·rename_i i y j;cases e:(C.own (YO P t) && zdJ (zt (S.op y)) (C.nst (YO P t))) with
   |false=>grind
   |true=>
    rw[e] at a;cases a;intro out a;let⟨f,c⟩:=zb a;simp only[gf] at f;obtain rfl:=ge f.1;obtain rfl:=ge f.2;exact zmP h (l d rfl) j out c
  ·cases a
 ·rename_i d t x y;cases e:C.own (YO P t) with
  |false=>rw[e] at a;cases a
  |true=>rw[e] at a;cases a;exact zoI h (l d rfl)
 ·rename_i d args ts;split at a
  ·rename_i x y j;cases a;rw[za0 j];exact zrA h (l d rfl)
  ·cases a
 ·cases a
end
end
end Go.Px
