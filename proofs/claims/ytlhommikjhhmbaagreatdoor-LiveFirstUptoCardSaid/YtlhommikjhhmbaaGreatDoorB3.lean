/- Part B3. -/
import Derived.Test.YtlhommikjhhmbaaGreatDoorA3
set_option linter.unusedSectionVars false
set_option linter.unusedVariables false
set_option linter.unusedSimpArgs false
namespace Go.Px
open Bool renaming true->G,false->I,and_eq_true_iff->qo
open Go.Builtin renaming copy_->qk,lenOf->qv,firstCells->qx
open List renaming range->Y,cons_eq_cons->qs,range'->qA,map_map->qB,length_set->qC,getElem?_replicate->qD,getElem?_eq_none_iff->qE
open Nat renaming beq->M,blt->O,ble->W,min->qy
open _root_.Option renaming some->E,none->F,some->V
section
theorem D8:∀{m n : Nat},m∈Y n↔m < n:=@List.mem_range
theorem D7:∀{α:Type _}{p:α->Bool}{«as»:List α}{x:α},x∈List.filter p «as»↔x∈«as»/\p x=true:=@List.mem_filter
variable [Dfr]
section
variable {ρ:Type}{n:Nat}{w0:Start}{σ0 Z:FS}{p:U3 ρ}{L:List (Nat×Value)}{b:Nat->Value}{PV:List Priv}{P:Program}
variable {H:U3 ρ->List (Nat×Value)->FS->List Priv->Prop}{d:Nat}{v:Value}{t t' ty:TypeId}{ps:String}{af:Array Edge}{g:U3 (Nat×Bool)}{x y z:Operand}{k:IntKind}{i j:Int}
theorem zc.put_disj{c f:zc}{q off:Nat}{vs:List Value}(a:∀j,j < vs.length->(c q (off+j+1)).isSome)(l:c.disj f):(c.put q off vs).disj f:=λb h=>by
 cases m:c.put q off vs b h with
 |none=>exact .inl rfl
 |some y=>
  have:=zc.put_dom a (by rw[m];rfl);rcases l b h with z | z
  all_goals grind
theorem WY {α:Type}{T:OTy α}{e:TypeId}{s:Sl α}{ti:TypeInfo}{q q':α}{us:List Value}{off:Nat}(A C:List Priv) (hi':P.info? t=E ti) (m:opv L b x = .pointer (E (zi v (i.toNat * T.size+off)))) (hy:(opv L b y).cells.toList=us)
    (hs:ti.size=us.length) (h0:0 < us.length) (hone:∀u∈us,u.oneCell'=G) (hq:za s i=E q) (hoff:off+us.length<=T.size)
    (hr:∀g gA k cs,T.rel Z g cs q->Sep Z A gA->g.disj gA->g.le k->gA.le k->T.rel Z k (cs.take off++us++cs.drop (off+us.length)) q')
    (h:H p L Z (.row T e v (s.set i q')::C)):Xl P n w0 σ0 ⟨F,.store t x y,ty,ps,af,g⟩ p L b Z (.row T e v s::(A++C)) H:=by
 intro r hp a w hi hf K Q hK;have hne:us≠[]:=jE
 have hsz:(opv L b y).cells.size=us.length:=jE
 have hi0:Inv w0 σ0 Z ((.row T e v s::A)++C) w:=hi;refine Exists.elim (hi0.replace (R:=λw' A'=>(execOp a.eval ⟨F,.store t x y,ty,ps,af,g⟩).run P w = .ok .skip w'/\A'=[Priv.row T e v (s.set i q')]) ?_) ?_
 · intro hA sA c;let⟨f1,N,k1,k2,l1,l2,dd⟩:=Sep.uncons sA;let⟨g1,g2,m1,m2,n1,n2,d3⟩:=(VB (v:=v) (e:=e) (i:=i) k1 hq).uncons;let⟨cs,c1,c2,p1,p2,p3,p4,p5⟩:=m2.one_of;have hcl:cs.length=T.size:=T.len p5;have l12:c1.le hA:=p1.trans (n2.trans l1);have l22:c2.le hA:=p2.trans (n2.trans l1);have hsp:=p4.1;have hadd:(zi v (i.toNat * T.size)).add off=⟨(zi v (i.toNat * T.size)).block,(zi v (i.toNat * T.size)).off+off,F⟩:=Addr.add_eq _ hsp off;have l:∀j,j < us.length->∃y,c1 (zi v (i.toNat * T.size)).block ((zi v (i.toNat * T.size)).off+off+j+1)=E (.cell y):=λj hj=>
     ⟨_,by rw[(Zc:(zi v (i.toNat * T.size)).off+off+j=(zi v (i.toNat * T.size)).off+(off+j))];exact p4.2 (off+j) _ (UJ Zc)⟩
   have hlt2:(zi v (i.toNat * T.size)).block < w.heap.size:=by
    let⟨y,hy⟩:=l 0 Zc;exact Bit.at_lt (c _ _ _ (l12 _ _ _ hy))
   let⟨w',j1,j2,j3⟩:=VA (P:=P) (c.mono l12) hlt2 l hone hne;have hall:∀j,j < us.length->(c1 (zi v (i.toNat * T.size)).block ((zi v (i.toNat * T.size)).off+off+j+1)).isSome:=λj hj=>jE
   generalize hcp:c1.put (zi v (i.toNat * T.size)).block ((zi v (i.toNat * T.size)).off+off) us=cp at *
   have hd':∀{f:zc},c1.disj f->cp.disj f:=λ{f} df=>by rw[<- hcp];exact zc.put_disj hall df
   have hdom:∀b i',(cp b i').isSome->(c1 b i').isSome:=λb i' m=>by rw[<- hcp] at m;exact zc.put_dom hall m
   have dcg:c1.disj g1:=(d3.mono (.refl _) p1).symm;have d2g:c2.disj g1:=(d3.mono (.refl _) p2).symm;have dcA:c1.disj N:=dd.mono (p1.trans n2) (.refl _);have d2A:c2.disj N:=dd.mono (p2.trans n2) (.refl _);have dgA:g1.disj N:=dd.mono n1 (.refl _);have D:Z2 (zi v (i.toNat * T.size)) (cs.take off++us++cs.drop (off+us.length)) cp:=by
    refine⟨hsp,λj u hj=>?_⟩;rw[xw Zc rfl] at hj;rw[<- hcp];split at hj
    ·rw[(Zc:(zi v (i.toNat * T.size)).off+j+1=(zi v (i.toNat * T.size)).off+off+(j - off)+1)];exact zc.put_in hj
    ·rw[zc.put_out Zc];exact p4.2 j u hj
   have hnew:=hr c2 N (c2.or N) cs p5 k2 d2A (zc.le_or _ _) (zc.le_or_right d2A);have dn:cp.disj (c2.or N):=(zc.or_disj (hd' p3).symm (hd' dcA).symm).symm;have dg:g1.disj (cp.or (c2.or N)):=(zc.or_disj (hd' dcg) (zc.or_disj d2g dgA.symm)).symm;refine⟨w',_,g1.or (cp.or (c2.or N)),⟨?_,rfl⟩,.one ?_,?_,j3.mono l12,λb i' m =>.inl ?_⟩
   · rw[hf.eval];have he:(⟨(zi v (i.toNat * T.size)).block,(zi v (i.toNat * T.size)).off+off,F⟩:Addr)=zi v (i.toNat * T.size+off):=by rw[<- Yx,hadd]
     rw[he] at j1;simp only[execOp,Instr.storeAt,Instr.sureAddr,m,storeVar,sizeOf,typeInfo,UW,UU,UY,UX,hi',hsz,hs,Dj,not_true,jp,hy,j1]
   ·exact m1 Z _ q' _ (.refl _) dg ⟨_,cp,c2.or N,zc.le_or _ _,zc.le_or_right dn,dn,D,hnew⟩ (zc.le_or _ _) (zc.le_or_right dg)
   ·exact zc.or_sub (j3.frag dcg (c.mono (n1.trans l1))) (zc.or_sub j2 (zc.or_sub (j3.frag p3 (c.mono l22)) (j3.frag dcA (c.mono l2))))
   · unfold zc.or at m;cases hx1:g1 b i' with
     |some y=>exact(n1.trans l1).isSome (by simp[hx1])
     |none=>
      rw[hx1] at m;cases hx2:cp b i' with
      |some y=>exact l12.isSome (hdom b i' (by rw[hx2];rfl))
      |none=>
       rw[hx2] at m;cases hx3:c2 b i' with
       |some y=>exact l22.isSome (by rw[hx3];rfl)
       |none=>rw[hx3] at m;exact l2.isSome (by simpa using m)
 ·rintro w' ⟨A',⟨hrun,rfl⟩,hi2⟩;unfold Oper.wp;rw[hrun,Oper.upon_skip];exact hK _ _ Z _ _ _ hp hi2 hf h
end
section
variable {κ:Kp}{C:Cod}{S:St C}{ν:Val}{vs:Nat->List Value}{ids:List Nat}{L:List (Nat×Value)}{b:Nat->Value}{Z:FS}{PV:List Priv}{P:Program}
variable {t t' ty:TypeId}{x y z:Operand}{d id:Nat}{pv:Priv}{ps:String}{af:Array Edge}{g:U3 (Nat×Bool)}{A:AV C.D}{n:Nat}{w0:Start}{σ0:FS}{o:Oper}{X:U3 (Out C)}
theorem AbsL.front1(h:AbsL κ S ν vs ids L b Z PV){id:Nat}{e:Ent C}(h1:S.heap id=E e):∃a PV',AbsL κ S ν vs (id::a) L b Z (zK C ν vs id (E e)::PV')/\∀w,Inv w0 σ0 Z PV w->Inv w0 σ0 Z (zK C ν vs id (E e)::PV') w:=by
 let⟨m,c,hid⟩:=h.at h1;exact⟨_,_,h.front hid c⟩
theorem AbsL.front2 (h:AbsL κ S ν vs ids L b Z PV) {id id2:Nat}{e c:Ent C}(r:id≠id2) (h1:S.heap id=E e) (h2:S.heap id2=E c) :
    ∃a PV',AbsL κ S ν vs (id::id2::a) L b Z (zK C ν vs id (E e)::zK C ν vs id2 (E c)::PV')/\∀w,Inv w0 σ0 Z PV w->Inv w0 σ0 Z (zK C ν vs id (E e)::zK C ν vs id2 (E c)::PV') w:=by
 let⟨f,D,l,R⟩:=h.front1 (w0:=w0) (σ0:=σ0) h2;let⟨m,K,hid⟩:=l.at h1;cases m with
 |zero=>grind
 |succ m=>
  let⟨N,Q⟩:=l.front (w0:=w0) (σ0:=σ0) hid K;grind
theorem AbsL.setO0 (h:AbsL κ S ν vs (id::ids) L b Z (pv::PV)) {e e':Ent C}(K:S.heap id=E e) (R:∀cs,e' ≠.cell cs) (Q:Z0 (E e')=G->Z0 (E e)=true:=by first | exact λh=>h | exact λh=>by cases h) :
    AbsL κ {S with heap:=upd S.heap id (E e')} ν vs (id::ids) L b Z (zK C ν vs id (E e')::PV):=by
 have r:∀j,(S.heap j).isSome=(upd S.heap id (E e') j).isSome:=λj=>by
  by_cases f:j=id
  ·subst f;rw[zp,K];rfl
  ·rw[zq f]
 have w:=UE.1 h.nd;have m:PV=ids.map λj=>zK C ν vs j (S.heap j):=by have:=h.pv;grind
 refine⟨⟨h.nd,λj=>?_,?_,λj c a=>?_,h.env,h.one⟩,λt=>?_,λj c a=>?_,λk D hs=>have q:=h.keep k D jE;⟨q.1,q.2.1,λN=>q.2.2 (zbK (λh=>jE) N)⟩⟩
 ·show _↔(upd S.heap id (E e') j).isSome=G;rw[<- r];exact h.dom j
 · rw[UF];refine qs.2 ⟨by show _=zK C ν vs id (upd S.heap id (E e') id);rw[zp],?_⟩;rw[m];refine D0 λj a=>?_
   have l:j≠id:=λf=>jE
   show zK C ν vs j (S.heap j)=zK C ν vs j (upd S.heap id (E e') j);rw[zq l]
 · have a:upd S.heap id (E e') j=_:=a;by_cases f:j=id
   ·subst f;rw[zp] at a;grind
   ·rw[zq f] at a;exact h.cell j c a
 ·exact AV.ok_mono (λj a=>jE) (h.live t)
 · have a:upd S.heap id (E e') j=_:=a;refine AV.oks_mono (p:=λid=>(S.heap id).isSome=G) (λj a=>jE) ?_;by_cases f:j=id
   ·subst f;rw[zp] at a;grind
   ·rw[zq f] at a;exact h.livec j c a
theorem zsY{q:Nat->Bool}{o:U3 (Ent C)}:Z0 (o.map (Ent.knx q))=Z0 o:=by
 cases o with
 |none=>rfl
 |some e=>cases e<;>rfl
def St.owk(S:St C)(id:Nat)(e:Ent C):St C:=
 {env:=λt=>AV.knx (λj=>M j id) (S.env t),heap:=λj=>bif M j id then E e else(S.heap j).map (Ent.knx λj=>M j id)}
theorem AbsL.setO (h:AbsL κ S ν vs (id::ids) L b Z (pv::PV)) {e:Ent C}(hc:S.heap id=E e) {T:Nat}{s:Sl (C.D T)}{g:Own}{sub:Nat->Value}(Q:g.isFix=I) :
    AbsL κ (S.owk id (.orow T s g)) {hdr:=ν.hdr,adr:=upd ν.adr id ⟨(ν.adr id).a,sub⟩ } vs (id::ids) L b Z (.row (Zd C T) T (ν.hdr id) (hpl C T sub s g)::PV):=by
 let ν':Val:={hdr:=ν.hdr,adr:=upd ν.adr id ⟨(ν.adr id).a,sub⟩ }
 let q:Nat->Bool:=λj=>M j id
 have hd:∀j,j≠id->(S.owk id (.orow T s g)).heap j=(S.heap j).map (Ent.knx q):=λj f=>by
  show(bif M j id then _ else _)=_;cases l:M j id with
  |true=>exact absurd (ge l) f
  |false=>rfl
 have r:(S.owk id (.orow T s g)).heap id=E (.orow T s g):=by
  show(bif M id id then _ else _)=_;simp
 have hlv:∀j,(S.heap j).isSome=((S.owk id (.orow T s g)).heap j).isSome:=λj=>by
  grind
 have ha:∀j,(S.heap j).isSome=G->ν.hdr j=ν'.hdr j/\(ν.adr j).a=(ν'.adr j).a:=λj _=>by
  refine⟨rfl,?_⟩;show _=(upd ν.adr id ⟨(ν.adr id).a,sub⟩ j).a;by_cases l:j=id
  ·subst l;rw[zp]
  ·rw[zq l]
 have hs:∀j,(S.heap j).isSome=G->q j=I->(ν.adr j).sub=(ν'.adr j).sub:=λj _ hq=>by
  show _=(upd ν.adr id ⟨(ν.adr id).a,sub⟩ j).sub;rw[zq λl=>by subst l;simp[q] at hq]
 have hnd:=UE.1 h.nd;have hpv:PV=ids.map λj=>zK C ν vs j (S.heap j):=by have:=h.pv;grind
 have m:∀j c,(S.owk id (.orow T s g)).heap j=E (.cell c)->∃c0,S.heap j=E (.cell c0)/\c=AV.knxs q c0:=λj c f=>by
  by_cases l:j=id
  ·grind
  · rw[hd j l] at f;cases R:S.heap j with
    |none=>grind
    |some N=>
     rw[R] at f;cases N with
     |cell c0=>cases f;grind
     |row T s=>cases f
     |obj k T b s=>cases f
     |orow T s g=>cases f
 refine⟨⟨h.nd,λj=>?_,?_,λj c f=>?_,λt=>?_,h.one⟩,λt=>?_,λj c f=>?_,λk hk hs'=>?_⟩
 ·rw[<- hlv];exact h.dom j
 · rw[UF];refine qs.2 ⟨?_,?_⟩
   ·rw[r];show _=Priv.row (Zd C T) T (ν.hdr id) (hpl C T (upd ν.adr id ⟨(ν.adr id).a,sub⟩ id).sub s g);rw[zp]
   · rw[hpv];refine D0 λj f=>?_
     have w:j≠id:=λl=>jE
     rw[hd j w];have e3:upd ν.adr id ⟨(ν.adr id).a,sub⟩ j=ν.adr j:=zq w;cases S.heap j with
     |none=>rfl
     |some N=>cases N<;>simp[zK,Ent.knx,e3]
 ·obtain⟨c0,h1,rfl⟩:=m j c f;exact VRs.knx ha hs (h.livec j c0 h1) (h.cell j c0 h1)
 ·exact VR.knx ha hs (h.live t) (h.env t)
 ·exact AV.ok_mono (λj f=>jE) (AV.ok_knx (h.live t))
 ·obtain⟨c0,h1,rfl⟩:=m j c f;exact AV.oks_mono (λj f=>jE) (AV.oks_knx (h.livec j c0 h1))
 · have h1:(S.heap k).isSome=true:=jE
   have:=h.keep k hk h1;refine⟨this.1,(ha k h1).2.symm.trans this.2.1,λK=>?_⟩;by_cases l:k=id
   ·subst l;rw[r] at K;exact absurd K (by show¬ g.isFix=G;rw[Q];simp)
   ·refine Eq.trans (congrArg Loc.sub (zq l)) (this.2.2 ?_);rw[hd k l,zsY] at K;exact K
theorem zca {T:Nat}{sub:Nat->Value}{s:Sl (C.D T)}{v:Value}{h:zc}{i:Int}{q:C.D T}{U:Nat}{u:Sl (C.D U)}{c:Bool}(hr:zn (Zd C T) T v (hpl C T sub s .all) Z h) (K:za s i=E q) (hu:Zn C T q = .sl U u c) :
    Sep Z [.row (zB C U).o U (sub i.toNat) u,.row (Zd C T) T v (hpl C T sub s (.out i))] h:=by
 let⟨h1,h2,m1,m2,n1,w,m⟩:=(VB (v:=v) (e:=T) (i:=i) hr (WN K)).uncons;let⟨cs,c1,c2,Q,N,p3,p4,l⟩:=m2.one_of;have l:Yb C T Z c2 cs (q,Own.all.fl i.toNat,sub i.toNat):=l;let⟨k1,k2,k3,k4,k5,k6⟩:=l;let⟨U',u',r,e2⟩:=k6 rfl;rw[hu] at r;cases r;have R:h1.disj c1:=m.mono (.refl _) Q;have d2:h1.disj c2:=m.mono (.refl _) N;have a:(Priv.row (Zd C T) T v ((hpl C T sub s .all).set i (q,(Own.out i).fl i.toNat,sub i.toNat))).holds Z (h1.or c1):=by
  refine m1 Z c1 _ _ (.refl _) R ⟨cs,c1,zc.none,.refl _,zc.none_le _,zc.disj_none _,p4,?_⟩ (zc.le_or _ _) (zc.le_or_right R);exact⟨k1,k2,k3,k4,λe=>by simp[Own.fl] at e,λe=>by simp[Own.fl] at e⟩
 have he:(hpl C T sub s .all).set i (q,(Own.out i).fl i.toNat,sub i.toNat)=hpl C T sub s (.out i):=by
  rw[zd6 (g :=.all) (g' :=.out i) (sub':=sub) (q':=q) λj hj f=>⟨by simp[Own.fl,f],rfl⟩,Sl.set_same K]
 rw[he] at a;refine .cons (h1:=c2) (h2:=h1.or c1) e2 (Sep.one a) (N.trans w) (zc.or_le n1 (Q.trans w)) ?_;exact(zc.or_disj d2 p3).symm
theorem ziL {T:Nat}{sub:Nat->Value}{s:Sl (C.D T)}{v:Value}{h:zc}{i:Int}{q q':C.D T}{U:Nat}{f:Sl (C.D U)}(hs:Sep Z [.row (zB C U).o U (sub i.toNat) f,.row (Zd C T) T v (hpl C T sub s (.out i))] h) (hq:za s i=E q)
    (hu:Zn C T q' = .sl U f I) (ho:∀(j:Nat),j≠C.nst T->(C.emb T q')[j]?=(C.emb T q)[j]?):zn (Zd C T) T v (hpl C T sub (s.set i q') .all) Z h:=by
 let⟨c,f2,l,r,l1,l2,N⟩:=hs.uncons;have l:zn (zB C U).o U (sub i.toNat) f Z c:=l;have r:zn (Zd C T) T v (hpl C T sub s (.out i)) Z f2:=r.one_of;let⟨h1,h2,m1,m2,K,Q,d3⟩:=(VB (v:=v) (e:=T) (i:=i) r (WN hq)).uncons;let⟨cs,c1,c2,w,p2,p3,p4,p5⟩:=m2.one_of;let⟨k1,k2,k3,k4,k5,k6⟩:=(p5:Yb C T Z c2 cs (q,(Own.out i).fl i.toNat,sub i.toNat));have d1:h1.disj c1:=d3.mono (.refl _) w;have d2:h1.disj c:=(N.mono (.refl _) K).symm;have R:c1.disj c:=(N.mono (.refl _) (w.trans Q)).symm;have dn:h1.disj (c1.or c):=(zc.or_disj d1.symm d2.symm).symm;have a:(Priv.row (Zd C T) T v ((hpl C T sub s (.out i)).set i (q',Own.all.fl i.toNat,sub i.toNat))).holds Z h:=by
  refine m1 Z (c1.or c) _ h (.refl _) dn ⟨cs,c1,c,zc.le_or _ _,zc.le_or_right R,R,p4,?_⟩ (K.trans l2) (zc.or_le ((w.trans Q).trans l2) l1);refine⟨k1,k2,λj A hj hn=>?_,k4,λe=>by simp[Own.fl] at e,λ_=>⟨U,f,hu,l⟩⟩;grind
 have he:(hpl C T sub s (.out i)).set i (q',Own.all.fl i.toNat,sub i.toNat)=hpl C T sub (s.set i q') .all:=zd6 λj hj m=>⟨by simp[Own.fl,m],rfl⟩
 rw[he] at a;exact a
end
end
section
variable [Dfr]
def Vq:Own->Int->U3 Own
 | .all,_=>E .all
 | .out j,i=>chk (decide (i=j)) (E .all)
 | .upto k,i=>chk (decide (i=k)) (E (.upto (k+1)))
 | .fix,_=>F
def zfy{α:Type}(g:Own)(i:Int)(K:Own->U3 α):U3 α:=match g with
 | .all=>K .all
 | .out j=>chk (decide (i=j)) (K .all)
 | .upto k=>chk (decide (i=k)) (K (.upto (k+1)))
 | .fix=>F
theorem vn{α:Type}{g:Own}{i:Int}{K:Own->U3 α}:zfy g i K=(Vq g i).bind K:=by
 cases g with
 |all=>rfl
 |out j=>exact(zx (x:=E Own.all)).symm
 |upto k=>exact(zx (x:=E (Own.upto (k+1)))).symm
 |fix=>rfl
theorem zoM{g g':Own}{i:Int}(h:Vq g i=E g')(h0:0<=i):g'.fl i.toNat=1/\∀j,j≠i.toNat->g'.fl j=g.fl j:=by
 cases g with
 |all=>cases h;exact⟨rfl,λ_ _=>rfl⟩
 |out j=>
  let⟨e,h2⟩:=zb h;have e:=Dv e;subst e;cases h2;exact⟨rfl,λj a=>by simp[Own.fl,a]⟩
 |fix=>cases h
 |upto k=>
  let⟨e,h2⟩:=zb h;have e:=Dv e;subst e;cases h2;refine⟨?_,λj a=>?_⟩
  ·show(if i.toNat < (i+1).toNat then 1 else 0)=1;grind
  ·show(if j < (i+1).toNat then 1 else 0)=(if j < i.toNat then 1 else 0);grind
theorem zfd{g g':Own}{i:Int}(h:Vq g i=E g'):g'.isFix=false:=by
 cases g with
 |all=>cases h;rfl
 |out j=>let⟨_,h2⟩:=zb h;cases h2;rfl
 |fix=>cases h
 |upto k=>let⟨_,h2⟩:=zb h;cases h2;rfl
section
variable {C:Cod}{Z:FS}{ν:Val}
theorem zk5{D:Nat->Type}{A B:AV D}(h:leA A B)(hb:A.base=G):B=A:=by
 rcases h with h | ⟨T,s,c,rfl,rfl⟩ | ⟨T,c,rfl,rfl⟩
 ·exact h.symm
 ·have:c=false:=by simpa[AV.base] using hb
  rw[this]
 ·cases hb
theorem zcb{D:Nat->Type}:∀{c bs:List (AV D)},zfj c bs->∀{j:Nat}{B:AV D},bs[j]?=E B->∃A,c[j]?=E A/\leA A B
 |[],[],_,j,B,h=>by simp at h
 |a::c,b::bs,⟨h,k⟩,0,B,e=>jE
 |a::c,b::bs,⟨h,k⟩,j+1,B,e=>by simpa using zcb k (j:=j) (by simpa using e)
 |[],_::_,h,_,_,_=>h.elim
 |_::_,[],h,_,_,_=>h.elim
theorem zdD{T:Nat}{cs:List (AV C.D)}{q:C.D T}(h:C.imp T cs=E q){j:Nat}{A:AV C.D}(m:cs[j]?=E A)(hb:A.base=G):(C.emb T q)[j]?=E A:=by
 have c:=C.imp_ok T cs q h;have l:=zkB c;have a:j < (C.emb T q).length:=jE
 let⟨A',f,r⟩:=zcb c (UJ a);rw[m] at f;cases f;rw[UJ a,zk5 r hb]
def WZ{D:Nat->Type}(off:Nat)(cs us:List (AV D)):List (AV D):=cs.take off++us++cs.drop (off+us.length)
theorem zfz{D:Nat->Type}{cur us:List (AV D)}{o:Nat}(c:o+us.length<=cur.length)(j:Nat):(WZ o cur us)[j]?=if o<=j/\j < o+us.length then us[j - o]? else cur[j]?:=by
 have a:(cur.take o).length=o:=ji
 unfold WZ;by_cases h1:j < o
 ·grind
 ·by_cases h2:j < o+us.length
  ·rw[jv ⟨Zc,h2⟩,Dc,Dd Zc,a,De Zc]
  ·rw[jx Zc,Dd jE,Di];grind
theorem ziM {T off:Nat}{g:zc}{cs us:List Value}{q q':C.D T}{f:Nat}{v0:Value}{cells cells':List (AV C.D)}(r:Yb C T Z g cs (q,f,v0)) (w:VRs C Z ν us cells) (hone:∀u∈us,u.oneCell'=G) (K:cells'.length=cells.length) (R:off+us.length<=C.size T)
    (hq:C.imp T (WZ off (C.emb T q) cells')=E q') (hc:∀(j:Nat) A,cells'[j]?=E A->off+j≠C.nst T->cells[j]?=E A) :
    (cs.take off++us++cs.drop (off+us.length)).length=C.size T/\(∀u∈cs.take off++us++cs.drop (off+us.length),u.oneCell'=G)/\
    ∀(j:Nat) A,(C.emb T q')[j]?=E A->j≠C.nst T->∃u,(cs.take off++us++cs.drop (off+us.length))[j]?=E u/\Rv C Z u A:=by
 have hcl:=r.1;refine⟨jE,λu a=>?_,λj A Q hn=>?_⟩
 · rcases U5.1 a with a | a
   · rcases U5.1 a with a | a
     ·exact r.2.1 u (List.mem_of_mem_take a)
     grind
   ·exact r.2.1 u (List.mem_of_mem_drop a)
 · let⟨B,l,e2⟩:=zcb (C.imp_ok T _ q' hq) Q;have hb:=C.base T q' A (UT Q);rw[xw Zc rfl];have hel:(C.emb T q).length=C.size T:=C.len T q;have N:=w.len;rw[zfz Zc] at l;rw[K,<- N] at l;split
   ·rename_i h;rw[jv h] at l;have:=hc _ _ l Zc;let⟨u,m,c⟩:=w.get _ _ this;exact⟨u,m,(zf9 c e2).rv hb⟩
   ·rename_i h;rw[jx h] at l;let⟨u,m,c⟩:=r.2.2.1 j B l hn;refine⟨u,m,?_⟩;rw[zk5 e2 (C.base T q B (UT l))];exact c
theorem zsZ {T off:Nat}{g k:zc}{cs us:List Value}{q q':C.D T}{f:Nat}{v0:Value}{cells:List (AV C.D)}(r:Yb C T Z g cs (q,f,v0)) (a:VRs C Z ν us cells) (l:∀u∈us,u.oneCell'=G) (c:off+us.length<=C.size T)
    (m:C.imp T (WZ off (C.emb T q) cells)=E q') (ho:C.nst T < off\/off+us.length<=C.nst T) (N:g.le k):Yb C T Z k (cs.take off++us++cs.drop (off+us.length)) (q',f,v0):=by
 let⟨h1,h2,h3⟩:=ziM r a l rfl c m λj A h _=>h
 have R:=r.1;have hel:(C.emb T q).length=C.size T:=C.len T q;have K:=a.len;have hn:=r.nlt;have Q:Zn C T q'=Zn C T q:=by
  unfold Zn;have:(C.emb T q)[C.nst T]?=E ((C.emb T q)[C.nst T]' Zc):=UJ Zc;rw[this];have e:(WZ off (C.emb T q) cells)[C.nst T]?=E ((C.emb T q)[C.nst T]' Zc):=by
   rw[zfz Zc,jx Zc];exact this
  rw[zdD m e (C.base T q _ (UT this))]
 refine⟨h1,h2,h3,?_,λe=>?_,λe=>?_⟩
 ·rw[xw Zc rfl,jx Zc];exact r.2.2.2.1
 ·show Rv C Z v0 (Zn C T q');rw[Q];exact r.2.2.2.2.1 e
 ·let⟨U,s,k1,w⟩:=r.2.2.2.2.2 e;exact⟨U,s,jE,w.mono (.refl _) N⟩
theorem ziN {T off U:Nat}{g gA k:zc}{cs us:List Value}{q q':C.D T}{f:Nat}{v0 v:Value}{cells:List (AV C.D)}{u:Sl (C.D U)}(r:Yb C T Z g cs (q,f,v0)) (c:VRs C Z ν us cells) (m:∀u∈us,u.oneCell'=G) (l:off+us.length<=C.size T)
    (w:C.imp T (WZ off (C.emb T q) (cells.set (C.nst T - off) (.sl U u I)))=E q') (ho:off<=C.nst T/\C.nst T < off+us.length) (hv:us[C.nst T - off]?=E v) (a:zn (zB C U).o U v u Z gA) (N:gA.le k) :
    Yb C T Z k (cs.take off++us++cs.drop (off+us.length)) (q',1,v):=by
 have K:=c.len;let⟨h1,h2,h3⟩:=ziM (cells':=cells.set (C.nst T - off) (.sl U u I)) r c m je l w λj A h hn=>by
  grind
 have R:=r.1;have Q:(C.emb T q).length=C.size T:=C.len T q;refine⟨h1,h2,h3,?_,λe=>(by cases e),λ_=>⟨U,u,?_,a.mono (.refl _) N⟩⟩
 ·grind
 · show Zn C T q'=_;unfold Zn;have e:(WZ off (C.emb T q) (cells.set (C.nst T - off) (.sl U u I)))[C.nst T]?=E (.sl U u I):=by
     rw[zfz jE,jv jE,UI,jv rfl,jv Zc]
   rw[zdD w e rfl];rfl
end
section
variable {κ:Kp}{C:Cod}{S:St C}{ν:Val}{vs:Nat->List Value}{ids:List Nat}{L:List (Nat×Value)}{b:Nat->Value}{Z:FS}{PV:List Priv}{P:Program}{ρ:Type}
variable {t t' ty:TypeId}{x y z:Operand}{d id:Nat}{pv:Priv}{ps:String}{af:Array Edge}{g:U3 (Nat×Bool)}{A:AV C.D}{n:Nat}{w0:Start}{σ0:FS}{o:Oper}{X:U3 (Out C)}
def wC(S:St C)(id T:Nat)(s:Sl (C.D T))(g:Own)(i:Int)(off:Nat)(cells:List (AV C.D))(K:Out C->U3 ρ):U3 ρ:=match cells[C.nst T - off]? with
 |some (.row id2)=>(match S.heap id2 with
  |some (.row U u)=>chk (!M id id2) ((za s i).bind λq=>zfy g i λg'=>(C.imp T (WZ off (C.emb T q) (cells.set (C.nst T - off) (.sl U u I)))).bind λq'=>
      K (.go ((S.sub id2 .und).owk id (.orow T (s.set i q') g'))))
  |_=>F)
 |some .nils=>(za s i).bind λq=>(match Zn C T q with
  | .sl U _ _=>zfy g i λg'=>(C.imp T (WZ off (C.emb T q) (cells.set (C.nst T - off) (.sl U ⟨[],I⟩ I)))).bind λq'=>K (.go (S.owk id (.orow T (s.set i q') g')))
  |_=>F)
 |_=>F
def VN(S:St C)(ti:TypeInfo)(y:Operand)(off N:Nat):Bool:=YU (S.op y) && (M ti.size (zt (S.op y)).length && (W (off+(zt (S.op y)).length) N && O 0 (zt (S.op y)).length))
def Xc(off n k:Nat):Bool:=W off k && O k (off+n)
def XF(P:Program)(S:St C)(t:TypeId)(x y:Operand)(K:Out C->U3 ρ):U3 ρ:=
 match P.info? t,S.op x with
 |some ti,.pr id T i off=>(match S.heap id with
  |some (.orow T' s g)=>chk (M T T' && VN S ti y off (C.size T'))
      (bif Xc off (zt (S.op y)).length (C.nst T') then wC S id T' s g i off (zt (S.op y)) K
      else(za s i).bind λq=>(C.imp T' (WZ off (C.emb T' q) (zt (S.op y)))).bind λq'=>K (.go {S with heap:=upd S.heap id (E (.orow T' (s.set i q') g))}))
  |some (.row T' s)=>chk (M T T' && (VN S ti y off (C.size T') && Xc off (zt (S.op y)).length (C.nst T'))) (wC S id T' s (.upto 0) i off (zt (S.op y)) K)
  |_=>F)
 |some ti,.nx id T i (.elem U k off)=>(match S.heap id with
  |some (.orow T' s .all)=>chk (M T T' && VN S ti y off (C.size U)) ((za s i).bind λq=>(match Zn C T' q with
   | .sl a u _=>chk (M U a) ((za u k).bind λf=>(C.imp a (WZ off (C.emb a f) (zt (S.op y)))).bind λc=>
       (C.imp T' ((C.emb T' q).set (C.nst T') (.sl a (u.set k c) I))).bind λq'=>K (.go {S with heap:=upd S.heap id (E (.orow T' (s.set i q') .all))}))
   |_=>F))
  |_=>F)
 |_,_=>F
def xS(P:Program)(S:St C)(t:TypeId)(x y:Operand):U3 (Out C):=XF P S t x y E
theorem zk6{id T:Nat}{s:Sl (C.D T)}{g:Own}{i:Int}{off:Nat}{cells:List (AV C.D)}{K:Out C->U3 ρ}:wC S id T s g i off cells K=(wC S id T s g i off cells E).bind K:=by
 unfold wC;simp only[vn];split
 ·split
  ·simp only[zx,gh,jj]
  ·rfl
 ·rw[gh];congr 1;funext q;split
  all_goals grind
 ·rfl
theorem zk7{K:Out C->U3 ρ}:XF P S t x y K=(xS P S t x y).bind K:=by
 unfold xS XF;split
 ·split
  ·rw[zx];congr 1;cases Xc _ _ _ with
   |true=>exact zk6
   |false=>grind
  ·rw[zx,<- zk6]
  ·rfl
 ·split
  ·rw[zx,gh];congr 1;congr 1;funext q;split
   ·simp only[zx,gh,jj]
   ·rfl
  ·rfl
 ·rfl
theorem zbn{ti:TypeInfo}{off N:Nat}(h:VN S ti y off N=G):YU (S.op y)=G/\ti.size=(zt (S.op y)).length/\off+(zt (S.op y)).length<=N/\0 < (zt (S.op y)).length:=by
 simp only[VN,gf] at h;exact⟨h.1,ge h.2.1,Dg h.2.2.1,by simpa[Da] using h.2.2.2⟩
theorem ziO{off n k:Nat}(h:Xc off n k=G):off<=k/\k < off+n:=by
 simp only[Xc,gf] at h;exact⟨Dg h.1,by simpa[Da] using h.2⟩
theorem zoN{off n k:Nat}(h:Xc off n k=I):k < off\/off+n<=k:=by
 by_cases h1:off<=k/\k < off+n
 ·exfalso;have:Xc off n k=true:=by
   simp only[Xc,gf];exact⟨Nat.ble_eq_true_of_le h1.1,by rw[Da];exact h1.2⟩
  grind
 ·omega
theorem zwV{T:Nat}{v:Value}{s:Sl (C.D T)}{h:zc}(hn:C.nst T < C.size T)(r:zn (zB C T).o T v s Z h):∃sub,zn (Zd C T) T v (hpl C T sub s (.upto 0)) Z h:=by
 rcases r with⟨rfl,rfl⟩ | ⟨a,rfl,rfl⟩ | ⟨q,f,cur,hb,gg,rfl,r2,r3,r4,N,r0,r6,r7,r8,r9,Q⟩
 ·exact⟨λ_ =>.slice F 0 0,.inl ⟨rfl,rfl⟩⟩
 ·exact⟨λ_ =>.slice F 0 0,.inr (.inl ⟨a,rfl,rfl⟩)⟩
 ·have K:(zB C T).rels Z (cur.take (s.xs.length * C.size T)) s.xs:=Ty.rels_o.1 Q;have N:f * C.size T<=cur.length:=N;refine⟨λj=>((cur.take (s.xs.length * C.size T))[j * C.size T+C.nst T]?).getD default,.inr (.inr ⟨q,f,cur,hb,gg,by rw[WM],r2,by rw[WM];exact r3,r4,N,r0,r6,r7,r8,r9,?_⟩)⟩;rw[WM];show(Zd C T).rels Z gg (cur.take (s.xs.length * C.size T)) _;generalize cur.take (s.xs.length * C.size T)=cells at K |-
  have hl:cells.length=s.xs.length * C.size T:=(zB C T).rels_len K;refine⟨by rw[WM];exact hl,λ_=>zc.none,λj p hp=>?_,λ_ _ _=>zc.none_disj _,λ_=>zc.none_le _⟩;simp only[hpl,Du] at hp;cases hx:s.xs[j]? with
  |none=>grind
  |some x=>
   rw[hx] at hp;cases hp;have h1:(zB C T).rel Z ((cells.drop (j * C.size T)).take (C.size T)) x:=(zB C T).rels_get j K hx;have l:∀u∈(cells.drop (j * C.size T)).take (C.size T),u.oneCell'=true:=(zB C T).one h1
   let⟨k1,k2⟩:=h1;have c:((cells.drop (j * C.size T)).take (C.size T))[C.nst T]?=cells[j * C.size T+C.nst T]?:=by
    grind
   have w:C.nst T < ((cells.drop (j * C.size T)).take (C.size T)).length:=jE
   have hv:=UJ w;refine⟨k1,l,λm A hA _=>k2 m A hA,?_,λ_=>?_,λe=>by simp[Own.fl] at e⟩
   ·show((cells.drop (j * C.size T)).take (C.size T))[C.nst T]?=E ((cells[j * C.size T+C.nst T]?).getD default);grind
   ·show Rv C Z ((cells[j * C.size T+C.nst T]?).getD default) (Zn C T x);have R:C.nst T < (C.emb T x).length:=by rw[C.len];exact hn
    let⟨u,e1,e2⟩:=k2 _ _ (UJ R);rw[<- c,e1];unfold Zn;grind
theorem znq{T:Nat}{v:Value}{s:Sl (C.D T)}{w:World}(N:C.nst T < C.size T)(hi:Inv w0 σ0 Z (.row (zB C T).o T v s::PV) w):∃sub,Inv w0 σ0 Z (.row (Zd C T) T v (hpl C T sub s (.upto 0))::PV) w:=by
 let⟨h,hs,m⟩:=hi.own;let⟨h1,h2,K,l,c,f,a⟩:=hs.uncons;let⟨sub,r⟩:=zwV N (K:zn (zB C T).o T v s Z h1);exact⟨sub,hi.sub,hi.le,hi.fresh,⟨h,.cons r l c f a,m⟩,hi.ext⟩
theorem OpA.of3(h:Xl P n w0 σ0 o X L b Z PV λp' l f PV'=>∀r,p'=E r->∃S' c,r = .go S'/\zC κ S' l b f c/\∀w,Inv w0 σ0 f PV' w->Inv w0 σ0 f c w):OpA κ P n w0 σ0 o X L b Z PV:=by
 intro out m a w hi D K Q hK hP;refine h out m a w hi D K Q ?_;intro p' l f PV' a' w' hp N R hH;grind
section
variable {id2 T U off:Nat}{s:Sl (C.D T)}{gw g':Own}{i:Int}{q q':C.D T}{u:Sl (C.D U)}{ti:TypeInfo}{sub:Nat->Value}{e:Ent C}
theorem znr{v:Value}(h0:0<=i)(f:Vq gw i=E g'):(hpl C T sub s gw).set i (q',1,v)=hpl C T (upd sub i.toNat v) (s.set i q') g':=by
 let⟨c,h⟩:=zoM f h0;rw[<- zd6 (sub:=sub) (sub':=upd sub i.toNat v) (g:=gw) (g':=g') (q':=q') λj _ a=>⟨h j a,zq a⟩,c,zp]
theorem zs0 (h:AbsL κ S ν vs (id::id2::ids) L b Z (pv :: .row (zB C U).o U (ν.hdr id2) u::PV)) (he:S.heap id=E e) (w:id≠id2) (hx:opv L b x = .pointer (E (zi (ν.hdr id) (i.toNat * C.size T+off)))) (hi':P.info? t=E ti) (K:VN S ti y off (C.size T)=G)
    (hin:off<=C.nst T/\C.nst T < off+(zt (S.op y)).length) (hc:(zt (S.op y))[C.nst T - off]?=E (.row id2)) (hq:za s i=E q) (hg:Vq gw i=E g') (l:C.imp T (WZ off (C.emb T q) ((zt (S.op y)).set (C.nst T - off) (.sl U u I)))=E q') :
    OpA κ P n w0 σ0 ⟨F,.store t x y,ty,ps,af,g⟩ (E (.go ((S.sub id2 .und).owk id (.orow T (s.set i q') g')))) L b Z (.row (Zd C T) T (ν.hdr id) (hpl C T sub s gw) :: .row (zB C U).o U (ν.hdr id2) u::PV):=by
 let⟨k1,k2,k3,k4⟩:=zbn K;let⟨D,a⟩:=ZE (h.op y) k1 h.one;have c:=D.len;have h0:=(yP.1 hq).1;let⟨v2,Q,f⟩:=D.get _ _ hc;have f:v2=ν.hdr id2:=f;subst f;refine OpA.of (WY (T:=Zd C T) (q:=(q,gw.fl i.toNat,sub i.toNat)) (q':=(q',1,ν.hdr id2)) (us:=(opv L b y).cells.toList) [.row (zB C U).o U (ν.hdr id2) u] PV hi' hx rfl (by rw[k2,c]) jE a (WN hq) (by rw[c];exact k3) (λg gA k cs r sA dd l1 l2=>?_) λr hr=>⟨_,(V.inj hr).symm,?_⟩)
 ·exact ziN (v:=ν.hdr id2) r D a jE l jE Q (sA.one_of:zn (zB C U).o U (ν.hdr id2) u Z gA) l2
 · rw [znr h0 hg];have h1:=h.sub (id:=id2) (m:=1) (R :=.und) rfl (FS.le.refl Z) trivial trivial rfl;have N:(S.sub id2 .und).heap id=E (Ent.sub id2 .und e):=by
     show(bif M id id2 then F else(S.heap id).map _)=_;cases hb:M id id2 with
     |true=>exact absurd (ge hb) w
     |false=>rw[he];rfl
   exact⟨_,_,_,AbsL.setO (S:=S.sub id2 .und) h1 N (zfd hg)⟩
theorem zs1 (h:AbsL κ S ν vs (id::ids) L b Z (pv::PV)) (he:S.heap id=E e) (R:opv L b x = .pointer (E (zi (ν.hdr id) (i.toNat * C.size T+off)))) (K:P.info? t=E ti) (w:VN S ti y off (C.size T)=G)
    (hin:off<=C.nst T/\C.nst T < off+(zt (S.op y)).length) (hc:(zt (S.op y))[C.nst T - off]?=E .nils) (N:za s i=E q) (Q:Vq gw i=E g') (l:C.imp T (WZ off (C.emb T q) ((zt (S.op y)).set (C.nst T - off) (.sl U ⟨[],I⟩ I)))=E q') :
    OpA κ P n w0 σ0 ⟨F,.store t x y,ty,ps,af,g⟩ (E (.go (S.owk id (.orow T (s.set i q') g')))) L b Z (.row (Zd C T) T (ν.hdr id) (hpl C T sub s gw)::PV):=by
 let⟨k1,k2,k3,k4⟩:=zbn w;let⟨m,a⟩:=ZE (h.op y) k1 h.one;have c:=m.len;have h0:=(yP.1 N).1;let⟨v2,D,f⟩:=m.get _ _ hc;have f:v2 = .slice F 0 0:=f;subst f;refine OpA.of (WY (T:=Zd C T) (q:=(q,gw.fl i.toNat,sub i.toNat)) (q':=(q',1,.slice F 0 0)) (us:=(opv L b y).cells.toList) [] PV K R rfl (by rw[k2,c]) jE a (WN N) (by rw[c];exact k3) (λg gA k cs r sA dd l1 l2=>?_) λr hr=>⟨_,(V.inj hr).symm,?_⟩)
 ·exact ziN (U:=U) (u:=⟨[],I⟩) (v :=.slice F 0 0) (gA:=zc.none) r m a jE l jE D (.inl ⟨rfl,rfl⟩) (zc.none_le _)
 ·rw[znr h0 Q];exact⟨_,_,_,h.setO he (zfd Q)⟩
theorem zk8 {out:Out C}(h:AbsL κ S ν vs ids L b Z PV) (he:S.heap id=E e) (N:∀PV' w,Inv w0 σ0 Z (zK C ν vs id (E e)::PV') w->∃sub,Inv w0 σ0 Z (.row (Zd C T) T (ν.hdr id) (hpl C T sub s gw)::PV') w)
    (hx:opv L b x = .pointer (E (zi (ν.hdr id) (i.toNat * C.size T+off)))) (hi':P.info? t=E ti) (R:VN S ti y off (C.size T)=G) (hin:off<=C.nst T/\C.nst T < off+(zt (S.op y)).length)
    (c:wC S id T s gw i off (zt (S.op y)) E=E out):OpA κ P n w0 σ0 ⟨F,.store t x y,ty,ps,af,g⟩ (E out) L b Z PV:=by
 unfold wC at c;simp only[vn] at c;split at c
 · rename_i id2 hc;split at c
   · rename_i U u h2;let⟨l,c⟩:=zb c;have l:id≠id2:=λe=>by subst e;simp at l
     let⟨q,hq,c⟩:=gd c;let⟨g',hg,c⟩:=gd c;let⟨q',r,c⟩:=gd c;cases c;let⟨ids',PV',hf,f⟩:=h.front2 (w0:=w0) (σ0:=σ0) l he h2;intro out c a w hi D K Q hK hP;let⟨sub,m⟩:=N _ w (f w hi);exact zs0 (sub:=sub) hf he l hx hi' R hin hc hq hg r out c a w m D K Q hK hP
   ·cases c
 · rename_i hc;let⟨q,hq,c⟩:=gd c;split at c
   ·rename_i U u0 c0 hu0;let⟨g',hg,c⟩:=gd c;let⟨q',r,c⟩:=gd c;cases c;let⟨ids',PV',hf,f⟩:=h.front1 (w0:=w0) (σ0:=σ0) he;intro out c a w hi D K Q hK hP;let⟨sub,m⟩:=N _ w (f w hi);exact zs1 (U:=U) (sub:=sub) hf he hx hi' R hin hc hq hg r out c a w m D K Q hK hP
   ·cases c
 ·cases c
end
theorem zmY(h:AbsL κ S ν vs ids L b Z PV):OpA κ P n w0 σ0 ⟨F,.store t x y,ty,ps,af,g⟩ (xS P S t x y) L b Z PV:=by
 intro out a;unfold xS XF at a;split at a
 ·rename_i ti id T i off Q ex;have K:=h.op x;rw[ex] at K;have K:opv L b x = .pointer (E (zi (ν.hdr id) (i.toNat * C.size T+off))):=K;split at a
  ·rename_i T' s gw hs;let⟨l,a⟩:=zb a;simp only[gf] at l;obtain rfl:=ge l.1;let⟨k1,k2,k3,k4⟩:=zbn l.2;cases D:Xc off (zt (S.op y)).length (C.nst T) with
   |true=>
    rw[D,Dy] at a;exact zk8 h hs (λPV' w hi=>⟨(ν.adr id).sub,hi⟩) K Q l.2 (ziO D) a out rfl
   |false=>
    rw[D,U8] at a;let⟨q,hq,a⟩:=gd a;let⟨q',hq',a⟩:=gd a;let⟨hu,m⟩:=ZE (h.op y) k1 h.one;have f:=hu.len;let⟨ids',PV',hf,N⟩:=h.front1 (w0:=w0) (σ0:=σ0) hs;refine OpA.pv N ?_ out a;refine OpA.of (WY (T:=Zd C T) (q:=(q,gw.fl i.toNat,(ν.adr id).sub i.toNat)) (q':=(q',gw.fl i.toNat,(ν.adr id).sub i.toNat)) (us:=(opv L b y).cells.toList) [] PV' Q K rfl (by rw[k2,f]) jE m (WN hq) (by rw[f];exact k3) (λg gA k cs r sA dd l1 l2=>?_) λr hr=>⟨_,(V.inj hr).symm,?_⟩)
    ·exact zsZ r hu m jE hq' (by rw[f];exact zoN D) l1
    ·rw[zd6 (sub:=(ν.adr id).sub) (sub':=(ν.adr id).sub) (g:=gw) (g':=gw) λj _ _=>⟨rfl,rfl⟩];exact⟨_,_,_,hf.setO0 (e' :=.orow T (s.set i q') gw) hs (λcs e=>by cases e)⟩
  ·rename_i T' s hs;let⟨l,a⟩:=zb a;simp only[gf] at l;obtain rfl:=ge l.1;let⟨k1,k2,k3,k4⟩:=zbn l.2.1;have D:=ziO l.2.2;exact zk8 h hs (λPV' w hi=>znq Zc hi) K Q l.2.1 D a out rfl
  ·cases a
 ·rename_i ti id T i U k off Q ex;have K:=h.op x;rw[ex] at K;have K:opv L b x = .pointer (E (zi ((ν.adr id).sub i.toNat) (k.toNat * C.size U+off))):=K.1;split at a
  ·rename_i T' s hs;let⟨l,a⟩:=zb a;simp only[gf] at l;obtain rfl:=ge l.1;let⟨k1,k2,k3,k4⟩:=zbn l.2;let⟨q,hq,a⟩:=gd a;split at a
   ·rename_i U' u c hu;let⟨hU,a⟩:=zb a;obtain rfl:=ge hU;let⟨y0,hy0,a⟩:=gd a;let⟨y1,hy1,a⟩:=gd a;let⟨q',hq',a⟩:=gd a;let⟨hus,m⟩:=ZE (h.op y) k1 h.one;have f:=hus.len;let⟨ids',PV',hf,N⟩:=h.front1 (w0:=w0) (σ0:=σ0) hs;have hopen:∀w,Inv w0 σ0 Z PV w->Inv w0 σ0 Z (.row (zB C U).o U ((ν.adr id).sub i.toNat) u :: .row (Zd C T) T (ν.hdr id) (hpl C T (ν.adr id).sub s (.out i))::PV') w:=λw hi=>(N w hi).sub_own λgg kk=>by
     let⟨h1,h2,m1,m2,n1,n2,dd⟩:=kk.uncons;exact Sep.append (A:=[_,_]) (zca (m1:zn (Zd C T) T (ν.hdr id) (hpl C T (ν.adr id).sub s .all) Z h1) hq hu) m2 n1 n2 dd
    have hlq:(C.emb T q).length=C.size T:=C.len T q;have hnlt:C.nst T < C.size T:=by
     have hh:Zn C T q ≠.und:=jE
     unfold Zn at hh;cases hg:(C.emb T q)[C.nst T]? with
     |none=>grind
     |some A=>grind
    have hbq:∀A∈(C.emb T q).set (C.nst T) (.sl U (u.set k y1) I),A.base=true:=λA hA=>by
     rcases D3 hA with z | z
     ·exact C.base T q A z
     ·rw[z];rfl
    have heq:∀(j:Nat),(C.emb T q')[j]?=((C.emb T q).set (C.nst T) (.sl U (u.set k y1) I))[j]?:=λj=>by
     cases hj:((C.emb T q).set (C.nst T) (.sl U (u.set k y1) I))[j]? with
     |none=>
      rw[qE] at hj |-
      rw[qC,C.len] at hj;rw[C.len];exact hj
     |some A=>exact zdD hq' hj (hbq A (UT hj))
    refine OpA.pv hopen ?_ out a;refine OpA.of3 (zbd (T:=zB C U) (q:=y0) (q':=y1) (us:=(opv L b y).cells.toList) 0 rfl Q K rfl (by rw[k2,f]) jE m hy0 (by rw[f];exact k3) (λcs hcs=>?_) λr hr=>⟨_,_,(V.inj hr).symm,⟨ν,vs,id::ids',hf.setO0 (e' :=.orow T (s.set i q') .all) hs (λcs e=>by cases e)⟩,λw hi=>hi.sub_own λgg kk=>?_⟩)
    ·have hcv:=zbF (ν:=ν) hcs;have R:=((hcv.take off).append hus).append (hcv.drop (off+(opv L b y).cells.toList.length));have e:(C.emb U y0).drop (off+(opv L b y).cells.toList.length)=(C.emb U y0).drop (off+(zt (S.op y)).length):=by rw[f]
     rw[e] at R;exact WP R hy1
    ·let⟨h1,h2,m1,m2,n1,n2,dd⟩:=Sep.split (A:=[_,_]) kk;refine .cons (h1:=h1) (ziL m1 hq ?_ λj hj=>?_) m2 n1 n2 dd
     ·unfold Zn;grind
     grind
   ·cases a
  ·cases a
 ·cases a
end
end
section
variable [Dfr]
inductive Sh where
 |int (k:IntKind)
 |bool
 |str
 |val (T:Nat)
 |sl (T:Nat)
 |row (k:Nat)
 |pc (k off:Nat)
 |pr (k T off:Nat)
 |nx (k T:Nat)
 |nxe (k T U off:Nat)
 |nxp (k T U:Nat)
 |orow (T:Nat)
 |pz (T off:Nat)
 |pnil
 |nils
 |nilf
 |nili
 |und
 |clo (f:Nat) (l:List Sh)
 |agg (l:List Sh)
 |tup (l:List Sh)
 |ifc (t:Nat) (s:Sh)
mutual
def Sh.unit:Sh->Bool
 | .row _=>G
 | .pc _ _=>G
 | .pnil=>G
 | .nils=>G
 | .nilf=>G
 | .nili=>G
 | .und=>G
 | .clo _ l=>Sh.units l
 | .agg l=>Sh.units l
 | .tup l=>Sh.units l
 | .ifc _ s=>s.unit
 |_=>I
def Sh.units:List Sh->Bool
 |[]=>G
 |s::l=>s.unit && Sh.units l
end
def Pty(u v:Bool)(A B:Type):Type:=match u,v with
 |true,_=>B
 |false,G=>A
 |false,I=>A×B
def Pty.mk{u v:Bool}{A B:Type}(x:A)(y:B):Pty u v A B:=match u,v with
 |true,_=>y
 |false,G=>x
 |false,I=>(x,y)
def Pty.fst{u v:Bool}{A B:Type}(d:u=G->A)(p:Pty u v A B):A:=match u,v,d,p with
 |true,_,d,_=>d rfl
 |false,G,_,x=>x
 |false,I,_,x=>x.1
def Pty.snd{u v:Bool}{A B:Type}(d:v=G->B)(p:Pty u v A B):B:=match u,v,d,p with
 |true,_,_,y=>y
 |false,G,d,_=>d rfl
 |false,I,_,x=>x.2
theorem Pty.fst_mk{u v:Bool}{A B:Type}{d:u=G->A}{x:A}{y:B}(h:∀e,d e=x):Pty.fst d (Pty.mk (u:=u) (v:=v) x y)=x:=by
 cases u<;>cases v<;>first | exact h rfl | rfl
theorem Pty.snd_mk{u v:Bool}{A B:Type}{d:v=G->B}{x:A}{y:B}(h:∀e,d e=y):Pty.snd d (Pty.mk (u:=u) (v:=v) x y)=y:=by
 cases u<;>cases v<;>first | exact h rfl | rfl
mutual
def Sh.ty(C:Cod):Sh->Type
 | .int _=>Int
 | .bool=>Bool
 | .str=>ByteArray
 | .val T=>C.D T
 | .sl T=>Sl (C.D T)
 | .pr _ _ _=>Int
 | .nx _ _=>Int
 | .nxe _ _ _ _=>Int×Int
 | .nxp _ _ _=>Int×Int×Int
 | .orow T=>Sl (C.D T)
 | .pz T _=>C.D T
 | .clo _ l=>Sh.tys C l
 | .agg l=>Sh.tys C l
 | .tup l=>Sh.tys C l
 | .ifc _ s=>s.ty C
 | .row _=>Unit
 | .pc _ _=>Unit
 | .pnil=>Unit
 | .nils=>Unit
 | .nilf=>Unit
 | .nili=>Unit
 | .und=>Unit
def Sh.tys(C:Cod):List Sh->Type
 |[]=>Unit
 |s::l=>Pty s.unit (Sh.units l) (s.ty C) (Sh.tys C l)
end
mutual
def Sh.dflt(C:Cod):(s:Sh)->s.unit=G->s.ty C
 | .row _,_=>()
 | .pc _ _,_=>()
 | .pnil,_=>()
 | .nils,_=>()
 | .nilf,_=>()
 | .nili,_=>()
 | .und,_=>()
 | .clo _ l,h=>Sh.dflts C l h
 | .agg l,h=>Sh.dflts C l h
 | .tup l,h=>Sh.dflts C l h
 | .ifc _ s,h=>s.dflt C h
def Sh.dflts(C:Cod):(l:List Sh)->Sh.units l=G->Sh.tys C l
 |[],_=>()
 |s::l,h=>Pty.mk (s.dflt C (qo.1 h).1) (Sh.dflts C l (qo.1 h).2)
end
section
variable {C:Cod}
theorem Pty.unique{u v:Bool}{A B:Type}(c:u=G)(a:v=G->∀x y:B,x=y)(f:v=G):∀x y:Pty u v A B,x=y:=by
 subst c;subst f;exact a rfl
omit [Dfr] in
mutual
theorem Sh.unique:∀(s:Sh),s.unit=G->∀x y:s.ty C,x=y
 | .row _,_=>λ_ _=>rfl
 | .pc _ _,_=>λ_ _=>rfl
 | .pnil,_=>λ_ _=>rfl
 | .nils,_=>λ_ _=>rfl
 | .nilf,_=>λ_ _=>rfl
 | .nili,_=>λ_ _=>rfl
 | .und,_=>λ_ _=>rfl
 | .clo _ l,h=>Sh.uniques l h
 | .agg l,h=>Sh.uniques l h
 | .tup l,h=>Sh.uniques l h
 | .ifc _ s,h=>s.unique h
theorem Sh.uniques:∀(l:List Sh),Sh.units l=G->∀x y:Sh.tys C l,x=y
 |[],_=>λ_ _=>rfl
 |s::l,h=>Pty.unique (qo.1 h).1 (λa=>Sh.uniques l a) (qo.1 h).2
end
abbrev Sh.hd{s:Sh}{l:List Sh}(p:Sh.tys C (s::l)):s.ty C:=Pty.fst (s.dflt C) p
abbrev Sh.tl{s:Sh}{l:List Sh}(p:Sh.tys C (s::l)):Sh.tys C l:=Pty.snd (Sh.dflts C l) p
abbrev Sh.pk{s:Sh}{l:List Sh}(x:s.ty C)(y:Sh.tys C l):Sh.tys C (s::l):=Pty.mk x y
theorem Sh.hd_pk{s:Sh}{l:List Sh}{x:s.ty C}{y:Sh.tys C l}:Sh.hd (Sh.pk x y:Sh.tys C (s::l))=x:=Pty.fst_mk λe=>s.unique e _ _
theorem Sh.tl_pk{s:Sh}{l:List Sh}{x:s.ty C}{y:Sh.tys C l}:Sh.tl (Sh.pk x y:Sh.tys C (s::l))=y:=Pty.snd_mk λe=>Sh.uniques l e _ _
def zry{D:Nat->Type}:AV D->Bool
 | .agg _=>G
 |_=>I
def Xq{T T':Nat}(s:Sl (C.D T')):U3 (Sl (C.D T)):=if h:T'=T then E (h ▸ s) else F
def zjc{T T':Nat}(s:C.D T'):U3 (C.D T):=if h:T'=T then E (h ▸ s) else F
def VO:U3 Nat->Nat->Bool
 |some a,b=>M a b
 |none,_=>I
def Sh.isVal:Sh->U3 Nat
 | .val T=>E T
 |_=>F
def zAf(s:Sh){T:Nat}(z:C.D T):U3 (s.ty C):=match s with
 | .val T'=>zjc z
 |_=>F
def Sh.vcells{C:Cod}(s:Sh)(x:s.ty C):List (AV C.D):=match s,x with
 | .val T,x=>C.emb T x
 |_,_=>[]
mutual
def Sh.get(B:Nat->U3 Nat):(s:Sh)->AV C.D->U3 (s.ty C)
 | .int k,A=>(match A with
  | .int m n=>chk (decide (k=m)) (E n)
  |_=>F)
 | .bool,A=>(match A with
  | .bool b=>E b
  |_=>F)
 | .str,A=>(match A with
  | .str s=>E s
  |_=>F)
 | .val T,A=>chk (YU A && (zry A == C.agg T)) (C.imp T (zt A))
 | .sl T,A=>(match A with
  | .sl _ s _=>Xq s
  | .nils=>E ⟨[],I⟩
  |_=>F)
 | .pr k T off,A=>(match A with
  | .pr id T' i a=>chk (VO (B k) id && (M T T' && M off a)) (E i)
  |_=>F)
 | .nx k T,A=>(match A with
  | .nx id T' i .whole=>chk (VO (B k) id && M T T') (E i)
  |_=>F)
 | .nxe k T U off,A=>(match A with
  | .nx id T' i (.elem c j a)=>chk (VO (B k) id && (M T T' && (M U c && M off a))) (E (i,j))
  |_=>F)
 | .nxp k T U,A=>(match A with
  | .nx id T' i (.part c lo hi)=>chk (VO (B k) id && (M T T' && M U c)) (E (i,lo,hi))
  |_=>F)
 | .orow T,A=>(match A with
  | .clo 0 [.sl _ s _]=>Xq s
  | .clo 1 [.int _ k,.sl _ s _]=>chk (decide (s.len<=k)) (Xq s)
  |_=>F)
 | .pz T off,A=>(match A with
  | .pz _ x a=>chk (M off a) (zjc x)
  |_=>F)
 | .row k,A=>(match A with
  | .row id=>chk (VO (B k) id) (E ())
  |_=>F)
 | .pc k off,A=>(match A with
  | .pc id a=>chk (VO (B k) id && M off a) (E ())
  |_=>F)
 | .pnil,A=>(match A with
  | .pnil=>E ()
  |_=>F)
 | .nils,A=>(match A with
  | .nils=>E ()
  |_=>F)
 | .nilf,A=>(match A with
  | .nilf=>E ()
  |_=>F)
 | .nili,A=>(match A with
  | .nili=>E ()
  |_=>F)
 | .und,_=>E ()
 | .clo f l,A=>(match A with
  | .clo h cs=>chk (M f h) (Sh.gets B l cs)
  |_=>F)
 | .agg l,A=>(match A with
  | .agg cs=>Sh.getc B l cs
  |_=>F)
 | .tup l,A=>(match A with
  | .tup cs=>Sh.gets B l cs
  |_=>F)
 | .ifc t s,A=>(match A with
  | .ifc t' A=>chk (M t t') (Sh.get B s A)
  |_=>F)
def Sh.gets(B:Nat->U3 Nat):(l:List Sh)->List (AV C.D)->U3 (Sh.tys C l)
 |[],As=>(match As with
  |[]=>E ()
  |_::_=>F)
 |s::l,As=>(match As with
  |A::As=>(Sh.get B s A).bind λx=>(Sh.gets B l As).bind λy=>E (Sh.pk x y)
  |[]=>F)
def Sh.getc(B:Nat->U3 Nat):(l:List Sh)->List (AV C.D)->U3 (Sh.tys C l)
 |[],As=>(match As with
  |[]=>E ()
  |_::_=>F)
 |s::l,As=>(match Sh.isVal s with
  |some T=>(C.imp T (As.take (C.size T))).bind λz=>(zAf s z).bind λx=>(Sh.getc B l (As.drop (C.size T))).bind λy=>E (Sh.pk x y)
  |none=>(match As with
   |A::As=>(Sh.get B s A).bind λx=>(Sh.getc B l As).bind λy=>E (Sh.pk x y)
   |[]=>F))
end
mutual
def Sh.put(ρ:Nat->Nat):(s:Sh)->s.ty C->AV C.D
 | .int k,n =>.int k n
 | .bool,b =>.bool b
 | .str,s =>.str s
 | .val T,x=>zbC (C.agg T) (C.emb T x)
 | .sl T,s =>.sl T s I
 | .pr k T off,i =>.pr (ρ k) T i off
 | .nx k T,i =>.nx (ρ k) T i .whole
 | .nxe k T U off,i =>.nx (ρ k) T i.1 (.elem U i.2 off)
 | .nxp k T U,i =>.nx (ρ k) T i.1 (.part U i.2.1 i.2.2)
 | .orow _,_ =>.und
 | .pz T off,x =>.pz T x off
 | .row k,_ =>.row (ρ k)
 | .pc k off,_ =>.pc (ρ k) off
 | .pnil,_ =>.pnil
 | .nils,_ =>.nils
 | .nilf,_ =>.nilf
 | .nili,_ =>.nili
 | .und,_ =>.und
 | .clo f l,x =>.clo f (Sh.puts ρ l x)
 | .agg l,x =>.agg (Sh.putc ρ l x)
 | .tup l,x =>.tup (Sh.puts ρ l x)
 | .ifc t s,x =>.ifc t (Sh.put ρ s x)
def Sh.puts(ρ:Nat->Nat):(l:List Sh)->Sh.tys C l->List (AV C.D)
 |[],_=>[]
 |s::l,x=>Sh.put ρ s (Sh.hd x)::Sh.puts ρ l (Sh.tl x)
def Sh.putc(ρ:Nat->Nat):(l:List Sh)->Sh.tys C l->List (AV C.D)
 |[],_=>[]
 |s::l,x=>match Sh.isVal s with
  |some _=>Sh.vcells s (Sh.hd x)++Sh.putc ρ l (Sh.tl x)
  |none=>Sh.put ρ s (Sh.hd x)::Sh.putc ρ l (Sh.tl x)
end
end
end
section
variable [Dfr]
section
variable {C:Cod}{Z:FS}{ν ν':Val}{B:Nat->U3 Nat}{ρ:Nat->Nat}
theorem yM{T T':Nat}{s:Sl (C.D T')}{s':Sl (C.D T)}(h:Xq s=E s'):∃e:T'=T,e ▸ s=s':=by
 unfold Xq at h;grind
theorem zgs{T T':Nat}{s:C.D T'}{s':C.D T}(h:zjc s=E s'):∃e:T'=T,e ▸ s=s':=by
 unfold zjc at h;grind
theorem yz{x:U3 Nat}{a:Nat}(h:VO x a=G):x=E a:=by
 cases x with
 |none=>cases h
 |some b=>rw[ge h]
theorem ziP{us:List Value}{cs ds:List (AV C.D)}(h:VRs C Z ν us cs)(l:zfj cs ds)(hb:∀A∈ds,A.base=G):VRs C Z ν' us ds:=
 .of (by rw[(zbL h l).len]) λj u A h1 h2=>((zbL h l).rel h1 h2 |>.rv (hb A (UT h2))).vr
structure Rn(B:Nat->U3 Nat)(ρ:Nat->Nat)(ν ν':Val):Prop where
 eq:∀k id,B k=E id->ν'.hdr (ρ k)=ν.hdr id/\ν'.adr (ρ k)=ν.adr id
 one:∀i,(ν.hdr i).oneCell'=G
omit [Dfr] in
mutual
theorem Sh.get_put(c:Rn B ρ ν ν'):∀(s:Sh) {A:AV C.D}{x:s.ty C},Sh.get B s A=E x->∀{v:Value},VR C Z ν v A->VR C Z ν' v (Sh.put ρ s x)
 | .int k,A,x,h,v,r=>by
  cases A<;>first | (cases h;done) | skip
  let⟨w,h⟩:=zb h;cases h;obtain rfl:=Dv w;exact(r:Rv C Z v _)
 | .bool,A,x,h,v,r=>by
  cases A<;>first | (cases h;done) | skip
  cases h;exact(r:Rv C Z v _)
 | .str,A,x,h,v,r=>by
  cases A<;>first | (cases h;done) | skip
  cases h;exact(r:Rv C Z v _)
 | .val T,A,x,h,v,r=>by
  let⟨a,h⟩:=zb h;simp only[gf,beq_iff_eq] at a;let⟨K,_⟩:=ZE r a.1 c.one;have h2:VRs C Z ν' v.cells.toList (C.emb T x):=ziP K (C.imp_ok T _ x h) (C.base T x);have N:v=yF (C.agg T) v.cells.toList:=by
   rcases zdb a.1 with m | ⟨cs,rfl,_⟩
   ·have h1:=r.one m c.one;have:zry A=false:=by cases A<;>first | rfl | cases m
    rw[<- a.2,this];cases v<;>simp_all[Value.oneCell',Value.cells,yF]
   ·obtain⟨vs,rfl,_⟩:=r;rw[<- a.2];rfl
  rw[N];exact h2.val
 | .sl T,A,x,h,v,r=>by
  cases A<;>first | (cases h;done) | skip
  ·obtain⟨e,rfl⟩:=yM h;subst e;exact(Rv.of_vrel (r.sl_vrel)).vr
  ·cases h;exact zf9 (A :=.nils) r (.inr (.inr ⟨T,I,rfl,rfl⟩))
 | .pr k T off,A,x,h,v,r=>by
  cases A<;>first | (cases h;done) | skip
  let⟨a,h⟩:=zb h;simp only[gf] at a;cases h;obtain rfl:=ge a.2.1;obtain rfl:=ge a.2.2;show v = .pointer (E (zi (ν'.hdr (ρ k)) _));rw[(c.eq k _ (yz a.1)).1];exact r
 | .nx k T,A,x,h,v,r=>by
  cases A<;>first | (cases h;done) | skip
  rename_i id T' i nx;cases nx<;>first | (cases h;done) | skip
  let⟨a,h⟩:=zb h;simp only[gf] at a;cases h;obtain rfl:=ge a.2;refine⟨?_,r.2⟩;rw[(c.eq k _ (yz a.1)).2];exact r.1
 | .nxe k T U off,A,x,h,v,r=>by
  cases A<;>first | (cases h;done) | skip
  rename_i id T' i nx;cases nx<;>first | (cases h;done) | skip
  let⟨a,h⟩:=zb h;simp only[gf] at a;cases h;obtain rfl:=ge a.2.1;obtain rfl:=ge a.2.2.1;obtain rfl:=ge a.2.2.2;refine⟨?_,r.2⟩;rw[(c.eq k _ (yz a.1)).2];exact r.1
 | .nxp k T U,A,x,h,v,r=>by
  cases A<;>first | (cases h;done) | skip
  rename_i id T' i nx;cases nx<;>first | (cases h;done) | skip
  let⟨a,h⟩:=zb h;simp only[gf] at a;cases h;obtain rfl:=ge a.2.1;obtain rfl:=ge a.2.2;refine⟨?_,r.2⟩;rw[(c.eq k _ (yz a.1)).2];exact r.1
 | .orow T,A,x,h,v,r=>trivial
 | .pz T off,A,x,h,v,r=>by
  cases A<;>first | (cases h;done) | skip
  let⟨a,h2⟩:=zb h;obtain rfl:=ge a;obtain⟨e,rfl⟩:=zgs h2;subst e;exact(r:Rv C Z v _)
 | .row k,A,x,h,v,r=>by
  cases A<;>first | (cases h;done) | skip
  let⟨a,h⟩:=zb h;show v=ν'.hdr (ρ k);rw[(c.eq k _ (yz a)).1];exact r
 | .pc k off,A,x,h,v,r=>by
  cases A<;>first | (cases h;done) | skip
  let⟨a,h⟩:=zb h;simp only[gf] at a;obtain rfl:=ge a.2;show v = .pointer (E ((ν'.adr (ρ k)).add _));rw[(c.eq k _ (yz a.1)).2];exact r
 | .pnil,A,x,h,v,r=>by
  cases A<;>first | (cases h;done) | exact(r:Rv C Z v _)
 | .nils,A,x,h,v,r=>by
  cases A<;>first | (cases h;done) | exact r
 | .nilf,A,x,h,v,r=>by
  cases A<;>first | (cases h;done) | exact(r:Rv C Z v _)
 | .nili,A,x,h,v,r=>by
  cases A<;>first | (cases h;done) | exact(r:Rv C Z v _)
 | .und,A,x,h,v,r=>trivial
 | .clo f l,A,x,h,v,r=>by
  cases A<;>first | (cases h;done) | skip
  let⟨a,h2⟩:=zb h;obtain rfl:=ge a;let⟨vs,e,r⟩:=r;exact⟨vs,e,Sh.gets_puts c l h2 r⟩
 | .agg l,A,x,h,v,r=>by
  cases A<;>first | (cases h;done) | skip
  let⟨vs,e,r⟩:=r;exact⟨vs,e,Sh.getc_putc c l h r⟩
 | .tup l,A,x,h,v,r=>by
  cases A<;>first | (cases h;done) | skip
  let⟨vs,e,r⟩:=r;exact⟨vs,e,Sh.gets_puts c l h r⟩
 | .ifc t s,A,x,h,v,r=>by
  cases A<;>first | (cases h;done) | skip
  let⟨a,h2⟩:=zb h;obtain rfl:=ge a;let⟨u,e,r⟩:=r;exact⟨u,e,Sh.get_put c s h2 r⟩
theorem Sh.gets_puts(a:Rn B ρ ν ν'):∀(l:List Sh) {As:List (AV C.D)}{x:Sh.tys C l},Sh.gets B l As=E x->∀{vs:List Value},VRs C Z ν vs As->VRs C Z ν' vs (Sh.puts ρ l x)
 |[],[],x,h,[],r=>trivial
 |s::l,A::As,x,h,v::vs,r=>by
  let⟨y,f,h⟩:=gd h;let⟨z,c,h⟩:=gd h;cases h;simp only[Sh.puts,Sh.hd_pk,Sh.tl_pk];exact⟨Sh.get_put a s f r.1,Sh.gets_puts a l c r.2⟩
 |[],_::_,x,h,_,r=>by cases h
 |_::_,[],x,h,_,r=>by cases h
 |[],[],x,h,_::_,r=>r.elim
 |_::_,_::_,x,h,[],r=>r.elim
theorem Sh.getc_putc(a:Rn B ρ ν ν'):∀(l:List Sh) {As:List (AV C.D)}{x:Sh.tys C l},Sh.getc B l As=E x->∀{vs:List Value},VRs C Z ν vs As->VRs C Z ν' vs (Sh.putc ρ l x)
 |[],As,x,h,vs,r=>by
  cases As with
  |nil=>cases vs with
   |nil=>trivial
   |cons=>exact r.elim
  |cons=>cases h
 |s::l,As,x,h,vs,r=>by
  have m:∀{A:AV C.D} {As:List (AV C.D)},((Sh.get B s A).bind λx=>(Sh.getc B l As).bind λy=>E (Sh.pk x y))=E x->VRs C Z ν vs (A::As)->VRs C Z ν' vs (Sh.put ρ s (Sh.hd x)::Sh.putc ρ l (Sh.tl x)):=by
   intro A As h r;let⟨y,c,h⟩:=gd h;let⟨z,f,h⟩:=gd h;cases h;cases vs with
   |nil=>exact r.elim
   |cons v vs=>
    simp only[Sh.hd_pk,Sh.tl_pk];exact⟨Sh.get_put a s c r.1,Sh.getc_putc a l f r.2⟩
  unfold Sh.getc at h;unfold Sh.putc;cases hs:Sh.isVal s with
  |some T=>
   obtain rfl:s = .val T:=by cases s<;>first | cases hs;rfl | cases hs
   simp only[hs] at h |-
   let⟨w,K,h⟩:=gd h;let⟨y,c,h⟩:=gd h;let⟨z,f,h⟩:=gd h;obtain⟨e,rfl⟩:=zgs c;cases h;rw[show Sh.hd (s :=.val T) (l:=l) (Sh.pk (s :=.val T) w z)=w from Sh.hd_pk,show Sh.tl (s :=.val T) (l:=l) (Sh.pk (s :=.val T) w z)=z from Sh.tl_pk];rw[<- List.take_append_drop (C.size T) vs];exact(ziP (r.take _) (C.imp_ok T _ w K) (C.base T w)).append (Sh.getc_putc a l f (r.drop _))
  |none=>
   grind
end
def InB(B:Nat->U3 Nat)(ρ:Nat->Nat)(j:Nat):Prop:=∃k id,B k=E id/\j=ρ k
omit [Dfr] in
mutual
theorem Sh.put_ok:∀(s:Sh) {A:AV C.D}{x:s.ty C},Sh.get B s A=E x->(Sh.put ρ s x).ok (InB B ρ)
 | .int k,A,x,h=>trivial
 | .bool,A,x,h=>trivial
 | .str,A,x,h=>trivial
 | .val T,A,x,h=>zm8 zbe
 | .sl T,A,x,h=>trivial
 | .pr k T off,A,x,h=>by
  cases A<;>first | (cases h;done) | skip
  let⟨a,h⟩:=zb h;simp only[gf] at a;exact⟨k,_,yz a.1,rfl⟩
 | .nx k T,A,x,h=>by
  cases A<;>first | (cases h;done) | skip
  rename_i id T' i nx;cases nx<;>first | (cases h;done) | skip
  let⟨a,h⟩:=zb h;simp only[gf] at a;exact⟨k,_,yz a.1,rfl⟩
 | .nxe k T U off,A,x,h=>by
  cases A<;>first | (cases h;done) | skip
  rename_i id T' i nx;cases nx<;>first | (cases h;done) | skip
  let⟨a,h⟩:=zb h;simp only[gf] at a;exact⟨k,_,yz a.1,rfl⟩
 | .nxp k T U,A,x,h=>by
  cases A<;>first | (cases h;done) | skip
  rename_i id T' i nx;cases nx<;>first | (cases h;done) | skip
  let⟨a,h⟩:=zb h;simp only[gf] at a;exact⟨k,_,yz a.1,rfl⟩
 | .orow T,A,x,h=>trivial
 | .pz T off,A,x,h=>trivial
 | .row k,A,x,h=>by
  cases A<;>first | (cases h;done) | skip
  let⟨a,h⟩:=zb h;exact⟨k,_,yz a,rfl⟩
 | .pc k off,A,x,h=>by
  cases A<;>first | (cases h;done) | skip
  let⟨a,h⟩:=zb h;simp only[gf] at a;exact⟨k,_,yz a.1,rfl⟩
 | .pnil,A,x,h=>trivial
 | .nils,A,x,h=>trivial
 | .nilf,A,x,h=>trivial
 | .nili,A,x,h=>trivial
 | .und,A,x,h=>trivial
 | .clo f l,A,x,h=>by
  cases A<;>first | (cases h;done) | skip
  let⟨a,h⟩:=zb h;exact Sh.puts_ok l h
 | .agg l,A,x,h=>by
  cases A<;>first | (cases h;done) | skip
  exact Sh.putc_ok l h
 | .tup l,A,x,h=>by
  cases A<;>first | (cases h;done) | skip
  exact Sh.puts_ok l h
 | .ifc t s,A,x,h=>by
  cases A<;>first | (cases h;done) | skip
  let⟨a,h⟩:=zb h;exact Sh.put_ok s h
theorem Sh.puts_ok:∀(l:List Sh) {As:List (AV C.D)}{x:Sh.tys C l},Sh.gets B l As=E x->AV.oks (InB B ρ) (Sh.puts ρ l x)
 |[],_,_,_=>trivial
 |s::l,[],x,h=>by cases h
 |s::l,A::As,x,h=>by
  let⟨y,c,h⟩:=gd h;let⟨z,a,h⟩:=gd h;cases h;simp only[Sh.puts,Sh.hd_pk,Sh.tl_pk];exact⟨Sh.put_ok s c,Sh.puts_ok l a⟩
theorem Sh.putc_ok:∀(l:List Sh) {As:List (AV C.D)}{x:Sh.tys C l},Sh.getc B l As=E x->AV.oks (InB B ρ) (Sh.putc ρ l x)
 |[],_,_,_=>trivial
 |s::l,As,x,h=>by
  have a:∀{A:AV C.D} {As:List (AV C.D)},((Sh.get B s A).bind λx=>(Sh.getc B l As).bind λy=>E (Sh.pk x y))=E x->AV.oks (InB B ρ) (Sh.put ρ s (Sh.hd x)::Sh.putc ρ l (Sh.tl x)):=by
   intro A As h;let⟨y,f,h⟩:=gd h;let⟨z,c,h⟩:=gd h;cases h;simp only[Sh.hd_pk,Sh.tl_pk];exact⟨Sh.put_ok s f,Sh.putc_ok l c⟩
  unfold Sh.getc at h;unfold Sh.putc;cases hs:Sh.isVal s with
  |some T=>
   obtain rfl:s = .val T:=by cases s<;>first | cases hs;rfl | cases hs
   simp only[hs] at h |-
   let⟨w,m,h⟩:=gd h;let⟨y,f,h⟩:=gd h;let⟨z,c,h⟩:=gd h;cases h;simp only[Sh.hd_pk,Sh.tl_pk];exact AV.oks_append zbe (Sh.putc_ok l c)
  |none=>
   simp only[hs] at h |-
   cases As with
   |nil=>cases h
   |cons A As=>exact a h
end
end
variable [Dfr]
inductive ESh where
 |cell (l:List Sh)
 |row (T:Nat)
 |obj (k T:Nat)
 |orow (T:Nat)
 |xrow (T:Nat)
 |forow (T:Nat)
 |gone
def ESh.sh:ESh->Sh
 | .cell l =>.agg l
 | .row T =>.sl T
 | .obj k T =>.ifc k (.tup [.str,.sl T])
 | .orow T =>.orow T
 | .xrow T =>.clo 1 [.int .i64,.sl T]
 | .forow T =>.orow T
 | .gone =>.und
def ESh.isGone:ESh->Bool
 | .gone=>G
 |_=>I
structure Sig where
 ts:List (Nat×Sh)
 es:List ESh
def Sig.shs(g:Sig):List Sh:=g.ts.map (·.2)++g.es.map ESh.sh
abbrev Sig.ty(C:Cod)(g:Sig):Type:=Sh.tys C g.shs
section
variable {C:Cod}
def W0(ρ:Nat->Nat):(ts:List (Nat×Sh))->(a:List Sh)->Sh.tys C (ts.map (·.2)++a)->Nat->AV C.D
 |[],_,_=>λ_ =>.und
 |(t,s)::ts,a,x=>λi=>bif M i t then Sh.put ρ s (Sh.hd (s:=s) (l:=ts.map (·.2)++a) x) else W0 ρ ts a (Sh.tl (s:=s) (l:=ts.map (·.2)++a) x) i
def W1:(ts:List (Nat×Sh))->(a:List Sh)->Sh.tys C (ts.map (·.2)++a)->Sh.tys C a
 |[],_,x=>x
 |(t,s)::ts,a,x=>W1 ts a (Sh.tl (s:=s) (l:=ts.map (·.2)++a) x)
def ESh.ent(ρ:Nat->Nat):(e:ESh)->e.sh.ty C->U3 (Ent C)
 | .cell l,x=>E (.cell (Sh.putc ρ l x))
 | .row T,s=>E (.row T s)
 | .obj k T,x=>E (.obj k T (Sh.hd (s :=.str) (l:=[.sl T]) x) (Sh.hd (s :=.sl T) (l:=[]) (Sh.tl (s :=.str) (l:=[.sl T]) x)))
 | .orow T,s=>E (.orow T s .all)
 | .xrow T,x=>E (.orow T (Sh.hd (s :=.sl T) (l:=[]) (Sh.tl (s :=.int .i64) (l:=[.sl T]) x)) (.upto (Sh.hd (s :=.int .i64) (l:=[.sl T]) x)))
 | .forow T,s=>E (.orow T s .fix)
 | .gone,_=>F
def ZN(ρ:Nat->Nat):(es:List ESh)->Nat->Sh.tys C (es.map ESh.sh)->Nat->U3 (Ent C)
 |[],_,_=>λ_=>F
 |e::es,k,x=>λi=>bif M i (ρ k) then e.ent ρ (Sh.hd (s:=e.sh) (l:=es.map ESh.sh) x) else ZN ρ es (k+1) (Sh.tl (s:=e.sh) (l:=es.map ESh.sh) x) i
def Sig.open(g:Sig)(x:g.ty C):St C:=
 {env:=W0 (λk=>k) g.ts (g.es.map ESh.sh) x,heap:=ZN (λk=>k) g.es 0 (W1 g.ts (g.es.map ESh.sh) x)}
def zjd:U3 (Ent C)->AV C.D
 |some (.cell cs) =>.agg cs
 |some (.row T s) =>.sl T s I
 |some (.obj k T b s) =>.ifc k (.tup [.str b,.sl T s I])
 |some (.orow T s .all) =>.clo 0 [.sl T s I]
 |some (.orow T s .fix) =>.clo 0 [.sl T s I]
 |some (.orow T s (.upto k)) =>.clo 1 [.int .i64 k,.sl T s I]
 |some (.orow _ _ (.out _)) =>.und
 |none =>.und
abbrev Bl:=List (U3 Nat)
def Bl.fn(bl:Bl)(k:Nat):U3 Nat:=(bl[k]?).join
def vH(S:St C)(bl:Bl)(k:Nat):AV C.D:=match Bl.fn bl k with
 |some id=>zjd (S.heap id)
 |none =>.und
def zhQ(bl:Bl)(k id:Nat):Bl:=match Bl.fn bl k with
 |some _=>bl
 |none=>bl.set k (E id)
mutual
def zje:Sh->AV C.D->Bl->Bl
 | .row k,A,bl=>(match A with
  | .row id=>zhQ bl k id
  |_=>bl)
 | .pc k _,A,bl=>(match A with
  | .pc id _=>zhQ bl k id
  |_=>bl)
 | .pr k _ _,A,bl=>(match A with
  | .pr id _ _ _=>zhQ bl k id
  |_=>bl)
 | .nx k _,A,bl=>(match A with
  | .nx id _ _ _=>zhQ bl k id
  |_=>bl)
 | .nxe k _ _ _,A,bl=>(match A with
  | .nx id _ _ _=>zhQ bl k id
  |_=>bl)
 | .nxp k _ _,A,bl=>(match A with
  | .nx id _ _ _=>zhQ bl k id
  |_=>bl)
 | .clo _ l,A,bl=>(match A with
  | .clo _ cs=>zgt l cs bl
  |_=>bl)
 | .agg l,A,bl=>(match A with
  | .agg cs=>zgt l cs bl
  |_=>bl)
 | .tup l,A,bl=>(match A with
  | .tup cs=>zgt l cs bl
  |_=>bl)
 | .ifc _ s,A,bl=>(match A with
  | .ifc _ A=>zje s A bl
  |_=>bl)
 |_,_,bl=>bl
def zgt:List Sh->List (AV C.D)->Bl->Bl
 |[],_,bl=>bl
 |s::l,As,bl=>(match Sh.isVal s with
  |some T=>zgt l (As.drop (C.size T)) bl
  |none=>(match As with
   |A::As=>zgt l As (zje s A bl)
   |[]=>bl))
end
def zgu(S:St C):List (Nat×Sh)->Bl->Bl
 |[],bl=>bl
 |(t,s)::ts,bl=>zgu S ts (zje s (S.env t) bl)
def zgv(S:St C):List ESh->Nat->Bl->Bl
 |[],_,bl=>bl
 |e::es,k,bl=>zgv S es (k+1) (zje e.sh (vH S bl k) bl)
def zrz:List ESh->Nat->Nat->Bl
 |[],_,_=>[]
 |e::es,k,m=>(bif e.isGone then F else bif O k m then E k else F)::zrz es (k+1) m
def ZA(g:Sig)(m:Nat)(S:St C):Bl:=zgv S g.es 0 (zgu S g.ts (zrz g.es 0 m))
def yf(id:Nat):Bl->Bool
 |[]=>I
 |some a::r=>M a id || yf id r
 |none::r=>yf id r
def zk9(m:Nat):List ESh->Bl->Nat->Bool
 |[],[],_=>G
 |e::es,b::bl,k=>(match b with
  |some id=> !e.isGone && (!yf id bl && (!O k m || M k id))
  |none=>e.isGone) && zk9 m es bl (k+1)
 |_,_,_=>I
def zfA(S:St C)(m:Nat):List ESh->Nat->Bool
 |[],_=>G
 |e::es,k=>(match e with
  | .forow _=> !O k m || Z0 (S.heap k)
  |_=>G) && zfA S m es (k+1)
def YZ(g:Sig)(m:Nat)(S:St C)(bl:Bl):U3 (g.ty C):=
 chk (zk9 m g.es bl 0 && zfA S m g.es 0) (Sh.gets (Bl.fn bl) g.shs (g.ts.map (λt=>S.env t.1)++(Y g.es.length).map (vH S bl)))
mutual
def fzS:Sh->AV C.D->List Nat
 | .sl _,A=>AV.rows A
 | .val _,A=>AV.rows A
 | .clo _ l,A=>(match A with
  | .clo _ cs=>fzL l cs
  |_=>[])
 | .agg l,A=>(match A with
  | .agg cs=>fzL l cs
  |_=>[])
 | .tup l,A=>(match A with
  | .tup cs=>fzL l cs
  |_=>[])
 | .ifc _ s,A=>(match A with
  | .ifc _ A=>fzS s A
  |_=>[])
 |_,_=>[]
def fzL:List Sh->List (AV C.D)->List Nat
 |[],_=>[]
 |s::l,As=>(match Sh.isVal s with
  |some T=>AV.rowss (As.take (C.size T))++fzL l (As.drop (C.size T))
  |none=>(match As with
   |A::As=>fzS s A++fzL l As
   |[]=>[]))
end
def fzT(S:St C):List (Nat×Sh)->List Nat
 |[]=>[]
 |(t,s)::ts=>fzS s (S.env t)++fzT S ts
def fzE(S:St C)(bl:Bl):List ESh->Nat->List Nat
 |[],_=>[]
 |e::es,k=>(match e with
  | .cell l=>(match vH S bl k with
   | .agg cs=>fzL l cs
   |_=>[])
  |_=>[])++fzE S bl es (k+1)
def zgw(C:Cod)(es:List ESh)(k:Nat):U3 (Ent C):=match es[k]? with
 |some (.row T)=>E (.row T ⟨[],I⟩)
 |some (.orow T)=>E (.orow T ⟨[],I⟩ .all)
 |some (.forow T)=>E (.orow T ⟨[],I⟩ .all)
 |_=>F
def zya(C:Cod)(s:Sh):Nat:=match Sh.isVal s with | some T=>C.size T | none=>1
def nilA1(es:List ESh)(t:Nat)(s:Sh)(p:Nat)(S:St C):St C:=match s,S.env t with
 | .row k,.agg cs=>(match cs[p]?,zgw C es k with
  |some .nils,E e=>bif isNone (S.heap (1048576+k)) then {env:=upd S.env t (.agg (cs.set p (.row (1048576+k)))),heap:=upd S.heap (1048576+k) (E e)} else S
  |_,_=>S)
 |_,_=>S
def nilA(es:List ESh)(t:Nat):List Sh->Nat->St C->St C
 |[],_,S=>S
 |s::l,p,S=>nilA es t l (p+zya C s) (nilA1 es t s p S)
def nilT(es:List ESh):List (Nat×Sh)->St C->St C
 |[],S=>S
 |(t,s)::ts,S=>nilT es ts (match s,S.env t with
  | .row k,.nils=>(match zgw C es k with
   |some e=>bif isNone (S.heap (1048576+k)) then {env:=upd S.env t (.row (1048576+k)),heap:=upd S.heap (1048576+k) (E e)} else S
   |none=>S)
  | .agg l,.agg _=>nilA es t l 0 S
  |_,_=>S)
def nil1(es:List ESh)(id:Nat)(s:Sh)(p:Nat)(S:St C):St C:=match s,S.heap id with
 | .row k,E (.cell cs)=>(match cs[p]?,zgw C es k with
  |some .nils,E e=>bif isNone (S.heap (1048576+k)) then {S with heap:=upd (upd S.heap (1048576+k) (E e)) id (E (.cell (cs.set p (.row (1048576+k)))))} else S
  |_,_=>S)
 |_,_=>S
def nilC(es:List ESh)(id:Nat):List Sh->Nat->St C->St C
 |[],_,S=>S
 |s::l,p,S=>nilC es id l (p+zya C s) (nil1 es id s p S)
def zgx(all:List ESh)(bl:Bl)(e:ESh)(k:Nat)(S:St C):St C:=match e,Bl.fn bl k with
 | .cell l,E id=>nilC all id l 0 S
 |_,_=>S
def nilE(all:List ESh)(bl:Bl):List ESh->Nat->St C->St C
 |[],_,S=>S
 |e::es,k,S=>nilE all bl es (k+1) (zgx all bl e k S)
def Sig.prep(g:Sig)(m:Nat)(S:St C):St C:=
 let S1:=nilT g.es g.ts (S.frz (fzT S g.ts))
 let S2:=nilE g.es (ZA g m S1) g.es 0 S1
 S2.frz (fzE S2 (ZA g m S2) g.es 0)
def zs2(bl:Bl)(e:ESh)(k:Nat)(S:St C):St C:=match e,Bl.fn bl k with
 | .xrow _,E id=>(match S.heap id with
  |some (.row T s)=>bif O (C.nst T) (C.size T) then S.owk id (.orow T s (.upto 0)) else S
  |_=>S)
 |_,_=>S
def zs3(bl:Bl):List ESh->Nat->St C->St C
 |[],_,S=>S
 |e::es,k,S=>zs3 bl es (k+1) (zs2 bl e k S)
def Sig.close(g:Sig)(m:Nat)(S:St C):U3 (g.ty C):=
 let S1:=g.prep m S
 let S2:=zs3 (ZA g m S1) g.es 0 S1
 YZ g m S2 (ZA g m S2)
end
section
variable {κ:Kp}{C:Cod}{S:St C}{ν:Val}{vs:Nat->List Value}{ids:List Nat}{L:List (Nat×Value)}{b:Nat->Value}{Z:FS}{PV:List Priv}
variable {n:Nat}{w0:Start}{σ0:FS}
theorem zcc{B:Nat->U3 Nat}:∀(ts:List (Nat×Sh)) (a:List Sh) {avs c:List (AV C.D)}{x:Sh.tys C (ts.map (·.2)++a)},avs.length=ts.length->Sh.gets B (ts.map (·.2)++a) (avs++c)=E x->Sh.gets B a c=E (W1 ts a x)
 |[],a,avs,c,x,hl,h=>by
  have:avs=[]:=UQ hl;subst this;exact h
 |(t,s)::ts,a,A::avs,c,x,hl,h=>by
  let⟨y,m,h⟩:=gd h;let⟨z,f,h⟩:=gd h;cases h;show Sh.gets B a c=E (W1 ts a (Sh.tl (s:=s) (l:=ts.map (·.2)++a) (Sh.pk y z)));rw[Sh.tl_pk];exact zcc ts a (by simpa using hl) f
 |_::_,_,[],_,_,hl,_=>by simp at hl
theorem zcd {B:Nat->U3 Nat}{ρ:Nat->Nat}{ν':Val}(c:Rn B ρ ν ν') (a:List Sh) {f:List (AV C.D)}(r:∀t,VR C Z ν (look L b t) (S.env t)):∀(ts:List (Nat×Sh)) {x:Sh.tys C (ts.map (·.2)++a)},
    Sh.gets B (ts.map (·.2)++a) (ts.map (λt=>S.env t.1)++f)=E x->∀t,VR C Z ν' (look L b t) (W0 ρ ts a x t)/\(W0 ρ ts a x t).ok (InB B ρ)
 |[],x,h,t=>⟨trivial,trivial⟩
 |(t0,s)::ts,x,h,t=>by
   let⟨y,m,h⟩:=gd h;let⟨z,K,h⟩:=gd h;cases h;have w:=zcd c a r ts K t;unfold W0;rw[show Sh.hd (s:=s) (l:=ts.map (·.2)++a) (Sh.pk y z)=y from Sh.hd_pk,show Sh.tl (s:=s) (l:=ts.map (·.2)++a) (Sh.pk y z)=z from Sh.tl_pk];cases e:M t t0 with
   |true=>
    have:=ge e;subst this;exact⟨Sh.get_put c s m (r t),Sh.put_ok s m⟩
   |false=>exact w
theorem za3 {B:Nat->U3 Nat}{ρ:Nat->Nat}{ν':Val}(K:Rn B ρ ν ν') {N:Nat}(hρ:∀i j,i < N->j < N->ρ i=ρ j->i=j) (m:∀id cs,S.heap id=E (.cell cs)->VRs C Z ν (vs id) cs):∀(es:List ESh) (k0:Nat) {x:Sh.tys C (es.map ESh.sh)},
    k0+es.length<=N->Sh.gets B (es.map ESh.sh) ((qA k0 es.length).map λk=>match B k with | some id=>zjd (S.heap id) | none =>.und)=E x->
    (∀k e,es[k]?=E e->(e.isGone=G↔B (k0+k)=F))->∀k id,B k=E id->k0<=k->k < k0+es.length->
      (∃cs cs',S.heap id=E (.cell cs)/\ZN ρ es k0 x (ρ k)=E (.cell cs')/\VRs C Z ν' (vs id) cs'/\AV.oks (InB B ρ) cs')\/(∃T s,S.heap id=E (.row T s)/\ZN ρ es k0 x (ρ k)=E (.row T s))\/(∃q T b s,S.heap id=E (.obj q T b s)/\ZN ρ es k0 x (ρ k)=E (.obj q T b s))\/∃T s g g',S.heap id=E (.orow T s g)/\ZN ρ es k0 x (ρ k)=E (.orow T s g')/\∀j,j < s.xs.length->g.fl j=g'.fl j
 |[],k0,x,hN,h,hg,k,id,hB,h1,h2=>jE
 |e::es,k0,x,hN,h,hg,k,id,hB,h1,h2=>by
  simp only[jz] at hN h2;simp only[jz,List.range'_succ,UF] at h;let⟨y,a,h⟩:=gd h;let⟨z,hz,h⟩:=gd h;cases h;have ih:=za3 K hρ m es (k0+1) (x:=z) Zc hz (λj e' c=>by have:=hg (j+1) e' (by simpa using c);grind) k id hB;unfold ZN;rw[show Sh.hd (s:=e.sh) (l:=es.map ESh.sh) (Sh.pk y z)=y from Sh.hd_pk,show Sh.tl (s:=e.sh) (l:=es.map ESh.sh) (Sh.pk y z)=z from Sh.tl_pk];by_cases hk:k=k0
  · subst hk;simp only[Nat.beq_refl,Dy];rw[hB] at a;simp only at a;have hng:e.isGone=false:=by
      cases hh:e.isGone with
      |false=>rfl
      |true=>have:=(hg 0 e rfl).1 hh;grind
    cases e with
    |gone=>cases hng
    |cell l=>
     left;cases hs:S.heap id with
     |none=>rw[hs] at a;cases a
     |some f=>
      rw[hs] at a;cases f with
      |row T s=>cases a
      |obj q T b s=>cases a
      |orow T s g=>cases g<;>cases a
      |cell cs=>
       have a:Sh.getc B l cs=E y:=a;exact⟨cs,_,rfl,rfl,Sh.getc_putc K l a (m id cs hs),Sh.putc_ok l a⟩
    |row T=>
     right;left;cases hs:S.heap id with
     |none=>rw[hs] at a;cases a
     |some f=>
      rw[hs] at a;cases f with
      |cell cs=>cases a
      |obj q T b s=>cases a
      |orow T s g=>cases g<;>cases a
      |row T' s=>
       let⟨e,c⟩:=yM (show Xq s=E y from a);subst e;subst c;exact⟨_,_,rfl,rfl⟩
    |obj q T=>
     right;right;left;cases hs:S.heap id with
     |none=>rw[hs] at a;cases a
     |some f=>
      rw[hs] at a;cases f with
      |cell cs=>cases a
      |row T' s=>cases a
      |orow T s g=>cases g<;>cases a
      |obj q' T' b s=>
       let⟨hq,hy2⟩:=zb (show chk (M q q') (Sh.gets B [.str,.sl T] [.str b,.sl T' s I])=E y from a);have hq:=ge hq;let⟨s',hs',R⟩:=gd (show(Sh.gets B [.sl T] [.sl T' s I]).bind (λz=>E (Sh.pk (s :=.str) (l:=[.sl T]) b z))=E y from hy2);let⟨s2,D,w⟩:=gd (show(Xq s).bind (λz=>E (Sh.pk (s :=.sl T) (l:=[]) z ()))=E s' from hs');cases w;cases R;subst hq;let⟨e,c⟩:=yM D;subst e;subst c;refine⟨_,_,b,_,rfl,?_⟩;show E (Ent.obj q T' (Sh.hd (s :=.str) (l:=[.sl T']) (Sh.pk (s :=.str) (l:=[.sl T']) b (Sh.pk (s :=.sl T') (l:=[]) s ()))) (Sh.hd (s :=.sl T') (l:=[]) (Sh.tl (s :=.str) (l:=[.sl T']) (Sh.pk (s :=.str) (l:=[.sl T']) b (Sh.pk (s :=.sl T') (l:=[]) s ())))))=_;rw[show Sh.hd (s :=.str) (l:=[.sl T']) (Sh.pk (s :=.str) (l:=[.sl T']) b (Sh.pk (s :=.sl T') (l:=[]) s ()))=b from Sh.hd_pk,show Sh.tl (s :=.str) (l:=[.sl T']) (Sh.pk (s :=.str) (l:=[.sl T']) b (Sh.pk (s :=.sl T') (l:=[]) s ()))=_ from Sh.tl_pk,show Sh.hd (s :=.sl T') (l:=[]) (Sh.pk (s :=.sl T') (l:=[]) s ())=s from Sh.hd_pk]
    |orow T=>
     right;right;right;cases hs:S.heap id with
     |none=>rw[hs] at a;cases a
     |some f=>
      rw[hs] at a;cases f with
      |cell cs=>cases a
      |row T' s=>cases a
      |obj q' T' b s=>cases a
      |orow T' s g=>
       cases g with
       |out i=>cases a
       |all=>
        let⟨e,c⟩:=yM (show Xq s=E y from a);subst e;subst c;exact⟨_,_,.all,.all,rfl,rfl,λ_ _=>rfl⟩
       |fix=>
        let⟨e,c⟩:=yM (show Xq s=E y from a);subst e;subst c;exact⟨_,_,.fix,.all,rfl,rfl,λ_ _=>rfl⟩
       |upto k=>
        let⟨m,a⟩:=zb (show chk (decide (s.len<=k)) (Xq s)=E y from a);have m:=Dv m;let⟨e,c⟩:=yM a;subst e;subst c;refine⟨_,_,.upto k,.all,rfl,rfl,λj hj=>?_⟩;show(if j < k.toNat then 1 else 0)=1;rw[jv (by unfold Sl.len at m;omega)]
    |forow T=>
     right;right;right;cases hs:S.heap id with
     |none=>rw[hs] at a;cases a
     |some f=>
      rw[hs] at a;cases f with
      |cell cs=>cases a
      |row T' s=>cases a
      |obj q' T' b s=>cases a
      |orow T' s g=>
       cases g with
       |out i=>cases a
       |all=>
        let⟨e,c⟩:=yM (show Xq s=E y from a);subst e;subst c;exact⟨_,_,.all,.fix,rfl,rfl,λ_ _=>rfl⟩
       |fix=>
        let⟨e,c⟩:=yM (show Xq s=E y from a);subst e;subst c;exact⟨_,_,.fix,.fix,rfl,rfl,λ_ _=>rfl⟩
       |upto k=>
        let⟨m,a⟩:=zb (show chk (decide (s.len<=k)) (Xq s)=E y from a);have m:=Dv m;let⟨e,c⟩:=yM a;subst e;subst c;refine⟨_,_,.upto k,.fix,rfl,rfl,λj hj=>?_⟩;show(if j < k.toNat then 1 else 0)=1;rw[jv (by unfold Sl.len at m;omega)]
    |xrow T=>
     right;right;right;cases hs:S.heap id with
     |none=>rw[hs] at a;cases a
     |some f=>
      rw[hs] at a;cases f with
      |cell cs=>cases a
      |row T' s=>cases a
      |obj q' T' b s=>cases a
      |orow T' s g=>
       cases g with
       |out i=>cases a
       |all=>cases a
       |fix=>cases a
       |upto k=>
        let⟨k',r,a⟩:=gd (show(Sh.get B (.int .i64) (.int .i64 k)).bind (λx=>(Sh.gets B [.sl T] [.sl T' s I]).bind λz=>E (Sh.pk (s :=.int .i64) (l:=[.sl T]) x z))=E y from a);let⟨z',Q,a⟩:=gd a;let⟨s2,D,w⟩:=gd (show(Xq s).bind (λz=>E (Sh.pk (s :=.sl T) (l:=[]) z ()))=E z' from Q);cases w;cases a;let⟨_,r⟩:=zb r;cases r;let⟨e,c⟩:=yM D;subst e;subst c;refine⟨_,_,.upto k,.upto k,rfl,?_,λ_ _=>rfl⟩;show E (Ent.orow T' (Sh.hd (s :=.sl T') (l:=[]) (Sh.tl (s :=.int .i64) (l:=[.sl T']) (Sh.pk (s :=.int .i64) (l:=[.sl T']) k (Sh.pk (s :=.sl T') (l:=[]) s ())))) (.upto (Sh.hd (s :=.int .i64) (l:=[.sl T']) (Sh.pk (s :=.int .i64) (l:=[.sl T']) k (Sh.pk (s :=.sl T') (l:=[]) s ())))))=_;rw[show Sh.hd (s :=.int .i64) (l:=[.sl T']) (Sh.pk (s :=.int .i64) (l:=[.sl T']) k (Sh.pk (s :=.sl T') (l:=[]) s ()))=k from Sh.hd_pk,show Sh.tl (s :=.int .i64) (l:=[.sl T']) (Sh.pk (s :=.int .i64) (l:=[.sl T']) k (Sh.pk (s :=.sl T') (l:=[]) s ()))=_ from Sh.tl_pk,show Sh.hd (s :=.sl T') (l:=[]) (Sh.pk (s :=.sl T') (l:=[]) s ())=s from Sh.hd_pk]
  · have hne:M (ρ k) (ρ k0)=false:=by
      cases e':M (ρ k) (ρ k0) with
      |false=>rfl
      |true=>
       exfalso;have e2:=ge e';grind
    grind
end
variable [Dfr]
section
variable {κ:Kp}{C:Cod}{S:St C}{ν:Val}{vs:Nat->List Value}{ids:List Nat}{L:List (Nat×Value)}{b:Nat->Value}{Z:FS}{PV:List Priv}
variable {n:Nat}{w0:Start}{σ0:FS}
theorem Xj{id:Nat}:∀{bl:Bl}{k:Nat},Bl.fn bl k=E id->yf id bl=G
 |[],k,h=>by simp[Bl.fn] at h
 |none::r,0,h=>by simp[Bl.fn] at h
 |some a::r,0,h=>by
  have:a=id:=by simpa[Bl.fn] using h
  subst this;simp[yf]
 |none::r,k+1,h=>by
  have:Bl.fn r k=E id:=by simpa[Bl.fn] using h
  simp[yf,Xj this]
 |some a::r,k+1,h=>by
  have:Bl.fn r k=E id:=by simpa[Bl.fn] using h
  simp[yf,Xj this]
structure BdOK(m:Nat)(es:List ESh)(B:Nat->U3 Nat):Prop where
 gone:∀k e,es[k]?=E e->(e.isGone=G↔B k=F)
 lt:∀k id,B k=E id->k < es.length
 inj:∀i j id,B i=E id->B j=E id->i=j
 same:∀k id,k < m->B k=E id->k=id
theorem zns{m:Nat}:∀{es:List ESh}{bl:Bl}{k0:Nat},zk9 m es bl k0=G->(∀k e,es[k]?=E e->(e.isGone=G↔Bl.fn bl k=F))/\(∀k id,Bl.fn bl k=E id->k < es.length)/\(∀i j id,Bl.fn bl i=E id->Bl.fn bl j=E id->i=j)/\(∀k id,k0+k < m->Bl.fn bl k=E id->k0+k=id)
 |[],[],k0,h=>⟨λk e a=>by simp at a,λk id a=>by simp[Bl.fn] at a,λi j id a=>by simp[Bl.fn] at a,λk id _ a=>by simp[Bl.fn] at a⟩
 |[],_::_,k0,h=>by cases h
 |_::_,[],k0,h=>by cases h
 |e::es,b::bl,k0,h=>by
  simp only[zk9,gf] at h;let⟨h1,h2⟩:=h;let⟨f,i2,i3,i4⟩:=zns h2;have hs:∀k,Bl.fn (b::bl) (k+1)=Bl.fn bl k:=λk=>by simp[Bl.fn]
  have h0:Bl.fn (b::bl) 0=b:=by simp[Bl.fn]
  refine⟨λk e' a=>?_,λk id a=>?_,λi j id hi c=>?_,λk id l a=>?_⟩
  ·cases k with
   |zero=>
    simp at a;grind
   |succ k=>grind
  ·cases k with
   |zero=>simp
   |succ k=>grind
  ·cases i with
   |zero=>
    cases j with
    |zero=>rfl
    |succ j=>
     rw[h0] at hi;subst hi;rw[hs] at c;simp only[gf,Dw] at h1;rw[Xj c] at h1;simp at h1
   |succ i=>
    cases j with
    |zero=>
     rw[h0] at c;subst c;rw[hs] at hi;simp only[gf,Dw] at h1;rw[Xj hi] at h1;simp at h1
    |succ j=>grind
  ·cases k with
   |zero=>
    rw[h0] at a;subst a;simp only[gf,UO,Dw] at h1;rcases h1.2.2 with q | q
    ·have:¬ O k0 m=true:=by rw[q];simp
     rw[Da] at this;omega
    ·have:=ge q;omega
   |succ k=>
    grind
omit [Dfr] in
theorem BdOK.of{m:Nat}{es:List ESh}{bl:Bl}(h:zk9 m es bl 0=G):BdOK m es (Bl.fn bl):=by
 let⟨h1,h2,a,f⟩:=zns h;exact⟨h1,h2,a,λk id c hb=>jE⟩
theorem vR{ρ:Nat->Nat}:∀(es:List ESh) (k0:Nat) {x:Sh.tys C (es.map ESh.sh)}{i:Nat},(∀k e,es[k]?=E e->i=ρ (k0+k)->e.isGone=G)->ZN ρ es k0 x i=F
 |[],_,_,_,_=>rfl
 |e::es,k0,x,i,h=>by
  unfold ZN;cases e':M i (ρ k0) with
  |true=>
   have:=h 0 e rfl (ge e');cases e with
   |gone=>rfl
   |cell=>cases this
   |row=>cases this
   |obj=>cases this
   |orow=>cases this
   |xrow=>cases this
   |forow=>cases this
  |false=>exact vR es (k0+1) λk e a hi=>h (k+1) e (by simpa using a) jE
theorem zdE{ρ:Nat->Nat}:∀(es:List ESh) (k0:Nat) {x:Sh.tys C (es.map ESh.sh)}{i:Nat},Z0 (ZN ρ es k0 x i)=G->∃k T,es[k]?=E (.forow T)/\i=ρ (k0+k)
 |[],_,_,_,h=>by cases h
 |e::es,k0,x,i,h=>by
  unfold ZN at h;cases e':M i (ρ k0) with
  |true=>
   rw[e',Dy] at h;cases e with
   |forow T=>exact⟨0,T,rfl,ge e'⟩
   |gone=>cases h
   |cell=>cases h
   |row=>cases h
   |obj=>cases h
   |orow=>cases h
   |xrow=>cases h
  |false=>
   rw[e',U8] at h;let⟨k,T,h1,h2⟩:=zdE es (k0+1) h;exact⟨k+1,T,by simpa using h1,jE⟩
theorem znt{m:Nat}:∀{es:List ESh}{k0:Nat},zfA S m es k0=G->∀{k T:Nat},es[k]?=E (.forow T)->k0+k < m->Z0 (S.heap (k0+k))=G
 |[],_,_,k,T,h,_=>by simp at h
 |e::es,k0,h,k,T,hk,hm=>by
  unfold zfA at h;simp only[gf] at h;cases k with
  |zero=>
   simp at hk;subst hk;have h1:=h.1;simp only[UO,Dw] at h1;rcases h1 with q | q
   ·have:O k0 m=true:=by rw[Da];omega
    grind
   ·exact q
  |succ k=>
   have:=znt h.2 (k:=k) (T:=T) (by simpa using hk) Zc;grind
theorem AbsL.rename (h:AbsL κ S ν vs ids L b Z PV) {g:Sig}{bl:Bl}{x:g.ty C}(hg:YZ g κ.m S bl=E x) :
    ∃ν' r a PV',AbsL κ (g.open x) ν' r a L b Z PV'/\∀w,Inv w0 σ0 Z PV w->Inv w0 σ0 Z PV' w:=by
 let⟨hb,hg⟩:=zb hg;let⟨hb,hfx⟩:=(gf _ _).mp hb;have hB:=BdOK.of hb
 let B:=Bl.fn bl
 let ν':Val:={hdr:=λk=>match B k with | some id=>ν.hdr id | none =>.slice F 0 0,adr:=λk=>match B k with | some id=>ν.adr id | none=>default}
 let r:Nat->List Value:=λk=>match B k with | some id=>vs id | none=>[]
 have hν:Rn B (λk=>k) ν ν':=⟨λk id e=>by simp[ν',e],h.one⟩;have Q:=zcc g.ts (g.es.map ESh.sh) (avs:=g.ts.map λt=>S.env t.1) je hg;have hsl:(Y g.es.length).map (vH S bl)=(qA 0 g.es.length).map λk=>match B k with | some id=>zjd (S.heap id) | none =>.und:=by
  rw[<- List.range_eq_range'];rfl
 rw[hsl] at Q;have l:=λk id (e:B k=E id)=>za3 (N:=g.es.length) hν (λi j _ _ e=>e) h.cell g.es 0 Zc Q (λk e he=>by rw[UZ];exact hB.gone k e he) k id e (UL _) (by have:=hB.lt k id e;omega)
 have hnone:∀k,B k=F->(g.open x).heap k=none:=λk e=>by
  refine vR g.es 0 λj e' he hj=>?_
  have hj:k=j:=by simpa using hj
  subst hj;exact(hB.gone k e' he).2 e
 have D:∀k,((g.open x).heap k).isSome=G↔(B k).isSome=true:=λk=>by
  cases e:B k with
  |none=>grind
  |some id=>
   rcases l k id e with⟨cs,cs',_,h2,_⟩ | ⟨T,s,_,h2⟩ | ⟨q,T,b2,s,_,h2⟩ | ⟨T,s,g1,g2,_,h2,_⟩
   all_goals rw[show(g.open x).heap k=_ from h2];simp
 have henv:=zcd (L:=L) (b:=b) (Z:=Z) hν (g.es.map ESh.sh) h.env g.ts hg
 let a:=(Y g.es.length).filter λk=>(B k).isSome
 have hmem:∀k,k∈a↔(B k).isSome=true:=λk=>by
  simp only[a,D7,D8];refine⟨λh=>h.2,λh=>⟨?_,h⟩⟩;let⟨id,e⟩:=UN.1 h;exact hB.lt k id e
 have R:∀k,k∈a->∃(id m:Nat),B k=E id/\ids[m]?=E id/\PV[m]?=E (zK C ν' r k ((g.open x).heap k)):=λk f=>by
  let⟨id,e⟩:=UN.1 ((hmem k).1 f);rcases l k id e with⟨cs,cs',h1,h2,_⟩ | ⟨T,s,h1,h2⟩ | ⟨q,T,b2,s,h1,h2⟩ | ⟨T,s,g1,g2,h1,h2,h3⟩
  ·let⟨m,hm,hid⟩:=h.at h1;refine⟨id,m,e,hid,?_⟩;rw[hm,show(g.open x).heap k=_ from h2];simp[zK,ν',r,e]
  ·let⟨m,hm,hid⟩:=h.at h1;refine⟨id,m,e,hid,?_⟩;rw[hm,show(g.open x).heap k=_ from h2];simp[zK,ν',e]
  ·let⟨m,hm,hid⟩:=h.at h1;refine⟨id,m,e,hid,?_⟩;rw[hm,show(g.open x).heap k=_ from h2];simp[zK,ν',e]
  ·let⟨m,hm,hid⟩:=h.at h1;refine⟨id,m,e,hid,?_⟩;rw[hm,show(g.open x).heap k=_ from h2];simp only[zK,ν',e];rw[zc7 λj hj=>⟨h3 j hj,rfl⟩]
 classical
 let pos:Nat->Nat:=λk=>if f:k∈a then(R k f).choose_spec.choose else 0
 have K:∀k (f:k∈a),B k=E (R k f).choose/\ids[pos k]?=E (R k f).choose/\PV[pos k]?=E (zK C ν' r k ((g.open x).heap k)):=λk f=>by
  have:=(R k f).choose_spec.choose_spec;grind
 have hnd:a.Nodup:=List.Nodup.sublist List.filter_sublist List.nodup_range;refine⟨ν',r,a,a.map λk=>zK C ν' r k ((g.open x).heap k),⟨⟨hnd,λk=>jE,rfl,λk cs f=>?_,λt=>(henv t).1,λi=>?_⟩,λt=>?_,λk cs f=>?_,λk f hs=>?_⟩,λw hi=>hi.sub_own λgg ks=>?_⟩
 · have hB1:=(D k).1 (by rw[f];rfl);let⟨id,e⟩:=UN.1 hB1;rcases l k id e with⟨c,c',h1,h2,h3,_⟩ | ⟨T,s,h1,h2⟩ | ⟨q,T,b2,s,h1,h2⟩ | ⟨T,s,g1,g2,h1,h2,_⟩
   ·rw[show(g.open x).heap k=_ from h2] at f;grind
   ·rw[show(g.open x).heap k=_ from h2] at f;cases f
   ·rw[show(g.open x).heap k=_ from h2] at f;cases f
   ·rw[show(g.open x).heap k=_ from h2] at f;cases f
 · simp only[ν'];cases B i with
   |none=>rfl
   |some id=>exact h.one id
 ·refine AV.ok_mono (λj hj=>?_) (henv t).2;let⟨k2,id2,e2,e3⟩:=hj;grind
 · have hB1:=(D k).1 (by rw[f];rfl);let⟨id,e⟩:=UN.1 hB1;rcases l k id e with⟨c,c',h1,h2,_,h4⟩ | ⟨T,s,h1,h2⟩ | ⟨q,T,b2,s,h1,h2⟩ | ⟨T,s,g1,g2,h1,h2,_⟩
   ·rw[show(g.open x).heap k=_ from h2] at f;cases f;refine AV.oks_mono (λj hj=>?_) h4;let⟨k2,id2,e2,e3⟩:=hj;grind
   ·rw[show(g.open x).heap k=_ from h2] at f;cases f
   ·rw[show(g.open x).heap k=_ from h2] at f;cases f
   ·rw[show(g.open x).heap k=_ from h2] at f;cases f
 · obtain ⟨id,e⟩:=UN.1 ((D k).1 hs);have:=hB.same k id f e;subst this;have hS:(S.heap k).isSome=true:=by
     rcases l k k e with⟨c,c',h1,_⟩ | ⟨T,s,h1,_⟩ | ⟨q,T,b2,s,h1,_⟩ | ⟨T,s,g1,g2,h1,_⟩<;>rw[h1]<;>rfl
   have:=h.keep k f hS;refine⟨by simpa[ν',e] using this.1,by simpa[ν',e] using this.2.1,λhf=>?_⟩;let⟨j,T,h1,h2⟩:=zdE g.es 0 (show Z0 (ZN (λk=>k) g.es 0 (W1 g.ts (g.es.map ESh.sh) x) k)=G from hf);have h2:k=j:=by simpa using h2
   subst h2;have:=this.2.2 (by have:=znt hfx h1 Zc;rwa [UZ] at this);simpa[ν',e] using this
 · refine ks.select (a.map pos) ?_ ?_
   ·rw[UD,List.pairwise_map];refine List.Pairwise.imp_of_mem ?_ (UD.1 hnd);intro i j hi hj hne e;let⟨e1,e2,_⟩:=K i hi;let⟨e3,e4,_⟩:=K j hj;rw[e] at e2;rw[e2] at e4;rw[<- V.inj e4] at e3;exact hne (hB.inj i j _ e1 e3)
   ·rw[qB,qB];exact D0 λk f=>(K k f).2.2
end
variable [Dfr]
section
variable {κ:Kp}{C:Cod}{S:St C}{ν:Val}{vs:Nat->List Value}{ids:List Nat}{L:List (Nat×Value)}{b:Nat->Value}{Z:FS}{PV:List Priv}
variable {n:Nat}{w0:Start}{σ0:FS}
theorem zs4{t:Nat}{v:Value}(h:look L b t=v):∀i,look ((t,v)::L) b i=look L b i:=λi=>by
 show(bif M i t then v else look L b i)=_;cases e:M i t with
 |true=>rw[ge e];exact h.symm
 |false=>rfl
theorem zC.unput{t:Nat}{v:Value}(h:zC κ S ((t,v)::L) b Z PV)(a:look L b t=v):zC κ S L b Z PV:=by
 let⟨ν,vs,ids,h⟩:=h;exact⟨ν,vs,ids,⟨⟨h.nd,h.dom,h.pv,h.cell,λt=>by have:=h.env t;rw[zs4 a] at this;exact this,h.one⟩,h.live,h.livec,h.keep⟩⟩
theorem zce{es:List ESh}{k:Nat}{e:Ent C}(h:zgw C es k=E e):(∃T,e = .row T ⟨[],I⟩)\/∃T,e = .orow T ⟨[],I⟩ .all:=by
 unfold zgw at h;grind
theorem znu{T:Nat}{sub:Nat->Value}{g:Own}:hpl C T sub ⟨[],I⟩ g=⟨[],I⟩:=by simp[hpl]
theorem AbsL.pvEq{PV':List Priv}(h:AbsL κ S ν vs ids L b Z PV)(e:PV=PV'):AbsL κ S ν vs ids L b Z PV':=e ▸ h
theorem AbsL.addRow (h:AbsL κ S ν vs ids L b Z PV) {id:Nat}{e:Ent C}(he:(∃T,e = .row T ⟨[],I⟩)\/∃T,e = .orow T ⟨[],I⟩ .all) (h0:S.heap id=F) (h64:κ.m<=id) :
    ∃ν' pv,AbsL κ {S with heap:=upd S.heap id (E e)} ν' (upd vs id []) (id::ids) L b Z (pv::PV)/\ν'.hdr id = .slice F 0 0/\(∀j,(S.heap j).isSome=G->ν.hdr j=ν'.hdr j/\ν.adr j=ν'.adr j)/\∀{w0:Start} {σ0:FS} {w:World},Inv w0 σ0 Z PV w->Inv w0 σ0 Z (pv::PV) w:=by
 let ν':Val:={hdr:=upd ν.hdr id (.slice F 0 0),adr:=upd ν.adr id default}
 have hec:∀cs,e ≠.cell cs:=λcs ee=>by grind
 have hvs:zK C ν' (upd vs id []) id (E e)=zK C ν' (upd vs id []) id (E e):=rfl;have hne:∀j,(S.heap j).isSome=G->j≠id:=λj hj e=>by grind
 have hag:∀j,(S.heap j).isSome=G->ν.hdr j=ν'.hdr j/\ν.adr j=ν'.adr j:=λj hj=>⟨(zq (hne j hj)).symm,(zq (hne j hj)).symm⟩
 have hlv:∀j,(S.heap j).isSome=G->(upd S.heap id (E e) j).isSome=true:=λj hj=>by rw[zq (hne j hj)];exact hj
 have hid:id ∉ ids:=λhm=>by have:=(h.dom id).1 hm;grind
 refine⟨ν',zK C ν' (upd vs id []) id (E e),⟨⟨UE.2 ⟨hid,h.nd⟩,λj=>?_,?_,λj cs hj=>?_,λt=>(h.env t).congr hag (h.live t),λi=>?_⟩,λt=>AV.ok_mono hlv (h.live t),λj cs hj=>?_,λk hk hs=>?_⟩,zp,hag,λ{w0 σ0 w} hi=>?_⟩
 · by_cases e':j=id
   ·subst e';show _↔(upd S.heap j (E e) j).isSome=G;rw[zp];simp
   ·show _↔(upd S.heap id (E e) j).isSome=G;rw[zq e',Db,h.dom];grind
 · rw[UF,h.pv];refine qs.2 ⟨?_,D0 λj hj=>?_⟩
   ·show _=zK C ν' _ id (upd S.heap id (E e) id);rw[zp]
   · have hj':=hne j ((h.dom j).1 hj);show zK C ν vs j (S.heap j)=zK C ν' (upd vs id []) j (upd S.heap id (E e) j);rw[zq hj'];cases S.heap j with
     |none=>rfl
     |some en=>cases en<;>simp[zK,ν',zq hj']
 · by_cases e':j=id
   ·subst e';have hj:upd S.heap j (E e) j=_:=hj;rw[zp] at hj;grind
   ·have hj:upd S.heap id (E e) j=_:=hj;rw[zq e'] at hj;show VRs C Z ν' (upd vs id [] j) cs;rw[zq e'];exact(h.cell j cs hj).congr hag (h.livec j cs hj)
 · by_cases e':i=id
   ·subst e';show(upd ν.hdr i _ i).oneCell'=G;rw[zp];rfl
   ·show(upd ν.hdr id _ i).oneCell'=G;rw[zq e'];exact h.one i
 · by_cases e':j=id
   ·subst e';have hj:upd S.heap j (E e) j=_:=hj;rw[zp] at hj;grind
   ·have hj:upd S.heap id (E e) j=_:=hj;rw[zq e'] at hj;exact AV.oks_mono hlv (h.livec j cs hj)
 · have hne':k≠id:=by omega
   have hs:(upd S.heap id (E e) k).isSome=true:=hs;rw[zq hne'] at hs;have:=hag k hs;have h2:=h.keep k hk hs;refine⟨this.1.symm.trans h2.1,(congrArg Loc.a this.2).symm.trans h2.2.1,λhf=>(congrArg Loc.sub this.2).symm.trans (h2.2.2 ?_)⟩;have hf:Z0 (upd S.heap id (E e) k)=true:=hf;rw[zq hne'] at hf;exact hf
 · refine hi.sub_own λgg k =>.cons (h1:=zc.none) ?_ k (zc.none_le _) (.refl _) (zc.none_disj _)
   rcases he with⟨T,rfl⟩ | ⟨T,rfl⟩
   ·show(Priv.row (zB C T).o T (upd ν.hdr id (.slice F 0 0) id) ⟨[],I⟩).holds Z zc.none;rw[zp];exact .inl ⟨rfl,rfl⟩
   ·show(Priv.row (Zd C T) T (upd ν.hdr id (.slice F 0 0) id) (hpl C T _ ⟨[],I⟩ .all)).holds Z zc.none;rw[zp];exact .inl ⟨rfl,znu⟩
omit [Dfr] in
theorem VRs.set{ν:Val}:∀{vs:List Value}{cs:List (AV C.D)}{p:Nat}{A:AV C.D},VRs C Z ν vs cs->(∀v,vs[p]?=E v->VR C Z ν v A)->VRs C Z ν vs (cs.set p A)
 |[],[],p,A,h,k=>h
 |v::vs,c::cs,0,A,h,k=>⟨k v rfl,h.2⟩
 |v::vs,c::cs,p+1,A,h,k=>⟨h.1,VRs.set h.2 λu a=>k u (by simpa using a)⟩
 |[],_::_,p,A,h,k=>h.elim
 |_::_,[],p,A,h,k=>h.elim
theorem zhR{D:Nat->Type}{q:Nat->Prop}{A:AV D}(hA:A.ok q):∀{cs:List (AV D)}{p:Nat},AV.oks q cs->AV.oks q (cs.set p A)
 |[],p,h=>h
 |c::cs,0,h=>⟨hA,h.2⟩
 |c::cs,p+1,h=>⟨h.1,zhR hA h.2⟩
theorem zrA{es:List ESh}{t:Nat}{w:World}{s:Sh}{p:Nat}{S:St C}{PV:List Priv}(h:zC κ S L b Z PV)(hi:Inv w0 σ0 Z PV w):∃PV',Inv w0 σ0 Z PV' w/\zC κ (nilA1 es t s p S) L b Z PV':=by
 unfold nilA1;split
 ·rename_i k cs r;split
  ·rename_i Q hp R;cases h0:isNone (S.heap (1048576+k)) with
   |false=>grind
   |true=>
    simp only[Dy];let⟨ν,vs,ids,h⟩:=h;let⟨ν',pv,a,N,e2,K⟩:=h.addRow (zce R) (Ze h0) (by have:=κ.le;omega);refine⟨pv::PV,K hi,ν',_,_,⟨a.nd,a.dom,a.pv,a.cell,λt'=>?_,a.one⟩,λt'=>?_,a.livec,a.keep⟩
    ·have c:=a.env t';show VR C Z ν' (look L b t') (upd S.env t _ t');by_cases e:t'=t
     ·subst e;rw[zp];have c:VR C Z ν' (look L b t') (S.env t'):=c;rw[r] at c;let⟨us,hu,D⟩:=c;refine⟨us,hu,D.set λv c=>?_⟩;let⟨u,l,m⟩:=D.get p .nils hp;have e:=V.inj (l.symm.trans c);rw[<- e];show u=ν'.hdr _;rw[N];exact m
     ·rw[zq e];exact c
    ·have f:=a.live t';show(upd S.env t _ t').ok _;by_cases e:t'=t
     ·subst e;rw[zp];have f:(S.env t').ok _:=f;rw[r] at f
      exact zhR (by
       show((upd S.heap (1048576+k) (E Q)) (1048576+k)).isSome=G
       rw[zp];rfl) f
     ·rw[zq e];exact f
  grind
 grind
theorem zla{es:List ESh}{t:Nat}{w:World}:∀(l:List Sh) (p:Nat) {S:St C}{PV:List Priv},zC κ S L b Z PV->Inv w0 σ0 Z PV w->∃PV',Inv w0 σ0 Z PV' w/\zC κ (nilA es t l p S) L b Z PV'
 |[],_,S,PV,h,hi=>⟨PV,hi,h⟩
 |s::l,p,S,PV,h,hi=>by
  obtain⟨c,a,h1⟩:=zrA (es:=es) (t:=t) (s:=s) (p:=p) h hi;exact zla l _ h1 a
theorem wJ{es:List ESh}{w:World}:∀(ts:List (Nat×Sh)) {S:St C}{PV:List Priv},zC κ S L b Z PV->Inv w0 σ0 Z PV w->∃PV',Inv w0 σ0 Z PV' w/\zC κ (nilT es ts S) L b Z PV'
 |[],S,PV,h,hi=>⟨PV,hi,h⟩
 |(t,s)::ts,S,PV,h,hi=>by
  unfold nilT;split
  ·rename_i k e;split
   ·rename_i en hT;cases h0:isNone (S.heap (1048576+k)) with
    |false=>simp only[U8];exact wJ ts h hi
    |true=>
     simp only[Dy];let⟨ν,vs,ids,h⟩:=h;have hv:=h.env t;rw[e] at hv;have hv:look L b t = .slice F 0 0:=hv;rcases zce hT with⟨T,rfl⟩ | ⟨T,rfl⟩
     ·refine wJ (PV :=.row (zB C T).o T (.slice F 0 0) ⟨[],I⟩::PV) ts ?_ (hi.sub_own λgg k =>.cons (h1:=zc.none) (.inl ⟨rfl,rfl⟩) k (zc.none_le _) (.refl _) (zc.none_disj _));exact(h.newRow (d:=t) (s:=⟨[],I⟩) (Ze h0) (by have:=κ.le;omega) (v :=.slice F 0 0) rfl).unput hv
     ·refine wJ (PV :=.row (Zd C T) T (.slice F 0 0) (hpl C T (default:Loc).sub ⟨[],I⟩ .all)::PV) ts ?_ (hi.sub_own λgg k =>.cons (h1:=zc.none) (.inl ⟨rfl,znu⟩) k (zc.none_le _) (.refl _) (zc.none_disj _));exact(h.new (d:=t) (e :=.orow T ⟨[],I⟩ .all) (v :=.slice F 0 0) (a:=default) (us:=[]) (A :=.row (1048576+k)) (Ze h0) (by have:=κ.le;omega) (λν' h1 h2=>⟨by show _=ν'.hdr _;rw[h1];rfl,by show _=_;rfl⟩) rfl rfl (λcs hc=>by cases hc) rfl).unput hv
   ·exact wJ ts h hi
  ·obtain⟨PV',hi',h'⟩:=zla (es:=es) (t:=t) _ 0 h hi;exact wJ ts h' hi'
  ·exact wJ ts h hi
theorem zs5{es:List ESh}{id:Nat}{w:World}{s:Sh}{p:Nat}{S:St C}{PV:List Priv}(h:zC κ S L b Z PV)(hi:Inv w0 σ0 Z PV w):∃PV',Inv w0 σ0 Z PV' w/\zC κ (nil1 es id s p S) L b Z PV':=by
 unfold nil1;split
 ·rename_i k cs K;split
  ·rename_i en hp hT;cases h0:isNone (S.heap (1048576+k)) with
   |false=>grind
   |true=>
    simp only[Dy];let⟨ν,vs,ids,h⟩:=h;have Q:id≠1048576+k:=λe=>by rw[e,Ze h0] at K;cases K
    let⟨ν',pv,D,e1,e2,e3⟩:=h.addRow (zce hT) (Ze h0) (by have:=κ.le;omega);have a:(upd S.heap (1048576+k) (E en)) id=E (.cell cs):=by rw[zq Q];exact K
    have R:id∈ids:=(h.dom id).2 (by rw[K];rfl);let⟨m,hm⟩:=List.mem_iff_getElem?.1 R;have r:=D.cell id cs a;have N:=D.livec id cs a;have f:((1048576+k)::ids)[m+1]?=E id:=by simpa using hm
    have hs:=D.setCell (m:=m+1) (cs':=cs.set p (.row (1048576+k))) (us:=upd vs (1048576+k) [] id) a f (r.set λv hv=>by
     let⟨u,hu1,hu2⟩:=r.get p .nils hp;have e:=V.inj (hu1.symm.trans hv);rw[<- e];show u=ν'.hdr _
     rw[e1];exact hu2) (zhR (by
      show((upd S.heap (1048576+k) (E en)) (1048576+k)).isSome=G
      rw[zp];rfl) N)
    refine⟨pv::PV,e3 hi,_,_,_,hs.pvEq ?_⟩;have hpv:=D.pv;refine UH λj=>?_
    rw[UI];by_cases e:m+1=j
    ·subst e;have c:=congrArg (λl=>l[m+1]?) hpv;simp only[UA,f,UB] at c;rw[jv rfl,c,jv (UC.1 c).1];rw[a];rfl
    grind
  grind
 grind
theorem zlb{es:List ESh}{id:Nat}{w:World}:∀(l:List Sh) (p:Nat) {S:St C}{PV:List Priv},zC κ S L b Z PV->Inv w0 σ0 Z PV w->∃PV',Inv w0 σ0 Z PV' w/\zC κ (nilC es id l p S) L b Z PV'
 |[],p,S,PV,h,hi=>⟨PV,hi,h⟩
 |s::l,p,S,PV,h,hi=>by
  obtain⟨c,a,h1⟩:=zs5 (es:=es) (id:=id) (s:=s) (p:=p) h hi;exact zlb l _ h1 a
theorem zlc{all:List ESh}{bl:Bl}{w:World}:∀(es:List ESh) (k:Nat) {S:St C}{PV:List Priv},zC κ S L b Z PV->Inv w0 σ0 Z PV w->∃PV',Inv w0 σ0 Z PV' w/\zC κ (nilE all bl es k S) L b Z PV'
 |[],k,S,PV,h,hi=>⟨PV,hi,h⟩
 |e::es,k,S,PV,h,hi=>by
  have:∃PV',Inv w0 σ0 Z PV' w/\zC κ (zgx all bl e k S) L b Z PV':=by
   unfold zgx;split
   ·exact zlb _ 0 h hi
   grind
  let⟨c,a,h1⟩:=this;exact zlc es _ h1 a
theorem zcf{g:Sig}{m:Nat}(h:zC κ S L b Z PV){w:World}(hi:Inv w0 σ0 Z PV w):∃l PV',Inv w0 σ0 l PV' w/\zC κ (g.prep m S) L b l PV':=by
 obtain⟨D,N,f,h1⟩:=zeb (fzT S g.ts) h hi;obtain⟨K,c,h2⟩:=wJ (es:=g.es) g.ts h1 f;obtain⟨r,a,Q⟩:=zlc (all:=g.es) g.es 0 h2 c;exact zeb _ Q a
theorem zs6{bl:Bl}{e:ESh}{k:Nat}{w:World}{S:St C}{PV:List Priv}(h:zC κ S L b Z PV)(hi:Inv w0 σ0 Z PV w):∃PV',Inv w0 σ0 Z PV' w/\zC κ (zs2 bl e k S) L b Z PV':=by
 unfold zs2;split
 ·rename_i id _;split
  ·rename_i T s hs;cases m:O (C.nst T) (C.size T) with
   |false=>grind
   |true=>
    simp only[Dy];let⟨ν,vs,ids,h⟩:=h;let⟨f,l,h1,a⟩:=h.front1 (w0:=w0) (σ0:=σ0) hs;let⟨sub,c⟩:=znq (Da ▸ m) (a w hi);exact⟨_,c,_,_,_,h1.setO hs rfl⟩
  grind
 grind
theorem zld{bl:Bl}{w:World}:∀(es:List ESh) (k:Nat) {S:St C}{PV:List Priv},zC κ S L b Z PV->Inv w0 σ0 Z PV w->∃PV',Inv w0 σ0 Z PV' w/\zC κ (zs3 bl es k S) L b Z PV'
 |[],k,S,PV,h,hi=>⟨PV,hi,h⟩
 |e::es,k,S,PV,h,hi=>by
  let⟨c,a,h1⟩:=zs6 (bl:=bl) (e:=e) (k:=k) h hi;exact zld es _ h1 a
theorem zdF{g:Sig}{x:g.ty C}(N:g.close κ.m S=E x)(h:zC κ S L b Z PV){w:World}(hi:Inv w0 σ0 Z PV w):∃D PV',Inv w0 σ0 D PV' w/\zC κ (g.open x) L b D PV':=by
 let⟨f,K,c,h0⟩:=zcf (g:=g) (m:=κ.m) h hi;let⟨Q,l,ν,vs,ids,h1⟩:=zld (bl:=ZA g κ.m (g.prep κ.m S)) g.es 0 h0 c;let⟨ν',r,a,PV',h2,R⟩:=h1.rename (w0:=w0) (σ0:=σ0) N;exact⟨f,PV',R w l,ν',r,a,h2⟩
end
inductive XE(C:Cod) where
 |normal
 |exit (i:Nat)
 |ret
 |pan (v:AV C.D)
inductive XK where
 |normal
 |exit (i:Nat)
 |ret
 |pan (s:Sh)
inductive Hint where
 |loop (g:Sig) (outs:List (XK×Sig))
 |cut (outs:List (XK×Sig))
 |draw (ord:List (Nat×Bool)) (outs:List (XK×Sig))
def XK.shs:XK->Sig->List Sh
 | .pan s,g=>s::g.shs
 |_,g=>g.shs
abbrev XK.ty(C:Cod)(k:XK)(g:Sig):Type:=Sh.tys C (k.shs g)
def XK.is{C:Cod}:XK->XE C->Bool
 | .normal,.normal=>G
 | .exit i,.exit j=>M i j
 | .ret,.ret=>G
 | .pan _,.pan _=>G
 |_,_=>I
def zh(C:Cod):List (XK×Sig)->Type
 |[]=>Empty
 |[o]=>XK.ty C o.1 o.2
 |o::a::r=>XK.ty C o.1 o.2⊕zh C (a::r)
section
variable {C:Cod}
def zgy(m:Nat)(k:XK)(g:Sig)(e:XE C)(S:St C):U3 (XK.ty C k g):=match k,e with
 | .pan s,.pan v=>(Sh.get (λ_=>F) s v).bind λy=>(g.close m S).bind λx=>E (Sh.pk (s:=s) (l:=g.shs) y x)
 | .normal,.normal=>g.close m S
 | .exit i,.exit j=>chk (M i j) (g.close m S)
 | .ret,.ret=>g.close m S
 |_,_=>F
def Yj{α:Type}(k:XK)(g:Sig)(y:XK.ty C k g)(K:XE C->St C->α):α:=match k,y with
 | .pan s,y=>K (.pan (Sh.put (λk=>k) s (Sh.hd (s:=s) (l:=g.shs) y))) (g.open (Sh.tl (s:=s) (l:=g.shs) y))
 | .normal,y=>K .normal (g.open y)
 | .exit i,y=>K (.exit i) (g.open y)
 | .ret,y=>K .ret (g.open y)
def zU(m:Nat):(outs:List (XK×Sig))->XE C->St C->U3 (zh C outs)
 |[],_,_=>F
 |[o],e,S=>zgy m o.1 o.2 e S
 |o :: a::r,e,S=>bif XK.is o.1 e then(match zgy m o.1 o.2 e S with
    |some y=>E (.inl y)
    |none=>(zU m (a::r) e S).map .inr) else(zU m (a::r) e S).map .inr
def zT{α:Type}:(outs:List (XK×Sig))->zh C outs->(XE C->St C->α)->α
 |[],y,_=>y.elim
 |[o],y,K=>Yj o.1 o.2 y K
 |o::c::r,y,K=>match(y:XK.ty C o.1 o.2⊕zh C (c::r)) with
  | .inl a=>Yj o.1 o.2 a K
  | .inr y=>zT (c::r) y K
end
abbrev yR(C:Cod):=Oper->St C->(ρ:Type)->(Out C->U3 ρ)->U3 ρ
abbrev YD(C:Cod):=Array Oper->List (Nat×Bool)->(ρ:Type)->St C->(XE C->St C->U3 ρ)->U3 ρ
abbrev ZW:=∀{s β:Type},(s->U3 (Step s β))->s->U3 β
def xT:Code->Nat
 | .seq a b=>xT a+xT b+1
 | .cond _ a b=>xT a+xT b+1
 | .block _ a=>xT a+1
 | .loop a=>xT a+1
 | .scope a=>xT a+1
 |_=>1
section
variable {C:Cod}{ρ:Type}
def ZJ(stp:yR C)(n:Nat)(ops:Array Oper):List Oper->St C->(XE C->St C->U3 ρ)->U3 ρ
 |[],S,K=>K .normal S
 |o::r,S,K=>match o.guard with
  |none=>stp o S _ λout=>match out with
   | .go S'=>ZJ stp n ops r S' K
   | .pan v S'=>K (.pan v) S'
  |some (j,a)=>match(ops[j]?).bind (·.dst) with
   |none=>F
   |some c=>match S.env c with
    | .bool q=>if q=G then go o r (S.put c (.bool G)) a K (λS K=>ZJ stp n ops r S K) else go o r (S.put c (.bool I)) (!a) K (λS K=>ZJ stp n ops r S K)
    | .tup []=>skip o S K (λS K=>ZJ stp n ops r S K)
    |_=>F
where
 skip (o:Oper) (S:St C) (K:XE C->St C->U3 ρ) (next:St C->(XE C->St C->U3 ρ)->U3 ρ):U3 ρ:=match o.dst with
  |some d=>chk (O d n) (next (S.put d (.tup [])) K)
  |none=>next S K
 go (o:Oper) (r:List Oper) (S:St C) (run:Bool) (K:XE C->St C->U3 ρ) (next:St C->(XE C->St C->U3 ρ)->U3 ρ):U3 ρ:=
  bif run then stp o S _ λout=>match out with
   | .go S'=>next S' K
   | .pan v S'=>K (.pan v) S'
  else skip o S K next
def ZD{C:Cod}(stp:yR C)(f:YD C)(h:ZW)(n m:Nat)(hs:Nat->U3 Hint):Code->Nat->(ρ:Type)->St C->(XE C->St C->U3 ρ)->U3 ρ
 | .skip,i,_,S,K=>wrap i S K λ_ S K=>K .normal S
 | .ret,i,_,S,K=>wrap i S K λ_ S K=>K .ret S
 | .exit j,i,_,S,K=>wrap i S K λ_ S K=>K (.exit j) S
 | .seq a b,i,_,S,K=>wrap i S K λ_ S K=>ZD stp f h n m hs a (i+1) _ S λe S'=>match e with
  | .normal=>ZD stp f h n m hs b (i+1+xT a) _ S' K
  |e=>K e S'
 | .cond c a b,i,_,S,K=>wrap i S K λ_ S K=>match S.op c with
  | .bool q=>if q=G then ZD stp f h n m hs a (i+1) _ S K else ZD stp f h n m hs b (i+1+xT a) _ S K
  |_=>F
 | .block j a,i,_,S,K=>wrap i S K λ_ S K=>ZD stp f h n m hs a (i+1) _ S λe S'=>match e with
  | .exit l=>bif M l j then K .normal S' else K (.exit l) S'
  |e=>K e S'
 | .loop a,i,_,S,K=>match hs i with
  |some (.loop g outs)=>(g.close m S).bind λr=>
      (h (λx=>ZD stp f h n m hs a (i+1) _ (g.open x) λe S'=>match e with
        | .normal=>(g.close m S').bind λw=>E (Step.next w)
        |e=>(zU m outs e S').bind λy=>E (Step.done y)) r).bind λy=>zT outs y K
  |_=>F
 | .scope a,i,_,S,K=>wrap i S K λ_ S K=>ZD stp f h n m hs a (i+1) _ S K
 | .label _,i,_,S,K=>wrap i S K λ_ S K=>K .normal S
 | .region _ ops I,i,_,S,K=>wrap i S K λ_ S K=>ZJ stp n ops ops.toList S K
 | .region _ ops G,i,_,S,K=>match hs i with
  |some (.draw ord [])=>f ops ord _ S K
  |some (.draw ord (o::outs))=>(f ops ord _ S λe S'=>zU m (o::outs) e S').bind λy=>zT (o::outs) y K
  |_=>F
 |_,_,_,_,_=>F
where
 wrap {ρ:Type} (i:Nat) (S:St C) (K:XE C->St C->U3 ρ) (raw:(ρ:Type)->St C->(XE C->St C->U3 ρ)->U3 ρ):U3 ρ:=match hs i with
  |some (.cut outs)=>(raw _ S λe S'=>zU m outs e S').bind λy=>zT outs y K
  |_=>raw _ S K
end
variable [Dfr]
section
variable {κ:Kp}{C:Cod}{S:St C}{ν:Val}{vs:Nat->List Value}{ids:List Nat}{L:List (Nat×Value)}{b:Nat->Value}{Z:FS}{PV:List Priv}{P:Program}{ρ:Type}
variable {t t' ty:TypeId}{x y z:Operand}{d id:Nat}{pv:Priv}{ps:String}{af:Array Edge}{g:U3 (Nat×Bool)}{A:AV C.D}{n:Nat}{w0:Start}{σ0:FS}{o:Oper}{X:U3 (Out C)}
def Wm{α:Type}(S:St C)(a id T:Nat)(i:Int)(gid:Nat)(K:St C->U3 α):U3 α:=match S.heap id with
 |some (.orow T' s .all)=>chk (M T T' && isNone (S.heap gid)) ((za s i).bind λq=>match Zn C T' q with
  | .sl U u _=>K {env:=upd S.env a (.row gid),heap:=upd (upd S.heap id (E (.orow T' s (.out i)))) gid (E (.row U u))}
  |_=>F)
 |_=>F
theorem zoO{α β:Type}{a id T:Nat}{i:Int}{gid:Nat}{K:St C->U3 α}{k:α->U3 β}:(Wm S a id T i gid K).bind k=Wm S a id T i gid λS'=>(K S').bind k:=by
 unfold Wm;split
 ·rw[zx,gh];grind
 ·rfl
theorem zs7 {α:Type}(h:AbsL κ S ν vs ids L b Z PV) {f id T:Nat}{i:Int}{gid:Nat}{K:St C->U3 α}{r:α}(he:S.env f = .nx id T i .whole) (h64:κ.m<=gid) (a:Wm S f id T i gid K=E r) :
    ∃S1 l,K S1=E r/\zC κ S1 L b Z l/\∀w,Inv w0 σ0 Z PV w->Inv w0 σ0 Z l w:=by
 unfold Wm at a;split at a
 · rename_i T' s hs;let⟨Q,a⟩:=zb a;simp only[gf] at Q;obtain rfl:=ge Q.1;have h0:=Ze Q.2;let⟨q,hq,a⟩:=gd a;split at a
   · rename_i U u c hu;have N:=h.env f;rw[he] at N;have hv1:look L b f=(ν.adr id).sub i.toNat:=N.1;have hv2:(look L b f).oneCell'=true:=N.2;have R:gid≠id:=λe=>jE
     let⟨ids',PV',hf,D⟩:=h.front1 (w0:=w0) (σ0:=σ0) hs;have h1:=hf.setO0 (e' :=.orow T s (.out i)) hs (λcs e=>by cases e);have h2:=h1.newRow (d:=f) (id:=gid) (T:=U) (s:=u) (v:=(ν.adr id).sub i.toNat) (by show upd S.heap id _ gid=F;rw[zq R];exact h0) h64 jE;refine⟨_,_,a,h2.unput hv1,λw hi=>(D w hi).sub_own λgg kk=>?_⟩;let⟨f1,f2,m1,m2,n1,n2,dd⟩:=kk.uncons;exact Sep.append (A:=[_,_]) (zca (m1:zn (Zd C T) T (ν.hdr id) (hpl C T (ν.adr id).sub s .all) Z f1) hq hu) m2 n1 n2 dd
   ·cases a
 ·cases a
theorem OpA.via{S1:St C}{a:List Priv}(hA:zC κ S1 L b Z a)(hi:∀w,Inv w0 σ0 Z PV w->Inv w0 σ0 Z a w)(k:∀ν vs ids,AbsL κ S1 ν vs ids L b Z a->OpA κ P n w0 σ0 o X L b Z a):OpA κ P n w0 σ0 o X L b Z PV:=by
 let⟨ν,vs,ids,h⟩:=hA;exact OpA.pv hi (k ν vs ids h)
def Wn(P:Program)(S:St C)(d:Nat)(t:TypeId)(x y:Operand):U3 (Out C):=match x with
 | .tmp a=>(match S.env a with
  | .nx id T i .whole=>Wm S a id T i (nid d 1) λS1=>Yc P S1 d t x y
  |_=>F)
 |_=>F
theorem zrB(h:AbsL κ S ν vs ids L b Z PV)(l:O d n=G):OpA κ P n w0 σ0 ⟨E d,.call {callee :=.builtin .append,args:= #[x,y],argTypes:= #[t,t]},ty,ps,af,g⟩ (Wn P S d t x y) L b Z PV:=by
 intro out a;unfold Wn at a;split at a
 ·rename_i r;split at a
  ·rename_i id T i f;let⟨S1,c,h1,h2,m⟩:=zs7 (w0:=w0) (σ0:=σ0) h f (yQ κ d 1) a;exact OpA.via h2 m (λν vs ids h=>ze0 h l) out h1
  ·cases a
 ·cases a
theorem AbsL.newO (h:AbsL κ S ν vs ids L b Z PV) {id T:Nat}(h0:S.heap id=F) (h64:κ.m<=id) {s:Sl (C.D T)}{gw:Own}{v:Value}{sub:Nat->Value}(c:v.oneCell'=G) :
    zC κ {env:=upd S.env d (.row id),heap:=upd S.heap id (E (.orow T s gw))} ((d,v)::L) b Z (.row (Zd C T) T v (hpl C T sub s gw)::PV):=
 h.new h0 h64 (e :=.orow T s gw) (v:=v) (a:=⟨default,sub⟩) (us:=[]) (A :=.row id) (λν' h1 h2=>⟨by show v=ν'.hdr id;rw[h1];rfl,by show id=id;rfl⟩) c rfl (λcs f=>by cases f) rfl
theorem Wo{α:Type}{T:OTy α}{e:TypeId}{s:Sl α}{v:Value}{PV:List Priv}{w:World}(hi:Inv w0 σ0 Z (.row T e v s::PV) w):v.oneCell'=true:=by
 let⟨f,a,_⟩:=hi.held.get (m:=0) rfl;obtain⟨q,c,rfl,_⟩:=zn.form a;rfl
def XG(P:Program)(S:St C)(d:Nat)(t:TypeId)(y:Operand)(K:Out C->U3 ρ):U3 ρ:=match P.underlying t with
 |some (.slice e)=>(match P.info? e with
  |some ti=>(match ti.zero with
   |some a=>chk (M ti.size (C.size e) && (O 0 (C.size e) && (W (C.size e) 16777216 && (isNone (S.heap (nid d 0)) && (YU (S.op y) && M (zt (S.op y)).length (C.size e))))))
    (match(zt (S.op y))[C.nst e]? with
    |some (.row id2)=>(match S.heap id2 with
     |some (.row U u)=>(C.imp e ((zt (S.op y)).set (C.nst e) (.sl U u I))).bind λq=>K (.go {env:=upd (S.sub id2 .und).env d (.row (nid d 0)),heap:=upd (S.sub id2 .und).heap (nid d 0) (E (.orow e ⟨[q],G⟩ .all))})
     |_=>F)
    |_=>F)
   |none=>F)
  |none=>F)
 |_=>F
def xU(P:Program)(S:St C)(d:Nat)(t:TypeId)(y:Operand):U3 (Out C):=XG P S d t y E
theorem zle{K:Out C->U3 ρ}:XG P S d t y K=(xU P S d t y).bind K:=by
 unfold xU XG;split
 ·split
  ·split
   ·rw[zx];congr 1;grind
   ·rfl
  ·rfl
 ·rfl
theorem zs8 {T U:Nat}{gA:zc}{us:List Value}{q:C.D T}{v:Value}{cells:List (AV C.D)}{u:Sl (C.D U)}(c:VRs C Z ν us cells) (f:∀u∈us,u.oneCell'=G) (Q:us.length=C.size T)
    (m:C.imp T (cells.set (C.nst T) (.sl U u I))=E q) (K:us[C.nst T]?=E v) (a:zn (zB C U).o U v u Z gA):Yb C T Z gA us (q,1,v):=by
 have r:=c.len;have R:=(UC.1 K).1;refine⟨Q,f,λj A l hn=>?_,K,λe=>(by cases e),λ_=>⟨U,u,?_,a⟩⟩
 ·let⟨B,h,e2⟩:=zcb (C.imp_ok T _ q m) l;rw[UI,jx (λe=>hn e.symm)] at h;let⟨w,k1,N⟩:=c.get _ _ h;exact⟨w,k1,(zf9 N e2).rv (C.base T q A (UT l))⟩
 ·show Zn C T q=_;unfold Zn;rw[zdD m (j:=C.nst T) (A :=.sl U u I) jE rfl];rfl
theorem zmZ(h:AbsL κ S ν vs ids L b Z PV)(hn:O d n=G){c:Array (Nat×Operand)}(hp:c.toList=[(0,y)]):OpA κ P n w0 σ0 ⟨E d,.buildSlice t 1 c,ty,ps,af,g⟩ (xU P S d t y) L b Z PV:=by
 intro out f;unfold xU XG at f;split at f
 ·rename_i e hu;split at f
  ·rename_i ti hi;split at f
   ·rename_i zv hz;let⟨hc,a⟩:=zb f;simp only[gf] at hc;let⟨c1,c2,c3,c4,c5,c6⟩:=hc;have h0:=Ze c4;have c6:=ge c6;split at a
    ·rename_i id2 K;split at a
     ·rename_i U u h2;let⟨q,hq,hX3⟩:=gd a;let⟨l,N⟩:=ZE (h.op y) c5 h.one;have hlen:=l.len;let⟨v2,hv1,D⟩:=l.get _ _ K;have D:v2=ν.hdr id2:=D;subst D;let⟨ids',PV',hf,hinv⟩:=h.front1 (w0:=w0) (σ0:=σ0) h2;refine OpA.pv hinv ?_ out hX3;refine OpA.of2 (vM (T:=Zd C e) (vs:=[opv L b y]) (xs:=[(q,1,ν.hdr id2)]) [.row (zB C U).o U (ν.hdr id2) u] PV' hn hu hi hz (ge c1) (by rw[Nat.one_mul];exact c3) c2 (by rw[hp];rfl) rfl (λhh sA=>?_) λv Q r hr=>⟨_,(V.inj hr).symm,?_⟩)
      ·refine⟨hh,.refl _,?_,rfl,λw Q=>?_⟩
       ·have hr:=zs8 (T:=e) l N (by rw[hlen,c6]) hq hv1 (sA.one_of:zn (zB C U).o U (ν.hdr id2) u Z hh);have:Yh [opv L b y]=(opv L b y).cells.toList:=by simp[Yh]
        rw[this];exact OTy.rels_single (T:=Zd C e) hr
       ·rw[Dz.1 Q];show(opv L b y).cells.size=C.size e;grind
      ·let⟨w,Q⟩:=Q;have h1:=hf.sub (id:=id2) (m:=0) (R :=.und) rfl (FS.le.refl Z) trivial trivial rfl
       exact AbsL.newO (S:=S.sub id2 .und) (T:=e) (s:=⟨[q],G⟩) (gw :=.all) (sub:=λ_=>ν.hdr id2) h1 (by
        show(bif M (nid d 0) id2 then F else(S.heap (nid d 0)).map _)=F
        grind) (yQ κ d 0) (Wo Q)
     ·cases a
    ·cases a
   ·cases f
  ·cases f
 ·cases f
theorem zwW{T:Nat}{s1 f:Sl (C.D T)}{sub1 sub2:Nat->Value}{nn:Bool}:(⟨(hpl C T sub1 s1 .all).xs++(hpl C T sub2 f .all).xs,nn⟩:Sl (C.D T×Nat×Value))=hpl C T (λj=>if j < s1.xs.length then sub1 j else sub2 (j - s1.xs.length)) ⟨s1.xs++f.xs,nn⟩ .all:=by
 unfold hpl;congr 1;apply UH;intro j;rw[Du];by_cases c:j < s1.xs.length
 ·rw[De (by simpa using c),De c,Du];grind
 ·rw[Dd (by simpa using c),Dd Zc,Du];simp only[List.length_mapIdx];cases f.xs[j - s1.xs.length]? with
  |none=>rfl
  |some a=>simp[c,Own.fl]
theorem zlf{T a:Nat}{s1 c s':Sl (C.D T)}{sub1 sub2:Nat->Value}(h:zo a s1 c.xs=E s'):∃sub,zo a (hpl C T sub1 s1 .all) (hpl C T sub2 c .all).xs=E (hpl C T sub s' .all):=by
 obtain⟨h1,h2,rfl⟩:=zin h;refine⟨λj=>if j < s1.xs.length then sub1 j else sub2 (j - s1.xs.length),?_⟩;unfold zo;rw[jv (by simp only[WM];grind)];rw[show(hpl C T sub1 s1 .all).nn=s1.nn from rfl,show(hpl C T sub2 c .all).xs.isEmpty=c.xs.isEmpty by cases h:c.xs<;>simp[hpl,h]];rw[zwW]
def W3(P:Program)(S:St C)(d:Nat)(t:TypeId)(x y:Operand)(K:Out C->U3 ρ):U3 ρ:=match P.underlying t with
 |some (.slice e)=>(match P.info? e with
  |some ti=>(match ti.zero with
   |some c=>chk (M ti.size (C.size e) && (O 0 (C.size e) && (M c.cells.size (C.size e) && isNone (S.heap (nid d 0)))))
    (match S.op y with
    | .row id2=>(match S.heap id2 with
     |some (.orow f a .all)=>(match S.op x with
      | .row id=>(match S.heap id with
       |some (.orow T s .all)=>chk (M T e && !M id id2) ((wu a).bind λts=>(zo ti.bytes s ts).bind λs'=>K (.go {env:=upd ((S.sub id .und).sub id2 .und).env d (.row (nid d 0)),heap:=upd ((S.sub id .und).sub id2 .und).heap (nid d 0) (E (.orow T s' .all))}))
       |_=>F)
      | .nils=>(wu (T:=e) a).bind λts=>(zo ti.bytes ⟨[],I⟩ ts).bind λs'=>K (.go {env:=upd (S.sub id2 .und).env d (.row (nid d 0)),heap:=upd (S.sub id2 .und).heap (nid d 0) (E (.orow e s' .all))})
      |_=>F)
     |_=>F)
    |_=>F)
   |none=>F)
  |none=>F)
 |_=>F
def Wr(P:Program)(S:St C)(d:Nat)(t:TypeId)(x y:Operand):U3 (Out C):=W3 P S d t x y E
theorem zoP{K:Out C->U3 ρ}:W3 P S d t x y K=(Wr P S d t x y).bind K:=by
 unfold Wr W3;split
 ·split
  ·split
   ·rw[zx];congr 1;split
    ·split
     ·split
      ·split
       ·simp only[zx,gh,jj]
       ·rfl
      all_goals grind
     ·rfl
    ·rfl
   ·rfl
  ·rfl
 ·rfl
theorem zfB{id j:Nat}{R:AV C.D}(h:S.heap j=F):(S.sub id R).heap j=none:=by
 show(bif M j id then F else(S.heap j).map _)=F;grind
theorem zrC(h:AbsL κ S ν vs ids L b Z PV)(hn:O d n=G):OpA κ P n w0 σ0 ⟨E d,.call {callee :=.builtin .append,args:= #[x,y],argTypes:= #[t,t]},ty,ps,af,g⟩ (Wr P S d t x y) L b Z PV:=by
 intro out hX;unfold Wr W3 at hX;split at hX
 ·rename_i e hu;split at hX
  ·rename_i ti hi;split at hX
   ·rename_i zv hz;let⟨hc,a⟩:=zb hX;simp only[gf] at hc;let⟨c1,c2,c3,c4⟩:=hc;have h0:=Ze c4;have Q:=h.op x;have hy:=h.op y;split at a
    ·rename_i id2 ey;rw[ey] at hy;have hy:opv L b y=ν.hdr id2:=hy;split at a
     ·rename_i c s2 hs2;split at a
      ·rename_i id ex;rw[ex] at Q;have Q:opv L b x=ν.hdr id:=Q;split at a
       ·rename_i T s hs;let⟨hc2,hX3⟩:=zb a;simp only[gf] at hc2;obtain rfl:=ge hc2.1;have hne:id≠id2:=λe=>by subst e;simp at hc2
        let⟨ts,f,hX4⟩:=gd hX3;let⟨s',hs',D⟩:=gd hX4;unfold wu at f;split at f
        ·rename_i hT;subst hT;cases f;let⟨ids',PV',hf,N⟩:=h.front2 (w0:=w0) (σ0:=σ0) hne hs hs2;let⟨sub',hg⟩:=zlf (sub1:=(ν.adr id).sub) (sub2:=(ν.adr id2).sub) hs';refine OpA.pv N ?_ out D;have key:=zad (ρ:=Out C) (P:=P) (n:=n) (w0:=w0) (σ0:=σ0) (Z:=Z) (L:=L) (b:=b) (ty:=ty) (ps:=ps) (af:=af) (g:=g) (d:=d) (T:=Zd C c) (s:=hpl C c (ν.adr id).sub s .all) (ts:=(hpl C c (ν.adr id2).sub s2 .all).xs) (v:=ν.hdr id) (u:=opv L b y) (kk:=λ_=>E out) (H:=λp' L' Z' PV'=>(∃w,Inv w0 σ0 Z' PV' w)->∀r,p'=E r->∃S',r = .go S'/\zC κ S' L' b Z' PV') [.row (Zd C c) c (ν.hdr id2) (hpl C c (ν.adr id2).sub s2 .all)] PV' hn hu hi hz (ge c3) (ge c1) c2 Q rfl (λw gg K sA hgs=>by rw[hy];exact zeY w gg K sA hgs) λs'' v' l K r hr=>?_
         ·rw[hg] at key;have:=OpA.of2 key;rw[D];exact this
         ·rw[hg] at l;cases l;cases D;cases hr;let⟨w,K⟩:=K;have h1:=hf.sub (id:=id) (m:=0) (R :=.und) rfl (FS.le.refl Z) trivial trivial rfl;have h2:=AbsL.sub (S:=S.sub id .und) h1 (id:=id2) (m:=0) (R :=.und) rfl (FS.le.refl Z) trivial trivial rfl;exact⟨_,rfl,AbsL.newO (S:=(S.sub id .und).sub id2 .und) (T:=c) h2 (zfB (S:=S.sub id .und) (zfB h0)) (yQ κ d 0) (Wo K)⟩
        ·cases f
       ·cases a
      ·rename_i ex;rw[ex] at Q;have Q:opv L b x = .slice F 0 0:=Q;let⟨ts,f,hX4⟩:=gd a;let⟨s',hs',D⟩:=gd hX4;unfold wu at f;split at f
       ·rename_i hT;subst hT;cases f;let⟨ids',PV',hf,N⟩:=h.front1 (w0:=w0) (σ0:=σ0) hs2;let⟨sub',hg⟩:=zlf (s1:=⟨[],I⟩) (sub1:=(ν.adr id2).sub) (sub2:=(ν.adr id2).sub) hs';have hinv2:∀w,Inv w0 σ0 Z PV w->Inv w0 σ0 Z (.row (Zd C c) c (.slice F 0 0) (hpl C c (ν.adr id2).sub ⟨[],I⟩ .all) :: .row (Zd C c) c (ν.hdr id2) (hpl C c (ν.adr id2).sub s2 .all)::PV') w:=λw hi=>(N w hi).sub_own λgg k =>.cons (h1:=zc.none) (.inl ⟨rfl,rfl⟩) k (zc.none_le _) (.refl _) (zc.none_disj _)
        refine OpA.pv hinv2 ?_ out D;have key:=zad (ρ:=Out C) (P:=P) (n:=n) (w0:=w0) (σ0:=σ0) (Z:=Z) (L:=L) (b:=b) (ty:=ty) (ps:=ps) (af:=af) (g:=g) (d:=d) (T:=Zd C c) (s:=hpl C c (ν.adr id2).sub ⟨[],I⟩ .all) (ts:=(hpl C c (ν.adr id2).sub s2 .all).xs) (v :=.slice F 0 0) (u:=opv L b y) (kk:=λ_=>E out) (H:=λp' L' Z' PV'=>(∃w,Inv w0 σ0 Z' PV' w)->∀r,p'=E r->∃S',r = .go S'/\zC κ S' L' b Z' PV') [.row (Zd C c) c (ν.hdr id2) (hpl C c (ν.adr id2).sub s2 .all)] PV' hn hu hi hz (ge c3) (ge c1) c2 Q rfl (λw gg K sA hgs=>by rw[hy];exact zeY w gg K sA hgs) λs'' v' l K r hr=>?_
        ·rw[hg] at key;have:=OpA.of2 key;grind
        ·rw[hg] at l;cases l;cases D;cases hr;let⟨w,K⟩:=K;have h1:=hf.sub (id:=id2) (m:=0) (R :=.und) rfl (FS.le.refl Z) trivial trivial rfl;exact⟨_,rfl,AbsL.newO (S:=S.sub id2 .und) (T:=c) h1 (zfB h0) (yQ κ d 0) (Wo K)⟩
       ·cases f
      ·cases a
     ·cases a
    ·cases a
   ·cases hX
  ·cases hX
 ·cases hX
def wK(P:Program)(S:St C)(d:Nat)(t:TypeId)(x y:Operand)(K:Out C->U3 ρ):U3 ρ:=match P.underlying t with
 |some (.slice e)=>(match P.info? e with
  |some ti=>(match ti.zero,S.op x with
   |some a,.int _ i=>chk (zde x y && (M ti.size (C.size e) && (O 0 (C.size e) && isNone (S.heap (nid d 0)))))
       (match a.cells.toList[C.nst e]? with
       |some (.slice F 0 0)=>(C.imp e (a.cells.toList.map ZY)).bind λq=>(match Zn C e q with
        | .sl _ u _=>chk (M u.xs.length 0 && !u.nn) ((Z3 ti.bytes i q).bind λs=>K (.go {env:=upd S.env d (.row (nid d 0)),heap:=upd S.heap (nid d 0) (E (.orow e s .all))}))
        |_=>F)
       |_=>F)
   |_,_=>F)
  |none=>F)
 |_=>F
def XX(P:Program)(S:St C)(d:Nat)(t:TypeId)(x y:Operand):U3 (Out C):=wK P S d t x y E
theorem zm0{K:Out C->U3 ρ}:wK P S d t x y K=(XX P S d t x y).bind K:=by
 unfold XX wK;split
 ·split
  ·split
   ·rw[zx];congr 1;split
    ·rw[gh];congr 1;funext q;split
     ·simp only[zx,gh,jj]
     ·rfl
    ·rfl
   ·rfl
  ·rfl
 ·rfl
theorem zoQ(h:AbsL κ S ν vs ids L b Z PV)(hn:O d n=G):OpA κ P n w0 σ0 ⟨E d,.makeSlice t x y,ty,ps,af,g⟩ (XX P S d t x y) L b Z PV:=by
 intro out a;unfold XX wK at a;split at a
 ·rename_i e hu;split at a
  ·rename_i ti hi;split at a
   ·rename_i zv k i hz ex;have hx:=h.op x;rw[ex] at hx;let⟨hc,f⟩:=zb a;simp only[gf] at hc;let⟨c0,c1,c2,c3⟩:=hc;have h0:=Ze c3;obtain rfl:=ziw c0;split at f
    ·rename_i hzn;let⟨q,hq,D⟩:=gd f;split at D
     ·rename_i U u c m;let⟨l,hX4⟩:=zb D;simp only[gf,Dw] at l;have hu3:u=⟨[],I⟩:=by
       let⟨xs,nn⟩:=u;have h1:xs=[]:=UQ (ge l.1);have h2:nn=false:=l.2;rw[h1,h2]
      subst hu3;let⟨s,hs,hX5⟩:=gd hX4;obtain⟨g1,g2,g3,rfl⟩:=zf0 hs;have Q:∀τ:FS,Yb C e τ zc.none zv.cells.toList (q,1,.slice F 0 0):=λτ=>by
       have K:=WP (τ:=τ) (ν:=ν) (xM zv.cells.toList) hq;refine⟨K.1,(zB C e).one K,λj A hj _=>K.2 j A hj,hzn,λe=>(by cases e),λ_=>⟨U,⟨[],I⟩,?_,.inl ⟨rfl,rfl⟩⟩⟩;have hb:(Zn C e q).base=true:=by
        have hh:Zn C e q ≠.und:=by rw[m];intro e;cases e
        unfold Zn at hh |-
        cases hg:(C.emb e q)[C.nst e]? with
        |none=>rw[hg] at hh;exact absurd rfl hh
        |some A=>exact C.base e q A (UT hg)
       rw[m] at hb;have:c=false:=by simpa[AV.base] using hb
       show Zn C e q=_;rw[m,this]
      have R:Z3 ti.bytes i (q,1,Value.slice F 0 0)=E (hpl C e (λ_ =>.slice F 0 0) ⟨List.replicate i.toNat q,G⟩ .all):=by
       unfold Z3;rw[jv ⟨g1,g2,g3⟩];congr 1;unfold hpl;congr 1;apply UH;intro j;rw[Du,qD,qD];split<;>rfl
      have key:=zm5 (ρ:=Out C) (P:=P) (n:=n) (w0:=w0) (σ0:=σ0) (Z:=Z) (PV:=PV) (L:=L) (b:=b) (ty:=ty) (ps:=ps) (af:=af) (g:=g) (d:=d) (T:=Zd C e) (q:=(q,1,Value.slice F 0 0)) (kk:=λ_=>E out) (H:=λp' L' Z' PV'=>(∃w,Inv w0 σ0 Z' PV' w)->∀r,p'=E r->∃S',r = .go S'/\zC κ S' L' b Z' PV') hn hu hi hz (ge c1) c2 hx.int_inv hx.int_inv Q λs' v N hw r K=>?_
      ·rw[R] at key;have:=OpA.of2 key;exact this out rfl
      ·rw[R] at N;cases N;cases hX5;cases K;let⟨w,hw⟩:=hw;exact⟨_,rfl,h.newO h0 (yQ κ d 0) (Wo hw)⟩
     ·cases D
    ·cases f
   ·cases a
  ·cases a
 ·cases a
end
variable [Dfr]
section
variable {ρ:Type}{n:Nat}{w0:Start}{σ0 Z:FS}{p:U3 ρ}{L:List (Nat×Value)}{b:Nat->Value}{PV PV':List Priv}{P:Program}
variable {H:U3 ρ->List (Nat×Value)->FS->List Priv->Prop}{d:Nat}{v:Value}{t ty:TypeId}{ps:String}{af:Array Edge}{g:U3 (Nat×Bool)}{x:Operand}
theorem zrD {α:Type}{T:Ty α}{s:Sl α}{e':TypeId}{cs:List Value}{a:List α}{w:World}(m:Nat) (hT:0 < T.o.size) (hm:PV[m]?=E (.row T.o e' v s)) (hrel:∀τ,Z.le τ->T.rels τ cs a) (hle:a.length<=s.xs.length) (hne:0 < a.length) (D:Inv w0 σ0 Z PV w) :
    ∃a0 c w',v = .slice (E a0) s.xs.length c/\(storeCells a0 cs).run P w = .ok () w'/\Inv w0 σ0 Z (PV.set m (.row T.o e' v ⟨a++s.xs.drop a.length,s.nn⟩)) w':=by
 let⟨hh0,N,hsub⟩:=D.held.get hm;have N:zn T.o e' v s Z hh0:=N;have f:=hrel Z (FS.le.refl Z);have Q:cs.length=a.length * T.o.size:=T.rels_len f;have hone:∀u∈cs,u.oneCell'=true:=OTy.rels_one (T:=T.o) (h:=zc.none) (Ty.rels_o.2 f)
 have hlen:s.xs.length≠0:=Zc
 rcases N with⟨rfl,rfl⟩ | ⟨aq,rfl,rfl⟩ | ⟨qb,l,cur,hb,gg,rfl,r2,r3,r4,r5,r0,r6,r7,r8,r9,r10⟩
 ·grind
 ·grind
 have hst:∀h1:zc,zn T.o e' (.slice (E ⟨qb,0,F⟩) s.xs.length l) s Z h1->h1.sub w->
     ∃w',(storeCells ⟨qb,0,F⟩ cs).run P w = .ok () w'/\∃h1',zn T.o e' (.slice (E ⟨qb,0,F⟩) s.xs.length l) ⟨a++s.xs.drop a.length,s.nn⟩ Z h1'/\h1'.sub w'/\Ext w h1 w'/\∀b i,(h1' b i).isSome->(h1 b i).isSome\/w.heap.size<=b:=by
  rintro h1 (⟨c1,rfl⟩ | ⟨aq,c1,rfl⟩ | ⟨qc,cap2,cur2,K,g2,c1,s2,s3,s4,s5,s0,s6,s7,s8,s9,s10⟩) hsb
  ·grind
  ·grind
  cases c1;have hfit:a.length * T.o.size<=cur2.length:=UM (Dk _ (UM hle s3)) s5;have r:∀j,j < cs.length->∃u,K qb (0+j+1)=E (.cell u):=λj R=>⟨_,by rw[UZ];exact s7 j _ (UJ Zc)⟩
  have hlt:qb < w.heap.size:=Bit.at_lt (hsb _ _ _ (s0 _ _ _ s6));have hpos:0 < a.length * T.o.size:=Nat.mul_pos Zc hT;let⟨w',j1,j2,j3⟩:=VA (P:=P) (hsb.mono s0) hlt r hone jE;have hl2:(a++s.xs.drop a.length).length=s.xs.length:=ji
  refine⟨w',j1,K.put qb 0 cs,?_,j2,j3.mono s0,λb i hx =>.inl (s0.isSome (zc.put_dom (λj R=>jE) hx))⟩;refine .inr (.inr ⟨qb,l,cs++cur2.drop (a.length * T.o.size),_,zc.none,by simp[hl2],s2,jE,s4,?_,.refl _,?_,λj u R=>?_,zc.none_le _,λb i =>.inr rfl,?_⟩)
  ·grind
  ·rw[zc.put_out Zc,s6];grind
  · by_cases c1:j < a.length * T.o.size
    ·rw[De Zc] at R;have:=zc.put_in (h:=K) (q:=qb) (off:=0) R;grind
    ·rw[Dd Zc,Q,Di] at R;rw[(Zc:a.length * T.o.size+(j - a.length * T.o.size)=j)] at R;rw[zc.put_out Zc];grind
  · rw[Ty.rels_o] at s10 |-
    have hd:=T.rels_drop a.length s10;have ha:=T.rels_append f hd;have:(cs++cur2.drop (a.length * T.o.size)).take ((a++s.xs.drop a.length).length * T.o.size)=cs++(cur2.take (s.xs.length * T.o.size)).drop (a.length * T.size):=by
     rw[hl2,List.take_append,Q,Dn (by rw[Q];exact Dk _ hle),List.drop_take];rfl
    grind
 let⟨w',j1,j2⟩:=hst hh0 (.inr (.inr ⟨qb,l,cur,hb,gg,rfl,r2,r3,r4,r5,r0,r6,r7,r8,r9,r10⟩)) hsub;refine⟨_,l,w',rfl,j1,D.change hm λh1 k1 ksub=>?_⟩;let⟨w2,q1,q2⟩:=hst h1 k1 ksub;rw[j1] at q1;cases q1;exact q2
theorem zs9 {α:Type}{T:Ty α}{s:Sl α}{e e':TypeId}{ti:TypeInfo}{xs:List α}{y:Operand}{tt:Array TypeId}(m:Nat) (hn:O d n=G) (ht:tt[0]?=E t) (hu:P.underlying t=E (.slice e)) (hi':P.info? e=E ti) (hsz:ti.size=T.o.size) (h0:O 0 T.o.size=G)
    (hx:opv L b x=v) (hm:PV[m]?=E (.row T.o e' v s)) (hs:∀w,Y7 Z PV w->∃f,(∀τ,Z.le τ->T.rels τ f xs)/\vC w (opv L b y) xs.length f)
    (h:H p ((d,.int .i64 (min xs.length s.xs.length:Nat))::L) Z (PV.set m (.row T.o e' v ⟨xs.take s.xs.length++s.xs.drop xs.length,s.nn⟩))) :
    Xl P n w0 σ0 ⟨E d,.call {callee :=.builtin .copy,args:= #[x,y],argTypes:=tt},ty,ps,af,g⟩ p L b Z PV H:=by
 intro r hp a w D hft K Q hK;have hT:0 < T.o.size:=by simpa using h0
 let⟨f,R,N⟩:=hs w D.held;have key:∃w',(qk tt ty #[v,opv L b y]).run P w = .ok (.int .i64 (min xs.length s.xs.length:Nat)) w'/\Inv w0 σ0 Z (PV.set m (.row T.o e' v ⟨xs.take s.xs.length++s.xs.drop xs.length,s.nn⟩)) w':=by
  have hnl:f.length=xs.length * T.o.size:=T.rels_len (R Z (FS.le.refl Z));by_cases hk:min xs.length s.xs.length=0
  · have hsame:(⟨xs.take s.xs.length++s.xs.drop xs.length,s.nn⟩:Sl α)=s:=by
      let⟨l,q⟩:=s;rcases Nat.min_eq_zero_iff.1 hk with e | e
      ·grind
      grind
    rw[hsame];have hset:PV.set m (.row T.o e' v s)=PV:=by
     let⟨hl,he⟩:=UC.1 hm;rw[<- he,List.set_getElem_self]
    rw[hset];refine⟨w,?_,D⟩;let⟨hh0,hr0,hsub⟩:=D.held.get hm;obtain⟨a0,c,rfl,_⟩:=zn.form (hr0:zn T.o e' v s Z hh0);rcases N with⟨e1,e2,e3⟩ | ⟨a1,c1,e1,_⟩
    ·rw[e1,e2];cases a0<;>simp[qk,ht,UV hu,qv,qx,sizeOf,typeInfo,hi',storeCells,goInt]
    ·rw[e1,hk];have hk':qy xs.length s.xs.length=0:=hk;cases a0<;>simp[qk,ht,UV hu,qv,qx,sizeOf,typeInfo,hi',storeCells,goInt,hk',loadCells,loadCellsFrom]
  · have hpos:0 < min xs.length s.xs.length:=Nat.pos_of_ne_zero hk;have hr2:∀τ,Z.le τ->T.rels τ (f.take (min xs.length s.xs.length * T.o.size)) (xs.take (min xs.length s.xs.length)):=λτ l=>T.rels_take _ (R τ l)
    have hl1:(xs.take (min xs.length s.xs.length)).length=min xs.length s.xs.length:=je
    obtain⟨a0,c,w',rfl,q1,q2⟩:=zrD (P:=P) m hT hm hr2 jE jE D;refine⟨w',?_,?_⟩
    · rcases N with⟨e1,e2,e3⟩ | ⟨a1,c1,e1,e2⟩
      ·grind
      · rw[e1];have hld:=Vz (P:=P) (w:=w) a1 (f.take (min xs.length s.xs.length * T.o.size)) λj u hj=>e2 j u jE
        rw[show(f.take (min xs.length s.xs.length * T.o.size)).length=min xs.length s.xs.length * T.o.size by rw[Dl,hnl];exact Dm (Dk _ (Nat.min_le_left _ _))] at hld;have hmin:qy xs.length s.xs.length=min xs.length s.xs.length:=rfl;simp[qk,ht,UV hu,qv,qx,sizeOf,typeInfo,hi',hsz,goInt,hmin,hld,q1,Result.andThen]
    · have:(⟨xs.take (min xs.length s.xs.length)++s.xs.drop (xs.take (min xs.length s.xs.length)).length,s.nn⟩:Sl α)=⟨xs.take s.xs.length++s.xs.drop xs.length,s.nn⟩:=by
        rw[hl1];congr 1;rcases Nat.le_total xs.length s.xs.length with l | l
        ·grind
        ·rw[Nat.min_eq_right l,U6 (UK _),U6 l]
      grind
 let⟨w',hrun,hi2⟩:=key;unfold Oper.wp;have hrun':(execOp a.eval ⟨E d,.call {callee :=.builtin .copy,args:= #[x,y],argTypes:=tt},ty,ps,af,g⟩).run P w = .ok (.value (.int .i64 (min xs.length s.xs.length:Nat))) w':=by
  rw[hft.eval];simp[execOp,resolve,invoke,builtin,hx,hrun]
 rw[hrun',Oper.upon_value];exact hK _ _ Z _ _ _ hp hi2 (hft.put (by simpa[Da] using hn) _) h
end
section
variable {κ:Kp}{C:Cod}{S:St C}{ν:Val}{vs:Nat->List Value}{ids:List Nat}{L:List (Nat×Value)}{b:Nat->Value}{Z:FS}{PV:List Priv}{P:Program}{ρ:Type}
variable {t t' ty:TypeId}{x y z:Operand}{d id:Nat}{pv:Priv}{ps:String}{af:Array Edge}{g:U3 (Nat×Bool)}{A:AV C.D}{n:Nat}{w0:Start}{σ0:FS}{o:Oper}{X:U3 (Out C)}
theorem zyb{T U:Nat}{q:C.D T}{u:Sl (C.D U)}{c:Bool}(f:Zn C T q = .sl U u c):C.nst T < C.size T:=by
 have a:Zn C T q ≠.und:=jE
 unfold Zn at a;cases h:(C.emb T q)[C.nst T]? with
 |none=>grind
 |some A=>rw[<- C.len T q];grind
theorem zwX{T U:Nat}{q q':C.D T}{c:Sl (C.D U)}(r:C.nst T < C.size T)(f:C.imp T ((C.emb T q).set (C.nst T) (.sl U c I))=E q'):Zn C T q' = .sl U c I/\∀(j:Nat),j≠C.nst T->(C.emb T q')[j]?=(C.emb T q)[j]?:=by
 have m:(C.emb T q).length=C.size T:=C.len T q;have h:∀A∈(C.emb T q).set (C.nst T) (.sl U c I),A.base=true:=λA hA=>by
  rcases D3 hA with z | z
  ·exact C.base T q A z
  ·rw[z];rfl
 have l:∀(j:Nat),(C.emb T q')[j]?=((C.emb T q).set (C.nst T) (.sl U c I))[j]?:=λj=>by
  cases a:((C.emb T q).set (C.nst T) (.sl U c I))[j]? with
  |none=>
   rw[qE] at a |-
   rw[qC,C.len] at a;rw[C.len];exact a
  |some A=>exact zdD f a (h A (UT a))
 refine⟨?_,λj a=>?_⟩
 ·unfold Zn;grind
 grind
def W4(P:Program)(S:St C)(d:Nat)(ts:Array TypeId)(x y:Operand)(K:Out C->U3 ρ):U3 ρ:=match ts[0]? with
 |some t=>(match P.underlying t with
  |some (.slice e)=>(match P.info? e,S.op x,S.op y with
   |some ti,.nx id T i .whole,.nx id2 f i2 .whole=>(match S.heap id,S.heap id2 with
    |some (.orow T' s .all),E (.orow a h .all)=>chk (!M id id2 && (M T T' && M f a)) ((za s i).bind λq=>(za h i2).bind λc=>(match Zn C T' q,Zn C a c with
     | .sl U u _,.sl l u2 _=>chk (O 0 (C.size U) && M ti.size (C.size U)) ((wu (T:=U) u2).bind λxs=>(C.imp T' ((C.emb T' q).set (C.nst T') (.sl U ⟨xs.take u.xs.length++u.xs.drop xs.length,u.nn⟩ I))).bind λq'=>
         K (.go {env:=upd S.env d (.int .i64 (min xs.length u.xs.length:Nat)),heap:=upd S.heap id (E (.orow T' (s.set i q') .all))}))
     |_,_=>F))
    |_,_=>F)
   |_,_,_=>F)
  |_=>F)
 |none=>F
def Ws(P:Program)(S:St C)(d:Nat)(ts:Array TypeId)(x y:Operand):U3 (Out C):=W4 P S d ts x y E
theorem zoR{ts:Array TypeId}{K:Out C->U3 ρ}:W4 P S d ts x y K=(Ws P S d ts x y).bind K:=by
 unfold Ws W4;split
 ·split
  ·split
   ·split
    ·rw[zx,gh];congr 1;congr 1;funext q;rw[gh];congr 1;funext q2;split
     ·simp only[zx,gh,jj]
     ·rfl
    ·rfl
   ·rfl
  ·rfl
 ·rfl
theorem zrE(h:AbsL κ S ν vs ids L b Z PV)(hn:O d n=G){ts:Array TypeId}:OpA κ P n w0 σ0 ⟨E d,.call {callee :=.builtin .copy,args:= #[x,y],argTypes:=ts},ty,ps,af,g⟩ (Ws P S d ts x y) L b Z PV:=by
 intro out a;unfold Ws W4 at a;split at a
 ·rename_i t ht;split at a
  ·rename_i e hu;have hx:=h.op x;have hy:=h.op y;split at a
   ·rename_i ti id T i id2 T2 i2 hi ex ey;rw[ex] at hx;rw[ey] at hy;have hx:opv L b x=(ν.adr id).sub i.toNat:=hx.1;have hy:opv L b y=(ν.adr id2).sub i2.toNat:=hy.1;split at a
    ·rename_i T' s T2' s2 hs hs2;let⟨hT,a⟩:=zb a;simp only[gf,Dw] at hT;let⟨R,hT1,hT2⟩:=hT;obtain rfl:=ge hT1;obtain rfl:=ge hT2;have R:id≠id2:=λe=>by subst e;simp at R
     let⟨q,hq,a⟩:=gd a;let⟨q2,hq2,a⟩:=gd a;split at a
     ·rename_i U u c D u2 c2 hu1 hu2;let⟨c0,a⟩:=zb a;simp only[gf] at c0;let⟨xs,K,a⟩:=gd a;let⟨q',hq',a⟩:=gd a;unfold wu at K;split at K
      ·rename_i hUU;subst hUU;cases K;let⟨ids',PV',hf,hinv⟩:=h.front2 (w0:=w0) (σ0:=σ0) R hs hs2;have N:∀w,Inv w0 σ0 Z PV w->Inv w0 σ0 Z (.row (zB C D).o D ((ν.adr id).sub i.toNat) u :: .row (Zd C T) T (ν.hdr id) (hpl C T (ν.adr id).sub s (.out i))::zK C ν vs id2 (E (.orow T2 s2 .all))::PV') w:=λw hi=>(hinv w hi).sub_own λgg kk=>by
        let⟨h1,h2,m1,m2,n1,n2,dd⟩:=kk.uncons;exact Sep.append (A:=[_,_]) (zca (m1:zn (Zd C T) T (ν.hdr id) (hpl C T (ν.adr id).sub s .all) Z h1) hq hu1) m2 n1 n2 dd
       refine OpA.pv N ?_ out a;have hsrc:∀w,Y7 Z (.row (zB C D).o D ((ν.adr id).sub i.toNat) u :: .row (Zd C T) T (ν.hdr id) (hpl C T (ν.adr id).sub s (.out i))::zK C ν vs id2 (E (.orow T2 s2 .all))::PV') w->∃f,(∀τ,Z.le τ->(zB C D).rels τ f u2.xs)/\vC w (opv L b y) u2.xs.length f:=by
        intro w hw;let⟨g1,Q,hsub⟩:=hw.get (m:=2) rfl;have Q:zn (Zd C T2) T2 (ν.hdr id2) (hpl C T2 (ν.adr id2).sub s2 .all) Z g1:=Q;let⟨f1,f2,r1,r2,l1,l2,dd⟩:=(zca Q hq2 hu2).uncons;have r1:zn (zB C D).o D ((ν.adr id2).sub i2.toNat) u2 Z f1:=r1;let⟨gA,f,k1,k2,k3⟩:=r1.source (hsub.mono l1);rw[hy];exact⟨f,λτ l=>(zB C D).rels_mono l (Ty.rels_o.1 k2),k3⟩
       refine OpA.of3 (zs9 (T:=zB C D) 0 hn ht hu hi (ge c0.2) c0.1 hx rfl hsrc λr hr=>⟨_,_,(V.inj hr).symm,⟨ν,vs,id::id2::ids',(hf.setO0 (e' :=.orow T (s.set i q') .all) hs (λcs e=>by cases e)).put (A :=.int .i64 _) Rv.int trivial⟩,λw hi=>hi.sub_own λgg kk=>?_⟩);let⟨h1,h2,m1,m2,n1,n2,dd⟩:=Sep.split (A:=[_,_]) kk;let⟨e1,e2⟩:=zwX (zyb hu1) hq';exact .cons (h1:=h1) (ziL m1 hq e1 e2) m2 n1 n2 dd
      ·cases K
     ·cases a
    ·cases a
   ·cases a
  ·cases a
 ·cases a
end
variable [Dfr]
section
variable {ρ:Type}{n:Nat}{w0:Start}{σ0 Z:FS}{p:U3 ρ}{L:List (Nat×Value)}{b:Nat->Value}{PV PV':List Priv}{P:Program}
variable {H:U3 ρ->List (Nat×Value)->FS->List Priv->Prop}{d:Nat}{v:Value}{t ty:TypeId}{ps:String}{af:Array Edge}{g:U3 (Nat×Bool)}{x:Operand}
end
section
variable {κ:Kp}{C:Cod}{S:St C}{ν:Val}{vs:Nat->List Value}{ids:List Nat}{L:List (Nat×Value)}{b:Nat->Value}{Z:FS}{PV:List Priv}{P:Program}{ρ:Type}
variable {t t' ty:TypeId}{x y z:Operand}{d id:Nat}{pv:Priv}{ps:String}{af:Array Edge}{g:U3 (Nat×Bool)}{A:AV C.D}{n:Nat}{w0:Start}{σ0:FS}{o:Oper}{X:U3 (Out C)}
def zdG{D:Nat->Type}:List (AV D)->Nat->Bool
 |cs,k=>match cs[k]? with
  |some (.row _)=>G
  |_=>I
def isO(S:St C)(x:Operand):Bool:=match S.op x with
 | .row id=>(match S.heap id with
  |some (.orow _ _ _)=>G
  |_=>I)
 |_=>I
def zfC(S:St C)(x:Operand):Bool:=match S.op x with
 | .nx _ _ _ _=>G
 |_=>I
def zfD(S:St C)(x y:Operand):Bool:=match S.op x with
 | .pr id T i off=>(match S.heap id with
  |some (.orow _ _ _)=>G
  |some (.row T' _)=>C.own T' && (W off (C.nst T') && zdG (zt (S.op y)) (C.nst T' - off))
  |_=>I)
 | .nx _ _ _ _=>G
 |_=>I
def YP(P:Program)(t:TypeId):Nat:=match P.underlying t with
 |some (.slice e)=>e
 |_=>0
inductive KN where
 |st (t:TypeId) (x y:Operand)
 |apn (d:Nat) (t t':TypeId) (x y:Operand)
 |apo (d:Nat) (t t':TypeId) (x y:Operand)
 |bl (d:Nat) (t:TypeId) (i m:Nat) (y:Operand)
 |mk (d:Nat) (t:TypeId) (x y:Operand)
 |cy (d:Nat) (ts:Array TypeId) (x y:Operand)
def xg(P:Program)(S:St C):U3 Nat->Op->U3 KN
 |none,.store t x y=>bif zfD S x y then E (.st t x y) else F
 |some d,.call ⟨.builtin .append,args,ts⟩=>(match args.toList,ts.toList with
  |[x,y],[t,t']=>bif zfC S x then E (.apn d t t' x y) else bif isO S y then E (.apo d t t' x y) else F
  |_,_=>F)
 |some d,.buildSlice t m a=>(match a.toList with
  |[(i,y)]=>bif C.own (YP P t) && zdG (zt (S.op y)) (C.nst (YP P t)) then E (.bl d t i m y) else F
  |_=>F)
 |some d,.makeSlice t x y=>bif C.own (YP P t) then E (.mk d t x y) else F
 |some d,.call ⟨.builtin .copy,args,ts⟩=>(match args.toList with
  |[x,y]=>E (.cy d ts x y)
  |_=>F)
 |_,_=>F
def W5(P:Program)(S:St C):KN->U3 (Out C)
 | .st t x y=>xS P S t x y
 | .apn d t t' x y=>chk (M t t') (Wn P S d t x y)
 | .apo d t t' x y=>chk (M t t') (Wr P S d t x y)
 | .bl d t i m y=>chk (M i 0 && M m 1) (xU P S d t y)
 | .mk d t x y=>XX P S d t x y
 | .cy d ts x y=>Ws P S d ts x y
theorem zyc(h:AbsL κ S ν vs ids L b Z PV){dst:U3 Nat}{op:Op}(w:∀d,dst=E d->O d n=G){k:KN}(a:xg P S dst op=E k):OpA κ P n w0 σ0 ⟨dst,op,ty,ps,af,g⟩ (W5 P S k) L b Z PV:=by
 unfold xg at a;split at a
 ·rename_i t x y;cases f:zfD S x y with
  |false=>grind
  |true=>rw[f] at a;cases a;exact zmY h
 ·rename_i d args ts;split at a
  ·rename_i x y t t' r N;cases f:zfC S x with
   |true=>
    rw[f] at a;cases a;intro out a;let⟨l,c⟩:=zb a;obtain rfl:=ge l;rw[zaX r,zaX N];exact zrB h (w d rfl) out c
   |false=>
    rw[f,U8] at a;cases K:isO S y with
    |false=>grind
    |true=>
     rw[K] at a;cases a;intro out a;let⟨l,c⟩:=zb a;obtain rfl:=ge l;rw[zaX r,zaX N];exact zrC h (w d rfl) out c
  ·cases a
 ·rename_i d t m D;split at a
  ·rename_i i y r;cases f:(C.own (YP P t) && zdG (zt (S.op y)) (C.nst (YP P t))) with
   |false=>grind
   |true=>
    rw[f] at a;cases a;intro out a;let⟨l,c⟩:=zb a;simp only[gf] at l;obtain rfl:=ge l.1;obtain rfl:=ge l.2;exact zmZ h (w d rfl) r out c
  ·cases a
 ·rename_i d t x y;cases f:C.own (YP P t) with
  |false=>rw[f] at a;cases a
  |true=>rw[f] at a;cases a;exact zoQ h (w d rfl)
 ·rename_i d args ts;split at a
  ·rename_i x y r;cases a;rw[zaX r];exact zrE h (w d rfl)
  ·cases a
 ·cases a
end
end
end Go.Px
