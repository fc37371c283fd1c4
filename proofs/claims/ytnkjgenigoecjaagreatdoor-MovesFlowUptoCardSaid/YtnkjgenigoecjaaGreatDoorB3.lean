/- Part B3. -/
import Derived.Test.YtnkjgenigoecjaaGreatDoorA3
set_option linter.unusedSectionVars false
set_option linter.unusedVariables false
set_option linter.unusedSimpArgs false
namespace Go.Px
open Bool renaming true->G,false->I,and_eq_true_iff->qo
open Go.Builtin renaming copy_->qk,lenOf->qx,firstCells->qy
open List renaming range->Y,nodup_cons->qs,cons_eq_cons->qv,range'->qB,mem_or_eq_of_mem_set->qC,map_map->qD,length_set->qE,getElem?_replicate->qF,getElem?_eq_none_iff->qG
open Nat renaming beq->M,blt->O,ble->W,min->qA
open _root_.Option renaming some->E,none->F,some->V
section
theorem DA:∀{m n : Nat},m∈Y n↔m < n:=@List.mem_range
theorem D9:∀{α:Type _}{p:α->Bool}{«as»:List α}{x:α},x∈List.filter p «as»↔x∈«as»/\p x=true:=@List.mem_filter
variable [Dfr]
section
variable {ρ:Type}{n:Nat}{w0:Start}{σ0 Z:FS}{p:U7 ρ}{L:List (Nat×Value)}{b:Nat->Value}{PV:List Priv}{P:Program}
variable {H:U7 ρ->List (Nat×Value)->FS->List Priv->Prop}{d:Nat}{v:Value}{t t' ty:TypeId}{ps:String}{af:Array Edge}{g:U7 (Nat×Bool)}{x y z:Operand}{k:IntKind}{i j:Int}
theorem zc.put_disj{c f:zc}{q off:Nat}{vs:List Value}(hall:∀j,j < vs.length->(c q (off+j+1)).isSome)(df:c.disj f):(c.put q off vs).disj f:=λb i'=>by
 cases hx:c.put q off vs b i' with
 |none=>exact .inl rfl
 |some y=>
  have:=zc.put_dom hall (by rw[hx];rfl);rcases df b i' with z | z
  all_goals grind
theorem WR {α:Type}{T:OTy α}{e:TypeId}{s:Sl α}{ti:TypeInfo}{q q':α}{us:List Value}{off:Nat}(A C:List Priv) (hi':P.info? t=E ti) (hx:opv L b x = .pointer (E (zh v (i.toNat * T.size+off)))) (hy:(opv L b y).cells.toList=us)
    (hs:ti.size=us.length) (h0:0 < us.length) (hone:∀u∈us,u.oneCell'=G) (hq:za s i=E q) (hoff:off+us.length<=T.size)
    (hr:∀g gA k cs,T.rel Z g cs q->Sep Z A gA->g.disj gA->g.le k->gA.le k->T.rel Z k (cs.take off++us++cs.drop (off+us.length)) q')
    (h:H p L Z (.row T e v (s.set i q')::C)):Xl P n w0 σ0 ⟨F,.store t x y,ty,ps,af,g⟩ p L b Z (.row T e v s::(A++C)) H:=by
 intro r hp a w hi hf K Q hK;have hne:us≠[]:=by grind
 have hsz:(opv L b y).cells.size=us.length:=by grind
 have hi0:Inv w0 σ0 Z ((.row T e v s::A)++C) w:=hi;refine Exists.elim (hi0.replace (R:=λw' A'=>(execOp a.eval ⟨F,.store t x y,ty,ps,af,g⟩).run P w = .ok .skip w'/\A'=[Priv.row T e v (s.set i q')]) ?_) ?_
 · intro hA sA subA;let⟨f1,f2,k1,k2,l1,l2,dd⟩:=Sep.uncons sA;let⟨g1,g2,m1,m2,n1,n2,d3⟩:=(Vy (v:=v) (e:=e) (i:=i) k1 hq).uncons;let⟨cs,c1,c2,p1,p2,p3,p4,p5⟩:=m2.one_of;have hcl:cs.length=T.size:=T.len p5;have l12:c1.le hA:=p1.trans (n2.trans l1);have l22:c2.le hA:=p2.trans (n2.trans l1);have hsp:=p4.1;have hadd:(zh v (i.toNat * T.size)).add off=⟨(zh v (i.toNat * T.size)).block,(zh v (i.toNat * T.size)).off+off,F⟩:=Addr.add_eq _ hsp off;have hcells:∀j,j < us.length->∃y,c1 (zh v (i.toNat * T.size)).block ((zh v (i.toNat * T.size)).off+off+j+1)=E (.cell y):=λj hj=>
     ⟨_,by rw[show(zh v (i.toNat * T.size)).off+off+j=(zh v (i.toNat * T.size)).off+(off+j) by omega];exact p4.2 (off+j) _ (UM (by omega))⟩
   have hlt2:(zh v (i.toNat * T.size)).block < w.heap.size:=by
    let⟨y,hy⟩:=hcells 0 (by omega);exact Bit.at_lt (subA _ _ _ (l12 _ _ _ hy))
   let⟨w',j1,j2,j3⟩:=Vx (P:=P) (subA.mono l12) hlt2 hcells hone hne;have hall:∀j,j < us.length->(c1 (zh v (i.toNat * T.size)).block ((zh v (i.toNat * T.size)).off+off+j+1)).isSome:=λj hj=>by grind
   generalize hcp:c1.put (zh v (i.toNat * T.size)).block ((zh v (i.toNat * T.size)).off+off) us=cp at *
   have hd':∀{f:zc},c1.disj f->cp.disj f:=λ{f} df=>by rw[<- hcp];exact zc.put_disj hall df
   have hdom:∀b i',(cp b i').isSome->(c1 b i').isSome:=λb i' hx=>by rw[<- hcp] at hx;exact zc.put_dom hall hx
   have dcg:c1.disj g1:=(d3.mono (.refl _) p1).symm;have d2g:c2.disj g1:=(d3.mono (.refl _) p2).symm;have dcA:c1.disj f2:=dd.mono (p1.trans n2) (.refl _);have d2A:c2.disj f2:=dd.mono (p2.trans n2) (.refl _);have dgA:g1.disj f2:=dd.mono n1 (.refl _);have hcell':Z2 (zh v (i.toNat * T.size)) (cs.take off++us++cs.drop (off+us.length)) cp:=by
    refine⟨hsp,λj u hj=>?_⟩;rw[xv (by omega) rfl] at hj;rw[<- hcp];split at hj
    ·rw[show(zh v (i.toNat * T.size)).off+j+1=(zh v (i.toNat * T.size)).off+off+(j - off)+1 by omega];exact zc.put_in hj
    ·rw[zc.put_out (by omega)];exact p4.2 j u hj
   have hnew:=hr c2 f2 (c2.or f2) cs p5 k2 d2A (zc.le_or _ _) (zc.le_or_right d2A);have dn:cp.disj (c2.or f2):=(zc.or_disj (hd' p3).symm (hd' dcA).symm).symm;have dg:g1.disj (cp.or (c2.or f2)):=(zc.or_disj (hd' dcg) (zc.or_disj d2g dgA.symm)).symm;refine⟨w',_,g1.or (cp.or (c2.or f2)),⟨?_,rfl⟩,.one ?_,?_,j3.mono l12,λb i' hx =>.inl ?_⟩
   · rw[hf.eval];have he:(⟨(zh v (i.toNat * T.size)).block,(zh v (i.toNat * T.size)).off+off,F⟩:Addr)=zh v (i.toNat * T.size+off):=by rw[<- Yt,hadd]
     rw[he] at j1;simp only[execOp,Instr.storeAt,Instr.sureAddr,hx,storeVar,sizeOf,typeInfo,UZ,UX,Db,Da,hi',hsz,hs,Dm,not_true,jp,hy,j1]
   ·exact m1 Z _ q' _ (.refl _) dg ⟨_,cp,c2.or f2,zc.le_or _ _,zc.le_or_right dn,dn,hcell',hnew⟩ (zc.le_or _ _) (zc.le_or_right dg)
   ·exact zc.or_sub (j3.frag dcg (subA.mono (n1.trans l1))) (zc.or_sub j2 (zc.or_sub (j3.frag p3 (subA.mono l22)) (j3.frag dcA (subA.mono l2))))
   · unfold zc.or at hx;cases hx1:g1 b i' with
     |some y=>exact(n1.trans l1).isSome (by simp[hx1])
     |none=>
      rw[hx1] at hx;cases hx2:cp b i' with
      |some y=>exact l12.isSome (hdom b i' (by rw[hx2];rfl))
      |none=>
       rw[hx2] at hx;cases hx3:c2 b i' with
       |some y=>exact l22.isSome (by rw[hx3];rfl)
       |none=>rw[hx3] at hx;exact l2.isSome (by simpa using hx)
 ·rintro w' ⟨A',⟨hrun,rfl⟩,hi2⟩;unfold Oper.wp;rw[hrun,Oper.upon_skip];exact hK _ _ Z _ _ _ hp hi2 hf h
end
section
variable {κ:Kp}{C:Cod}{S:St C}{ν:Val}{vs:Nat->List Value}{ids:List Nat}{L:List (Nat×Value)}{b:Nat->Value}{Z:FS}{PV:List Priv}{P:Program}
variable {t t' ty:TypeId}{x y z:Operand}{d id:Nat}{pv:Priv}{ps:String}{af:Array Edge}{g:U7 (Nat×Bool)}{A:AV C.D}{n:Nat}{w0:Start}{σ0:FS}{o:Oper}{X:U7 (Out C)}
theorem AbsL.front1(h:AbsL κ S ν vs ids L b Z PV){id:Nat}{e:Ent C}(h1:S.heap id=E e):∃ids' PV',AbsL κ S ν vs (id::ids') L b Z (zH C ν vs id (E e)::PV')/\∀w,Inv w0 σ0 Z PV w->Inv w0 σ0 Z (zH C ν vs id (E e)::PV') w:=by
 let⟨m,hm,hid⟩:=h.at h1;exact⟨_,_,h.front hid hm⟩
theorem AbsL.front2 (h:AbsL κ S ν vs ids L b Z PV) {id id2:Nat}{e e2:Ent C}(hne:id≠id2) (h1:S.heap id=E e) (h2:S.heap id2=E e2) :
    ∃ids' PV',AbsL κ S ν vs (id::id2::ids') L b Z (zH C ν vs id (E e)::zH C ν vs id2 (E e2)::PV')/\∀w,Inv w0 σ0 Z PV w->Inv w0 σ0 Z (zH C ν vs id (E e)::zH C ν vs id2 (E e2)::PV') w:=by
 let⟨ids1,PV1,k1,k2⟩:=h.front1 (w0:=w0) (σ0:=σ0) h2;let⟨m,hm,hid⟩:=k1.at h1;cases m with
 |zero=>grind
 |succ m=>
  let⟨k3,k4⟩:=k1.front (w0:=w0) (σ0:=σ0) hid hm;grind
theorem AbsL.setO0 (h:AbsL κ S ν vs (id::ids) L b Z (pv::PV)) {e e':Ent C}(hc:S.heap id=E e) (he:∀cs,e' ≠.cell cs) (hfx:Z0 (E e')=G->Z0 (E e)=true:=by first | exact λh=>h | exact λh=>by cases h) :
    AbsL κ {S with heap:=upd S.heap id (E e')} ν vs (id::ids) L b Z (zH C ν vs id (E e')::PV):=by
 have hlv:∀j,(S.heap j).isSome=(upd S.heap id (E e') j).isSome:=λj=>by
  by_cases e1:j=id
  ·subst e1;rw[zp,hc];rfl
  ·rw[zq e1]
 have hnd:=qs.1 h.nd;have hpv:PV=ids.map λj=>zH C ν vs j (S.heap j):=by have:=h.pv;grind
 refine⟨⟨h.nd,λj=>?_,?_,λj c hj=>?_,h.env,h.one⟩,λt=>?_,λj c hj=>?_,λk hk hs=>have q:=h.keep k hk (by grind);⟨q.1,q.2.1,λhf=>q.2.2 (zbJ (λh=>by grind) hf)⟩⟩
 ·show _↔(upd S.heap id (E e') j).isSome=G;rw[<- hlv];exact h.dom j
 · rw[UI];refine qv.2 ⟨by show _=zH C ν vs id (upd S.heap id (E e') id);rw[zp],?_⟩;rw[hpv];refine D3 λj hj=>?_
   have hne:j≠id:=λe1=>by grind
   show zH C ν vs j (S.heap j)=zH C ν vs j (upd S.heap id (E e') j);rw[zq hne]
 · have hj:upd S.heap id (E e') j=_:=hj;by_cases e1:j=id
   ·subst e1;rw[zp] at hj;grind
   ·rw[zq e1] at hj;exact h.cell j c hj
 ·exact AV.ok_mono (λj hj=>by grind) (h.live t)
 · have hj:upd S.heap id (E e') j=_:=hj;refine AV.oks_mono (p:=λid=>(S.heap id).isSome=G) (λj hj=>by grind) ?_;by_cases e1:j=id
   ·subst e1;rw[zp] at hj;grind
   ·rw[zq e1] at hj;exact h.livec j c hj
theorem ztK{q:Nat->Bool}{o:U7 (Ent C)}:Z0 (o.map (Ent.knx q))=Z0 o:=by
 cases o with
 |none=>rfl
 |some e=>cases e<;>rfl
def St.owk(S:St C)(id:Nat)(e:Ent C):St C:=
 {env:=λt=>AV.knx (λj=>M j id) (S.env t),heap:=λj=>bif M j id then E e else(S.heap j).map (Ent.knx λj=>M j id)}
theorem AbsL.setO (h:AbsL κ S ν vs (id::ids) L b Z (pv::PV)) {e:Ent C}(hc:S.heap id=E e) {T:Nat}{s:Sl (C.D T)}{g:Own}{sub:Nat->Value}(hgx:g.isFix=I) :
    AbsL κ (S.owk id (.orow T s g)) {hdr:=ν.hdr,adr:=upd ν.adr id ⟨(ν.adr id).a,sub⟩ } vs (id::ids) L b Z (.row (Zd C T) T (ν.hdr id) (hpl C T sub s g)::PV):=by
 let ν':Val:={hdr:=ν.hdr,adr:=upd ν.adr id ⟨(ν.adr id).a,sub⟩ }
 let q:Nat->Bool:=λj=>M j id
 have hd:∀j,j≠id->(S.owk id (.orow T s g)).heap j=(S.heap j).map (Ent.knx q):=λj hj=>by
  show(bif M j id then _ else _)=_;cases e1:M j id with
  |true=>exact absurd (ge e1) hj
  |false=>rfl
 have hd0:(S.owk id (.orow T s g)).heap id=E (.orow T s g):=by
  show(bif M id id then _ else _)=_;simp
 have hlv:∀j,(S.heap j).isSome=((S.owk id (.orow T s g)).heap j).isSome:=λj=>by
  grind
 have ha:∀j,(S.heap j).isSome=G->ν.hdr j=ν'.hdr j/\(ν.adr j).a=(ν'.adr j).a:=λj _=>by
  refine⟨rfl,?_⟩;show _=(upd ν.adr id ⟨(ν.adr id).a,sub⟩ j).a;by_cases e1:j=id
  ·subst e1;rw[zp]
  ·rw[zq e1]
 have hs:∀j,(S.heap j).isSome=G->q j=I->(ν.adr j).sub=(ν'.adr j).sub:=λj _ hq=>by
  show _=(upd ν.adr id ⟨(ν.adr id).a,sub⟩ j).sub;rw[zq λe1=>by subst e1;simp[q] at hq]
 have hnd:=qs.1 h.nd;have hpv:PV=ids.map λj=>zH C ν vs j (S.heap j):=by have:=h.pv;grind
 have hcell:∀j c,(S.owk id (.orow T s g)).heap j=E (.cell c)->∃c0,S.heap j=E (.cell c0)/\c=AV.knxs q c0:=λj c hj=>by
  by_cases e1:j=id
  ·grind
  · rw[hd j e1] at hj;cases hsj:S.heap j with
    |none=>grind
    |some en=>
     rw[hsj] at hj;cases en with
     |cell c0=>cases hj;grind
     |row T s=>cases hj
     |obj k T b s=>cases hj
     |orow T s g=>cases hj
 refine⟨⟨h.nd,λj=>?_,?_,λj c hj=>?_,λt=>?_,h.one⟩,λt=>?_,λj c hj=>?_,λk hk hs'=>?_⟩
 ·rw[<- hlv];exact h.dom j
 · rw[UI];refine qv.2 ⟨?_,?_⟩
   ·rw[hd0];show _=Priv.row (Zd C T) T (ν.hdr id) (hpl C T (upd ν.adr id ⟨(ν.adr id).a,sub⟩ id).sub s g);rw[zp]
   · rw[hpv];refine D3 λj hj=>?_
     have hne:j≠id:=λe1=>by grind
     rw[hd j hne];have e3:upd ν.adr id ⟨(ν.adr id).a,sub⟩ j=ν.adr j:=zq hne;cases S.heap j with
     |none=>rfl
     |some en=>cases en<;>simp[zH,Ent.knx,e3]
 ·obtain⟨c0,h1,rfl⟩:=hcell j c hj;exact VRs.knx ha hs (h.livec j c0 h1) (h.cell j c0 h1)
 ·exact VR.knx ha hs (h.live t) (h.env t)
 ·exact AV.ok_mono (λj hj=>by grind) (AV.ok_knx (h.live t))
 ·obtain⟨c0,h1,rfl⟩:=hcell j c hj;exact AV.oks_mono (λj hj=>by grind) (AV.oks_knx (h.livec j c0 h1))
 · have h1:(S.heap k).isSome=true:=by grind
   have:=h.keep k hk h1;refine⟨this.1,(ha k h1).2.symm.trans this.2.1,λhf=>?_⟩;by_cases e1:k=id
   ·subst e1;rw[hd0] at hf;exact absurd hf (by show¬ g.isFix=G;rw[hgx];simp)
   ·refine Eq.trans (congrArg Loc.sub (zq e1)) (this.2.2 ?_);rw[hd k e1,ztK] at hf;exact hf
theorem zb9 {T:Nat}{sub:Nat->Value}{s:Sl (C.D T)}{v:Value}{h:zc}{i:Int}{q:C.D T}{U:Nat}{u:Sl (C.D U)}{c:Bool}(hr:zn (Zd C T) T v (hpl C T sub s .all) Z h) (hq:za s i=E q) (hu:Zn C T q = .sl U u c) :
    Sep Z [.row (zx C U).o U (sub i.toNat) u,.row (Zd C T) T v (hpl C T sub s (.out i))] h:=by
 let⟨h1,h2,m1,m2,n1,n2,dd⟩:=(Vy (v:=v) (e:=T) (i:=i) hr (WG hq)).uncons;let⟨cs,c1,c2,p1,p2,p3,p4,p5⟩:=m2.one_of;have p5:yW C T Z c2 cs (q,Own.all.fl i.toNat,sub i.toNat):=p5;let⟨k1,k2,k3,k4,k5,k6⟩:=p5;let⟨U',u',e1,e2⟩:=k6 rfl;rw[hu] at e1;cases e1;have d1:h1.disj c1:=dd.mono (.refl _) p1;have d2:h1.disj c2:=dd.mono (.refl _) p2;have hnew:(Priv.row (Zd C T) T v ((hpl C T sub s .all).set i (q,(Own.out i).fl i.toNat,sub i.toNat))).holds Z (h1.or c1):=by
  refine m1 Z c1 _ _ (.refl _) d1 ⟨cs,c1,zc.none,.refl _,zc.none_le _,zc.disj_none _,p4,?_⟩ (zc.le_or _ _) (zc.le_or_right d1);exact⟨k1,k2,k3,k4,λe=>by simp[Own.fl] at e,λe=>by simp[Own.fl] at e⟩
 have he:(hpl C T sub s .all).set i (q,(Own.out i).fl i.toNat,sub i.toNat)=hpl C T sub s (.out i):=by
  rw[zd6 (g :=.all) (g' :=.out i) (sub':=sub) (q':=q) λj hj hne=>⟨by simp[Own.fl,hne],rfl⟩,Sl.set_same hq]
 rw[he] at hnew;refine .cons (h1:=c2) (h2:=h1.or c1) e2 (Sep.one hnew) (p2.trans n2) (zc.or_le n1 (p1.trans n2)) ?_;exact(zc.or_disj d2 p3).symm
theorem ziJ {T:Nat}{sub:Nat->Value}{s:Sl (C.D T)}{v:Value}{h:zc}{i:Int}{q q':C.D T}{U:Nat}{u':Sl (C.D U)}(hs:Sep Z [.row (zx C U).o U (sub i.toNat) u',.row (Zd C T) T v (hpl C T sub s (.out i))] h) (hq:za s i=E q)
    (hu:Zn C T q' = .sl U u' I) (ho:∀(j:Nat),j≠C.nst T->(C.emb T q')[j]?=(C.emb T q)[j]?):zn (Zd C T) T v (hpl C T sub (s.set i q') .all) Z h:=by
 let⟨f1,f2,r1,r2,l1,l2,dd⟩:=hs.uncons;have r1:zn (zx C U).o U (sub i.toNat) u' Z f1:=r1;have r2:zn (Zd C T) T v (hpl C T sub s (.out i)) Z f2:=r2.one_of;let⟨h1,h2,m1,m2,n1,n2,d3⟩:=(Vy (v:=v) (e:=T) (i:=i) r2 (WG hq)).uncons;let⟨cs,c1,c2,p1,p2,p3,p4,p5⟩:=m2.one_of;let⟨k1,k2,k3,k4,k5,k6⟩:=(p5:yW C T Z c2 cs (q,(Own.out i).fl i.toNat,sub i.toNat));have d1:h1.disj c1:=d3.mono (.refl _) p1;have d2:h1.disj f1:=(dd.mono (.refl _) n1).symm;have d4:c1.disj f1:=(dd.mono (.refl _) (p1.trans n2)).symm;have dn:h1.disj (c1.or f1):=(zc.or_disj d1.symm d2.symm).symm;have hnew:(Priv.row (Zd C T) T v ((hpl C T sub s (.out i)).set i (q',Own.all.fl i.toNat,sub i.toNat))).holds Z h:=by
  refine m1 Z (c1.or f1) _ h (.refl _) dn ⟨cs,c1,f1,zc.le_or _ _,zc.le_or_right d4,d4,p4,?_⟩ (n1.trans l2) (zc.or_le ((p1.trans n2).trans l2) l1);refine⟨k1,k2,λj A hj hn=>?_,k4,λe=>by simp[Own.fl] at e,λ_=>⟨U,u',hu,r1⟩⟩;grind
 have he:(hpl C T sub s (.out i)).set i (q',Own.all.fl i.toNat,sub i.toNat)=hpl C T sub (s.set i q') .all:=zd6 λj hj hne=>⟨by simp[Own.fl,hne],rfl⟩
 rw[he] at hnew;exact hnew
end
end
section
variable [Dfr]
def Vn:Own->Int->U7 Own
 | .all,_=>E .all
 | .out j,i=>chk (decide (i=j)) (E .all)
 | .upto k,i=>chk (decide (i=k)) (E (.upto (k+1)))
 | .fix,_=>F
def zfA{α:Type}(g:Own)(i:Int)(K:Own->U7 α):U7 α:=match g with
 | .all=>K .all
 | .out j=>chk (decide (i=j)) (K .all)
 | .upto k=>chk (decide (i=k)) (K (.upto (k+1)))
 | .fix=>F
theorem vg{α:Type}{g:Own}{i:Int}{K:Own->U7 α}:zfA g i K=(Vn g i).bind K:=by
 cases g with
 |all=>rfl
 |out j=>exact(zt (x:=E Own.all)).symm
 |upto k=>exact(zt (x:=E (Own.upto (k+1)))).symm
 |fix=>rfl
theorem zoX{g g':Own}{i:Int}(h:Vn g i=E g')(h0:0<=i):g'.fl i.toNat=1/\∀j,j≠i.toNat->g'.fl j=g.fl j:=by
 cases g with
 |all=>cases h;exact⟨rfl,λ_ _=>rfl⟩
 |out j=>
  let⟨e,h2⟩:=zb h;have e:=Dy e;subst e;cases h2;exact⟨rfl,λj hj=>by simp[Own.fl,hj]⟩
 |fix=>cases h
 |upto k=>
  let⟨e,h2⟩:=zb h;have e:=Dy e;subst e;cases h2;refine⟨?_,λj hj=>?_⟩
  ·show(if i.toNat < (i+1).toNat then 1 else 0)=1;grind
  ·show(if j < (i+1).toNat then 1 else 0)=(if j < i.toNat then 1 else 0);grind
theorem zff{g g':Own}{i:Int}(h:Vn g i=E g'):g'.isFix=false:=by
 cases g with
 |all=>cases h;rfl
 |out j=>let⟨_,h2⟩:=zb h;cases h2;rfl
 |fix=>cases h
 |upto k=>let⟨_,h2⟩:=zb h;cases h2;rfl
section
variable {C:Cod}{Z:FS}{ν:Val}
theorem zlj{D:Nat->Type}{A B:AV D}(h:leA A B)(hb:A.base=G):B=A:=by
 rcases h with h | ⟨T,s,c,rfl,rfl⟩ | ⟨T,c,rfl,rfl⟩
 ·exact h.symm
 ·have:c=false:=by simpa[AV.base] using hb
  rw[this]
 ·cases hb
theorem zca{D:Nat->Type}:∀{as bs:List (AV D)},zfl as bs->∀{j:Nat}{B:AV D},bs[j]?=E B->∃A,as[j]?=E A/\leA A B
 |[],[],_,j,B,h=>by simp at h
 |a::as,b::bs,⟨h,k⟩,0,B,e=>by grind
 |a::as,b::bs,⟨h,k⟩,j+1,B,e=>by simpa using zca k (j:=j) (by simpa using e)
 |[],_::_,h,_,_,_=>h.elim
 |_::_,[],h,_,_,_=>h.elim
theorem zdD{T:Nat}{cs:List (AV C.D)}{q:C.D T}(h:C.imp T cs=E q){j:Nat}{A:AV C.D}(hj:cs[j]?=E A)(hb:A.base=G):(C.emb T q)[j]?=E A:=by
 have hl:=C.imp_ok T cs q h;have hlen:=zkP hl;have hjl:j < (C.emb T q).length:=by grind
 let⟨A',e1,e2⟩:=zca hl (UM hjl);rw[hj] at e1;cases e1;rw[UM hjl,zlj e2 hb]
def WS{D:Nat->Type}(off:Nat)(cs us:List (AV D)):List (AV D):=cs.take off++us++cs.drop (off+us.length)
theorem zfB{D:Nat->Type}{cur us:List (AV D)}{o:Nat}(ho:o+us.length<=cur.length)(j:Nat):(WS o cur us)[j]?=if o<=j/\j < o+us.length then us[j - o]? else cur[j]?:=by
 have htl:(cur.take o).length=o:=by simp;omega
 unfold WS;by_cases h1:j < o
 ·grind
 ·by_cases h2:j < o+us.length
  ·rw[jv ⟨by omega,h2⟩,Df,Dg (by omega),htl,Dh (by omega)]
  ·rw[jx (by omega),Dg (by grind),Dl];grind
theorem ziK {T off:Nat}{g:zc}{cs us:List Value}{q q':C.D T}{f:Nat}{v0:Value}{cells cells':List (AV C.D)}(r:yW C T Z g cs (q,f,v0)) (hus:VRs C Z ν us cells) (hone:∀u∈us,u.oneCell'=G) (hlen:cells'.length=cells.length) (hoff:off+us.length<=C.size T)
    (hq:C.imp T (WS off (C.emb T q) cells')=E q') (hc:∀(j:Nat) A,cells'[j]?=E A->off+j≠C.nst T->cells[j]?=E A) :
    (cs.take off++us++cs.drop (off+us.length)).length=C.size T/\(∀u∈cs.take off++us++cs.drop (off+us.length),u.oneCell'=G)/\
    ∀(j:Nat) A,(C.emb T q')[j]?=E A->j≠C.nst T->∃u,(cs.take off++us++cs.drop (off+us.length))[j]?=E u/\Rv C Z u A:=by
 have hcl:=r.1;refine⟨by grind,λu hu=>?_,λj A hj hn=>?_⟩
 · rcases U9.1 hu with hu | hu
   · rcases U9.1 hu with hu | hu
     ·exact r.2.1 u (List.mem_of_mem_take hu)
     grind
   ·exact r.2.1 u (List.mem_of_mem_drop hu)
 · let⟨B,e1,e2⟩:=zca (C.imp_ok T _ q' hq) hj;have hb:=C.base T q' A (UW hj);rw[xv (by omega) rfl];have hel:(C.emb T q).length=C.size T:=C.len T q;have hul:=hus.len;rw[zfB (by omega)] at e1;rw[hlen,<- hul] at e1;split
   ·rename_i hin;rw[jv hin] at e1;have:=hc _ _ e1 (by omega);let⟨u,hu1,hu2⟩:=hus.get _ _ this;exact⟨u,hu1,(zf9 hu2 e2).rv hb⟩
   ·rename_i hin;rw[jx hin] at e1;let⟨u,hu1,hu2⟩:=r.2.2.1 j B e1 hn;refine⟨u,hu1,?_⟩;rw[zlj e2 (C.base T q B (UW e1))];exact hu2
theorem ztL {T off:Nat}{g k:zc}{cs us:List Value}{q q':C.D T}{f:Nat}{v0:Value}{cells:List (AV C.D)}(r:yW C T Z g cs (q,f,v0)) (hus:VRs C Z ν us cells) (hone:∀u∈us,u.oneCell'=G) (hoff:off+us.length<=C.size T)
    (hq:C.imp T (WS off (C.emb T q) cells)=E q') (ho:C.nst T < off\/off+us.length<=C.nst T) (hk:g.le k):yW C T Z k (cs.take off++us++cs.drop (off+us.length)) (q',f,v0):=by
 let⟨h1,h2,h3⟩:=ziK r hus hone rfl hoff hq λj A h _=>h
 have hcl:=r.1;have hel:(C.emb T q).length=C.size T:=C.len T q;have hul:=hus.len;have hn:=r.nlt;have h4:Zn C T q'=Zn C T q:=by
  unfold Zn;have:(C.emb T q)[C.nst T]?=E ((C.emb T q)[C.nst T]'(by omega)):=UM (by omega);rw[this];have e:(WS off (C.emb T q) cells)[C.nst T]?=E ((C.emb T q)[C.nst T]'(by omega)):=by
   rw[zfB (by omega),jx (by omega)];exact this
  rw[zdD hq e (C.base T q _ (UW this))]
 refine⟨h1,h2,h3,?_,λe=>?_,λe=>?_⟩
 ·rw[xv (by omega) rfl,jx (by omega)];exact r.2.2.2.1
 ·show Rv C Z v0 (Zn C T q');rw[h4];exact r.2.2.2.2.1 e
 ·let⟨U,s,k1,k2⟩:=r.2.2.2.2.2 e;exact⟨U,s,by grind,k2.mono (.refl _) hk⟩
theorem ziL {T off U:Nat}{g gA k:zc}{cs us:List Value}{q q':C.D T}{f:Nat}{v0 v:Value}{cells:List (AV C.D)}{u:Sl (C.D U)}(r:yW C T Z g cs (q,f,v0)) (hus:VRs C Z ν us cells) (hone:∀u∈us,u.oneCell'=G) (hoff:off+us.length<=C.size T)
    (hq:C.imp T (WS off (C.emb T q) (cells.set (C.nst T - off) (.sl U u I)))=E q') (ho:off<=C.nst T/\C.nst T < off+us.length) (hv:us[C.nst T - off]?=E v) (hrow:zn (zx C U).o U v u Z gA) (hk:gA.le k) :
    yW C T Z k (cs.take off++us++cs.drop (off+us.length)) (q',1,v):=by
 have hul:=hus.len;let⟨h1,h2,h3⟩:=ziK (cells':=cells.set (C.nst T - off) (.sl U u I)) r hus hone (by simp) hoff hq λj A h hn=>by
  grind
 have hcl:=r.1;have hel:(C.emb T q).length=C.size T:=C.len T q;refine⟨h1,h2,h3,?_,λe=>(by cases e),λ_=>⟨U,u,?_,hrow.mono (.refl _) hk⟩⟩
 ·grind
 · show Zn C T q'=_;unfold Zn;have e:(WS off (C.emb T q) (cells.set (C.nst T - off) (.sl U u I)))[C.nst T]?=E (.sl U u I):=by
     rw[zfB (by grind),jv (by grind),UL,jv rfl,jv (by omega)]
   rw[zdD hq e rfl];rfl
end
section
variable {κ:Kp}{C:Cod}{S:St C}{ν:Val}{vs:Nat->List Value}{ids:List Nat}{L:List (Nat×Value)}{b:Nat->Value}{Z:FS}{PV:List Priv}{P:Program}{ρ:Type}
variable {t t' ty:TypeId}{x y z:Operand}{d id:Nat}{pv:Priv}{ps:String}{af:Array Edge}{g:U7 (Nat×Bool)}{A:AV C.D}{n:Nat}{w0:Start}{σ0:FS}{o:Oper}{X:U7 (Out C)}
def wB(S:St C)(id T:Nat)(s:Sl (C.D T))(g:Own)(i:Int)(off:Nat)(cells:List (AV C.D))(K:Out C->U7 ρ):U7 ρ:=match cells[C.nst T - off]? with
 |some (.row id2)=>(match S.heap id2 with
  |some (.row U u)=>chk (!M id id2) ((za s i).bind λq=>zfA g i λg'=>(C.imp T (WS off (C.emb T q) (cells.set (C.nst T - off) (.sl U u I)))).bind λq'=>
      K (.go ((S.sub id2 .und).owk id (.orow T (s.set i q') g'))))
  |_=>F)
 |some .nils=>(za s i).bind λq=>(match Zn C T q with
  | .sl U _ _=>zfA g i λg'=>(C.imp T (WS off (C.emb T q) (cells.set (C.nst T - off) (.sl U ⟨[],I⟩ I)))).bind λq'=>K (.go (S.owk id (.orow T (s.set i q') g')))
  |_=>F)
 |_=>F
def VJ(S:St C)(ti:TypeInfo)(y:Operand)(off N:Nat):Bool:=YQ (S.op y) && (M ti.size (zr (S.op y)).length && (W (off+(zr (S.op y)).length) N && O 0 (zr (S.op y)).length))
def Xb(off n k:Nat):Bool:=W off k && O k (off+n)
def XF(P:Program)(S:St C)(t:TypeId)(x y:Operand)(K:Out C->U7 ρ):U7 ρ:=
 match P.info? t,S.op x with
 |some ti,.pr id T i off=>(match S.heap id with
  |some (.orow T' s g)=>chk (M T T' && VJ S ti y off (C.size T'))
      (bif Xb off (zr (S.op y)).length (C.nst T') then wB S id T' s g i off (zr (S.op y)) K
      else(za s i).bind λq=>(C.imp T' (WS off (C.emb T' q) (zr (S.op y)))).bind λq'=>K (.go {S with heap:=upd S.heap id (E (.orow T' (s.set i q') g))}))
  |some (.row T' s)=>chk (M T T' && (VJ S ti y off (C.size T') && Xb off (zr (S.op y)).length (C.nst T'))) (wB S id T' s (.upto 0) i off (zr (S.op y)) K)
  |_=>F)
 |some ti,.nx id T i (.elem U k off)=>(match S.heap id with
  |some (.orow T' s .all)=>chk (M T T' && VJ S ti y off (C.size U)) ((za s i).bind λq=>(match Zn C T' q with
   | .sl U' u _=>chk (M U U') ((za u k).bind λy0=>(C.imp U' (WS off (C.emb U' y0) (zr (S.op y)))).bind λy1=>
       (C.imp T' ((C.emb T' q).set (C.nst T') (.sl U' (u.set k y1) I))).bind λq'=>K (.go {S with heap:=upd S.heap id (E (.orow T' (s.set i q') .all))}))
   |_=>F))
  |_=>F)
 |_,_=>F
def xR(P:Program)(S:St C)(t:TypeId)(x y:Operand):U7 (Out C):=XF P S t x y E
theorem zlk{id T:Nat}{s:Sl (C.D T)}{g:Own}{i:Int}{off:Nat}{cells:List (AV C.D)}{K:Out C->U7 ρ}:wB S id T s g i off cells K=(wB S id T s g i off cells E).bind K:=by
 unfold wB;simp only[vg];split
 ·split
  ·simp only[zt,gh,jj]
  ·rfl
 ·rw[gh];congr 1;funext q;split
  all_goals grind
 ·rfl
theorem zll{K:Out C->U7 ρ}:XF P S t x y K=(xR P S t x y).bind K:=by
 unfold xR XF;split
 ·split
  ·rw[zt];congr 1;cases Xb _ _ _ with
   |true=>exact zlk
   |false=>grind
  ·rw[zt,<- zlk]
  ·rfl
 ·split
  ·rw[zt,gh];congr 1;congr 1;funext q;split
   ·simp only[zt,gh,jj]
   ·rfl
  ·rfl
 ·rfl
theorem zbm{ti:TypeInfo}{off N:Nat}(h:VJ S ti y off N=G):YQ (S.op y)=G/\ti.size=(zr (S.op y)).length/\off+(zr (S.op y)).length<=N/\0 < (zr (S.op y)).length:=by
 simp only[VJ,gf] at h;exact⟨h.1,ge h.2.1,Dj h.2.2.1,by simpa[Dd] using h.2.2.2⟩
theorem ziM{off n k:Nat}(h:Xb off n k=G):off<=k/\k < off+n:=by
 simp only[Xb,gf] at h;exact⟨Dj h.1,by simpa[Dd] using h.2⟩
theorem zoY{off n k:Nat}(h:Xb off n k=I):k < off\/off+n<=k:=by
 by_cases h1:off<=k/\k < off+n
 ·exfalso;have:Xb off n k=true:=by
   simp only[Xb,gf];exact⟨Nat.ble_eq_true_of_le h1.1,by rw[Dd];exact h1.2⟩
  grind
 ·omega
theorem zxU{T:Nat}{v:Value}{s:Sl (C.D T)}{h:zc}(hn:C.nst T < C.size T)(r:zn (zx C T).o T v s Z h):∃sub,zn (Zd C T) T v (hpl C T sub s (.upto 0)) Z h:=by
 rcases r with⟨rfl,rfl⟩ | ⟨a,rfl,rfl⟩ | ⟨q,cap,cur,hb,gg,rfl,r2,r3,r4,r5,r0,r6,r7,r8,r9,r10⟩
 ·exact⟨λ_ =>.slice F 0 0,.inl ⟨rfl,rfl⟩⟩
 ·exact⟨λ_ =>.slice F 0 0,.inr (.inl ⟨a,rfl,rfl⟩)⟩
 ·have hr:(zx C T).rels Z (cur.take (s.xs.length * C.size T)) s.xs:=Ty.rels_o.1 r10;have r5:cap * C.size T<=cur.length:=r5;refine⟨λj=>((cur.take (s.xs.length * C.size T))[j * C.size T+C.nst T]?).getD default,.inr (.inr ⟨q,cap,cur,hb,gg,by rw[WF],r2,by rw[WF];exact r3,r4,r5,r0,r6,r7,r8,r9,?_⟩)⟩;rw[WF];show(Zd C T).rels Z gg (cur.take (s.xs.length * C.size T)) _;generalize cur.take (s.xs.length * C.size T)=cells at hr |-
  have hl:cells.length=s.xs.length * C.size T:=(zx C T).rels_len hr;refine⟨by rw[WF];exact hl,λ_=>zc.none,λj p hp=>?_,λ_ _ _=>zc.none_disj _,λ_=>zc.none_le _⟩;simp only[hpl,Dx] at hp;cases hx:s.xs[j]? with
  |none=>grind
  |some x=>
   rw[hx] at hp;cases hp;have h1:(zx C T).rel Z ((cells.drop (j * C.size T)).take (C.size T)) x:=(zx C T).rels_get j hr hx;have hone:∀u∈(cells.drop (j * C.size T)).take (C.size T),u.oneCell'=true:=(zx C T).one h1
   let⟨k1,k2⟩:=h1;have hcell:((cells.drop (j * C.size T)).take (C.size T))[C.nst T]?=cells[j * C.size T+C.nst T]?:=by
    grind
   have hlt:C.nst T < ((cells.drop (j * C.size T)).take (C.size T)).length:=by grind
   have hv:=UM hlt;refine⟨k1,hone,λm A hA _=>k2 m A hA,?_,λ_=>?_,λe=>by simp[Own.fl] at e⟩
   ·show((cells.drop (j * C.size T)).take (C.size T))[C.nst T]?=E ((cells[j * C.size T+C.nst T]?).getD default);grind
   ·show Rv C Z ((cells[j * C.size T+C.nst T]?).getD default) (Zn C T x);have hel:C.nst T < (C.emb T x).length:=by rw[C.len];exact hn
    let⟨u,e1,e2⟩:=k2 _ _ (UM hel);rw[<- hcell,e1];unfold Zn;grind
theorem znE{T:Nat}{v:Value}{s:Sl (C.D T)}{w:World}(hn:C.nst T < C.size T)(hi:Inv w0 σ0 Z (.row (zx C T).o T v s::PV) w):∃sub,Inv w0 σ0 Z (.row (Zd C T) T v (hpl C T sub s (.upto 0))::PV) w:=by
 let⟨h,hs,hg⟩:=hi.own;let⟨h1,h2,k1,k2,k3,k4,k5⟩:=hs.uncons;let⟨sub,hr⟩:=zxU hn (k1:zn (zx C T).o T v s Z h1);exact⟨sub,hi.sub,hi.le,hi.fresh,⟨h,.cons hr k2 k3 k4 k5,hg⟩,hi.ext⟩
theorem OpA.of3(h:Xl P n w0 σ0 o X L b Z PV λp' L' Z' PV'=>∀r,p'=E r->∃S' PV'',r = .go S'/\zy κ S' L' b Z' PV''/\∀w,Inv w0 σ0 Z' PV' w->Inv w0 σ0 Z' PV'' w):OpA κ P n w0 σ0 o X L b Z PV:=by
 intro out hX a w hi hf K Q hK hP;refine h out hX a w hi hf K Q ?_;intro p' L' Z' PV' a' w' hp hi' hf' hH;grind
section
variable {id2 T U off:Nat}{s:Sl (C.D T)}{gw g':Own}{i:Int}{q q':C.D T}{u:Sl (C.D U)}{ti:TypeInfo}{sub:Nat->Value}{e:Ent C}
theorem znF{v:Value}(h0:0<=i)(hg:Vn gw i=E g'):(hpl C T sub s gw).set i (q',1,v)=hpl C T (upd sub i.toNat v) (s.set i q') g':=by
 let⟨e1,e2⟩:=zoX hg h0;rw[<- zd6 (sub:=sub) (sub':=upd sub i.toNat v) (g:=gw) (g':=g') (q':=q') λj _ hne=>⟨e2 j hne,zq hne⟩,e1,zp]
theorem ztM (h:AbsL κ S ν vs (id::id2::ids) L b Z (pv :: .row (zx C U).o U (ν.hdr id2) u::PV)) (he:S.heap id=E e) (hne:id≠id2) (hx:opv L b x = .pointer (E (zh (ν.hdr id) (i.toNat * C.size T+off)))) (hi':P.info? t=E ti) (hok:VJ S ti y off (C.size T)=G)
    (hin:off<=C.nst T/\C.nst T < off+(zr (S.op y)).length) (hc:(zr (S.op y))[C.nst T - off]?=E (.row id2)) (hq:za s i=E q) (hg:Vn gw i=E g') (hq':C.imp T (WS off (C.emb T q) ((zr (S.op y)).set (C.nst T - off) (.sl U u I)))=E q') :
    OpA κ P n w0 σ0 ⟨F,.store t x y,ty,ps,af,g⟩ (E (.go ((S.sub id2 .und).owk id (.orow T (s.set i q') g')))) L b Z (.row (Zd C T) T (ν.hdr id) (hpl C T sub s gw) :: .row (zx C U).o U (ν.hdr id2) u::PV):=by
 let⟨k1,k2,k3,k4⟩:=zbm hok;let⟨hu,hone⟩:=ZD (h.op y) k1 h.one;have hlen:=hu.len;have h0:=(yK.1 hq).1;let⟨v2,hv1,hv2⟩:=hu.get _ _ hc;have hv2:v2=ν.hdr id2:=hv2;subst hv2;refine OpA.of (WR (T:=Zd C T) (q:=(q,gw.fl i.toNat,sub i.toNat)) (q':=(q',1,ν.hdr id2)) (us:=(opv L b y).cells.toList) [.row (zx C U).o U (ν.hdr id2) u] PV hi' hx rfl (by rw[k2,hlen]) (by grind) hone (WG hq) (by rw[hlen];exact k3) (λg gA k cs r sA dd l1 l2=>?_) λr hr=>⟨_,(V.inj hr).symm,?_⟩)
 ·exact ziL (v:=ν.hdr id2) r hu hone (by grind) hq' (by grind) hv1 (sA.one_of:zn (zx C U).o U (ν.hdr id2) u Z gA) l2
 · rw [znF h0 hg];have h1:=h.sub (id:=id2) (m:=1) (R :=.und) rfl (FS.le.refl Z) trivial trivial rfl;have he1:(S.sub id2 .und).heap id=E (Ent.sub id2 .und e):=by
     show(bif M id id2 then F else(S.heap id).map _)=_;cases hb:M id id2 with
     |true=>exact absurd (ge hb) hne
     |false=>rw[he];rfl
   exact⟨_,_,_,AbsL.setO (S:=S.sub id2 .und) h1 he1 (zff hg)⟩
theorem ztN (h:AbsL κ S ν vs (id::ids) L b Z (pv::PV)) (he:S.heap id=E e) (hx:opv L b x = .pointer (E (zh (ν.hdr id) (i.toNat * C.size T+off)))) (hi':P.info? t=E ti) (hok:VJ S ti y off (C.size T)=G)
    (hin:off<=C.nst T/\C.nst T < off+(zr (S.op y)).length) (hc:(zr (S.op y))[C.nst T - off]?=E .nils) (hq:za s i=E q) (hg:Vn gw i=E g') (hq':C.imp T (WS off (C.emb T q) ((zr (S.op y)).set (C.nst T - off) (.sl U ⟨[],I⟩ I)))=E q') :
    OpA κ P n w0 σ0 ⟨F,.store t x y,ty,ps,af,g⟩ (E (.go (S.owk id (.orow T (s.set i q') g')))) L b Z (.row (Zd C T) T (ν.hdr id) (hpl C T sub s gw)::PV):=by
 let⟨k1,k2,k3,k4⟩:=zbm hok;let⟨hu,hone⟩:=ZD (h.op y) k1 h.one;have hlen:=hu.len;have h0:=(yK.1 hq).1;let⟨v2,hv1,hv2⟩:=hu.get _ _ hc;have hv2:v2 = .slice F 0 0:=hv2;subst hv2;refine OpA.of (WR (T:=Zd C T) (q:=(q,gw.fl i.toNat,sub i.toNat)) (q':=(q',1,.slice F 0 0)) (us:=(opv L b y).cells.toList) [] PV hi' hx rfl (by rw[k2,hlen]) (by grind) hone (WG hq) (by rw[hlen];exact k3) (λg gA k cs r sA dd l1 l2=>?_) λr hr=>⟨_,(V.inj hr).symm,?_⟩)
 ·exact ziL (U:=U) (u:=⟨[],I⟩) (v :=.slice F 0 0) (gA:=zc.none) r hu hone (by grind) hq' (by grind) hv1 (.inl ⟨rfl,rfl⟩) (zc.none_le _)
 ·rw[znF h0 hg];exact⟨_,_,_,h.setO he (zff hg)⟩
theorem zlm {out:Out C}(h:AbsL κ S ν vs ids L b Z PV) (he:S.heap id=E e) (hcv:∀PV' w,Inv w0 σ0 Z (zH C ν vs id (E e)::PV') w->∃sub,Inv w0 σ0 Z (.row (Zd C T) T (ν.hdr id) (hpl C T sub s gw)::PV') w)
    (hx:opv L b x = .pointer (E (zh (ν.hdr id) (i.toNat * C.size T+off)))) (hi':P.info? t=E ti) (hok:VJ S ti y off (C.size T)=G) (hin:off<=C.nst T/\C.nst T < off+(zr (S.op y)).length)
    (hX:wB S id T s gw i off (zr (S.op y)) E=E out):OpA κ P n w0 σ0 ⟨F,.store t x y,ty,ps,af,g⟩ (E out) L b Z PV:=by
 unfold wB at hX;simp only[vg] at hX;split at hX
 · rename_i id2 hc;split at hX
   · rename_i U u h2;let⟨hne,hX⟩:=zb hX;have hne:id≠id2:=λe=>by subst e;simp at hne
     let⟨q,hq,hX⟩:=gd hX;let⟨g',hg,hX⟩:=gd hX;let⟨q',hq',hX⟩:=gd hX;cases hX;let⟨ids',PV',hf,hinv⟩:=h.front2 (w0:=w0) (σ0:=σ0) hne he h2;intro out hX a w hi hf2 K Q hK hP;let⟨sub,hi2⟩:=hcv _ w (hinv w hi);exact ztM (sub:=sub) hf he hne hx hi' hok hin hc hq hg hq' out hX a w hi2 hf2 K Q hK hP
   ·cases hX
 · rename_i hc;let⟨q,hq,hX⟩:=gd hX;split at hX
   ·rename_i U u0 c0 hu0;let⟨g',hg,hX⟩:=gd hX;let⟨q',hq',hX⟩:=gd hX;cases hX;let⟨ids',PV',hf,hinv⟩:=h.front1 (w0:=w0) (σ0:=σ0) he;intro out hX a w hi hf2 K Q hK hP;let⟨sub,hi2⟩:=hcv _ w (hinv w hi);exact ztN (U:=U) (sub:=sub) hf he hx hi' hok hin hc hq hg hq' out hX a w hi2 hf2 K Q hK hP
   ·cases hX
 ·cases hX
end
theorem znc(h:AbsL κ S ν vs ids L b Z PV):OpA κ P n w0 σ0 ⟨F,.store t x y,ty,ps,af,g⟩ (xR P S t x y) L b Z PV:=by
 intro out hX;unfold xR XF at hX;split at hX
 ·rename_i ti id T i off hi' ex;have hx:=h.op x;rw[ex] at hx;have hx:opv L b x = .pointer (E (zh (ν.hdr id) (i.toNat * C.size T+off))):=hx;split at hX
  ·rename_i T' s gw hs;let⟨hc,hX⟩:=zb hX;simp only[gf] at hc;obtain rfl:=ge hc.1;let⟨k1,k2,k3,k4⟩:=zbm hc.2;cases hin:Xb off (zr (S.op y)).length (C.nst T) with
   |true=>
    rw[hin,D1] at hX;exact zlm h hs (λPV' w hi=>⟨(ν.adr id).sub,hi⟩) hx hi' hc.2 (ziM hin) hX out rfl
   |false=>
    rw[hin,UC] at hX;let⟨q,hq,hX⟩:=gd hX;let⟨q',hq',hX⟩:=gd hX;let⟨hu,hone⟩:=ZD (h.op y) k1 h.one;have hlen:=hu.len;let⟨ids',PV',hf,hinv⟩:=h.front1 (w0:=w0) (σ0:=σ0) hs;refine OpA.pv hinv ?_ out hX;refine OpA.of (WR (T:=Zd C T) (q:=(q,gw.fl i.toNat,(ν.adr id).sub i.toNat)) (q':=(q',gw.fl i.toNat,(ν.adr id).sub i.toNat)) (us:=(opv L b y).cells.toList) [] PV' hi' hx rfl (by rw[k2,hlen]) (by grind) hone (WG hq) (by rw[hlen];exact k3) (λg gA k cs r sA dd l1 l2=>?_) λr hr=>⟨_,(V.inj hr).symm,?_⟩)
    ·exact ztL r hu hone (by grind) hq' (by rw[hlen];exact zoY hin) l1
    ·rw[zd6 (sub:=(ν.adr id).sub) (sub':=(ν.adr id).sub) (g:=gw) (g':=gw) λj _ _=>⟨rfl,rfl⟩];exact⟨_,_,_,hf.setO0 (e' :=.orow T (s.set i q') gw) hs (λcs e=>by cases e)⟩
  ·rename_i T' s hs;let⟨hc,hX⟩:=zb hX;simp only[gf] at hc;obtain rfl:=ge hc.1;let⟨k1,k2,k3,k4⟩:=zbm hc.2.1;have hin:=ziM hc.2.2;exact zlm h hs (λPV' w hi=>znE (by omega) hi) hx hi' hc.2.1 hin hX out rfl
  ·cases hX
 ·rename_i ti id T i U k off hi' ex;have hx:=h.op x;rw[ex] at hx;have hx:opv L b x = .pointer (E (zh ((ν.adr id).sub i.toNat) (k.toNat * C.size U+off))):=hx.1;split at hX
  ·rename_i T' s hs;let⟨hc,hX⟩:=zb hX;simp only[gf] at hc;obtain rfl:=ge hc.1;let⟨k1,k2,k3,k4⟩:=zbm hc.2;let⟨q,hq,hX⟩:=gd hX;split at hX
   ·rename_i U' u c hu;let⟨hU,hX⟩:=zb hX;obtain rfl:=ge hU;let⟨y0,hy0,hX⟩:=gd hX;let⟨y1,hy1,hX⟩:=gd hX;let⟨q',hq',hX⟩:=gd hX;let⟨hus,hone⟩:=ZD (h.op y) k1 h.one;have hlen:=hus.len;let⟨ids',PV',hf,hinv⟩:=h.front1 (w0:=w0) (σ0:=σ0) hs;have hopen:∀w,Inv w0 σ0 Z PV w->Inv w0 σ0 Z (.row (zx C U).o U ((ν.adr id).sub i.toNat) u :: .row (Zd C T) T (ν.hdr id) (hpl C T (ν.adr id).sub s (.out i))::PV') w:=λw hi=>(hinv w hi).sub_own λgg kk=>by
     let⟨h1,h2,m1,m2,n1,n2,dd⟩:=kk.uncons;exact Sep.append (A:=[_,_]) (zb9 (m1:zn (Zd C T) T (ν.hdr id) (hpl C T (ν.adr id).sub s .all) Z h1) hq hu) m2 n1 n2 dd
    have hlq:(C.emb T q).length=C.size T:=C.len T q;have hnlt:C.nst T < C.size T:=by
     have hh:Zn C T q ≠.und:=by grind
     unfold Zn at hh;cases hg:(C.emb T q)[C.nst T]? with
     |none=>grind
     |some A=>grind
    have hbq:∀A∈(C.emb T q).set (C.nst T) (.sl U (u.set k y1) I),A.base=true:=λA hA=>by
     rcases qC hA with z | z
     ·exact C.base T q A z
     ·rw[z];rfl
    have heq:∀(j:Nat),(C.emb T q')[j]?=((C.emb T q).set (C.nst T) (.sl U (u.set k y1) I))[j]?:=λj=>by
     cases hj:((C.emb T q).set (C.nst T) (.sl U (u.set k y1) I))[j]? with
     |none=>
      rw[qG] at hj |-
      rw[qE,C.len] at hj;rw[C.len];exact hj
     |some A=>exact zdD hq' hj (hbq A (UW hj))
    refine OpA.pv hopen ?_ out hX;refine OpA.of3 (zbc (T:=zx C U) (q:=y0) (q':=y1) (us:=(opv L b y).cells.toList) 0 rfl hi' hx rfl (by rw[k2,hlen]) (by grind) hone hy0 (by rw[hlen];exact k3) (λcs hcs=>?_) λr hr=>⟨_,_,(V.inj hr).symm,⟨ν,vs,id::ids',hf.setO0 (e' :=.orow T (s.set i q') .all) hs (λcs e=>by cases e)⟩,λw hi=>hi.sub_own λgg kk=>?_⟩)
    ·have hcv:=zbE (ν:=ν) hcs;have hnew:=((hcv.take off).append hus).append (hcv.drop (off+(opv L b y).cells.toList.length));have e:(C.emb U y0).drop (off+(opv L b y).cells.toList.length)=(C.emb U y0).drop (off+(zr (S.op y)).length):=by rw[hlen]
     rw[e] at hnew;exact WI hnew hy1
    ·let⟨h1,h2,m1,m2,n1,n2,dd⟩:=Sep.split (A:=[_,_]) kk;refine .cons (h1:=h1) (ziJ m1 hq ?_ λj hj=>?_) m2 n1 n2 dd
     ·unfold Zn;grind
     grind
   ·cases hX
  ·cases hX
 ·cases hX
end
end
section
variable [Dfr]
inductive Sh where
 |int (k:IntKind)
 |bool
 |str
 |val (T:Nat)
 |sl (T:Nat)
 |row (k:Nat)
 |pc (k off:Nat)
 |pr (k T off:Nat)
 |nx (k T:Nat)
 |nxe (k T U off:Nat)
 |nxp (k T U:Nat)
 |orow (T:Nat)
 |pz (T off:Nat)
 |pnil
 |nils
 |nilf
 |nili
 |und
 |clo (f:Nat) (l:List Sh)
 |agg (l:List Sh)
 |tup (l:List Sh)
 |ifc (t:Nat) (s:Sh)
mutual
def Sh.unit:Sh->Bool
 | .row _=>G
 | .pc _ _=>G
 | .pnil=>G
 | .nils=>G
 | .nilf=>G
 | .nili=>G
 | .und=>G
 | .clo _ l=>Sh.units l
 | .agg l=>Sh.units l
 | .tup l=>Sh.units l
 | .ifc _ s=>s.unit
 |_=>I
def Sh.units:List Sh->Bool
 |[]=>G
 |s::l=>s.unit && Sh.units l
end
def Pty(u v:Bool)(A B:Type):Type:=match u,v with
 |true,_=>B
 |false,G=>A
 |false,I=>A×B
def Pty.mk{u v:Bool}{A B:Type}(x:A)(y:B):Pty u v A B:=match u,v with
 |true,_=>y
 |false,G=>x
 |false,I=>(x,y)
def Pty.fst{u v:Bool}{A B:Type}(d:u=G->A)(p:Pty u v A B):A:=match u,v,d,p with
 |true,_,d,_=>d rfl
 |false,G,_,x=>x
 |false,I,_,x=>x.1
def Pty.snd{u v:Bool}{A B:Type}(d:v=G->B)(p:Pty u v A B):B:=match u,v,d,p with
 |true,_,_,y=>y
 |false,G,d,_=>d rfl
 |false,I,_,x=>x.2
theorem Pty.fst_mk{u v:Bool}{A B:Type}{d:u=G->A}{x:A}{y:B}(h:∀e,d e=x):Pty.fst d (Pty.mk (u:=u) (v:=v) x y)=x:=by
 cases u<;>cases v<;>first | exact h rfl | rfl
theorem Pty.snd_mk{u v:Bool}{A B:Type}{d:v=G->B}{x:A}{y:B}(h:∀e,d e=y):Pty.snd d (Pty.mk (u:=u) (v:=v) x y)=y:=by
 cases u<;>cases v<;>first | exact h rfl | rfl
mutual
def Sh.ty(C:Cod):Sh->Type
 | .int _=>Int
 | .bool=>Bool
 | .str=>ByteArray
 | .val T=>C.D T
 | .sl T=>Sl (C.D T)
 | .pr _ _ _=>Int
 | .nx _ _=>Int
 | .nxe _ _ _ _=>Int×Int
 | .nxp _ _ _=>Int×Int×Int
 | .orow T=>Sl (C.D T)
 | .pz T _=>C.D T
 | .clo _ l=>Sh.tys C l
 | .agg l=>Sh.tys C l
 | .tup l=>Sh.tys C l
 | .ifc _ s=>s.ty C
 | .row _=>Unit
 | .pc _ _=>Unit
 | .pnil=>Unit
 | .nils=>Unit
 | .nilf=>Unit
 | .nili=>Unit
 | .und=>Unit
def Sh.tys(C:Cod):List Sh->Type
 |[]=>Unit
 |s::l=>Pty s.unit (Sh.units l) (s.ty C) (Sh.tys C l)
end
mutual
def Sh.dflt(C:Cod):(s:Sh)->s.unit=G->s.ty C
 | .row _,_=>()
 | .pc _ _,_=>()
 | .pnil,_=>()
 | .nils,_=>()
 | .nilf,_=>()
 | .nili,_=>()
 | .und,_=>()
 | .clo _ l,h=>Sh.dflts C l h
 | .agg l,h=>Sh.dflts C l h
 | .tup l,h=>Sh.dflts C l h
 | .ifc _ s,h=>s.dflt C h
def Sh.dflts(C:Cod):(l:List Sh)->Sh.units l=G->Sh.tys C l
 |[],_=>()
 |s::l,h=>Pty.mk (s.dflt C (qo.1 h).1) (Sh.dflts C l (qo.1 h).2)
end
section
variable {C:Cod}
theorem Pty.unique{u v:Bool}{A B:Type}(hu:u=G)(hB:v=G->∀x y:B,x=y)(hv:v=G):∀x y:Pty u v A B,x=y:=by
 subst hu;subst hv;exact hB rfl
omit [Dfr] in
mutual
theorem Sh.unique:∀(s:Sh),s.unit=G->∀x y:s.ty C,x=y
 | .row _,_=>λ_ _=>rfl
 | .pc _ _,_=>λ_ _=>rfl
 | .pnil,_=>λ_ _=>rfl
 | .nils,_=>λ_ _=>rfl
 | .nilf,_=>λ_ _=>rfl
 | .nili,_=>λ_ _=>rfl
 | .und,_=>λ_ _=>rfl
 | .clo _ l,h=>Sh.uniques l h
 | .agg l,h=>Sh.uniques l h
 | .tup l,h=>Sh.uniques l h
 | .ifc _ s,h=>s.unique h
theorem Sh.uniques:∀(l:List Sh),Sh.units l=G->∀x y:Sh.tys C l,x=y
 |[],_=>λ_ _=>rfl
 |s::l,h=>Pty.unique (qo.1 h).1 (λhv=>Sh.uniques l hv) (qo.1 h).2
end
abbrev Sh.hd{s:Sh}{l:List Sh}(p:Sh.tys C (s::l)):s.ty C:=Pty.fst (s.dflt C) p
abbrev Sh.tl{s:Sh}{l:List Sh}(p:Sh.tys C (s::l)):Sh.tys C l:=Pty.snd (Sh.dflts C l) p
abbrev Sh.pk{s:Sh}{l:List Sh}(x:s.ty C)(y:Sh.tys C l):Sh.tys C (s::l):=Pty.mk x y
theorem Sh.hd_pk{s:Sh}{l:List Sh}{x:s.ty C}{y:Sh.tys C l}:Sh.hd (Sh.pk x y:Sh.tys C (s::l))=x:=Pty.fst_mk λe=>s.unique e _ _
theorem Sh.tl_pk{s:Sh}{l:List Sh}{x:s.ty C}{y:Sh.tys C l}:Sh.tl (Sh.pk x y:Sh.tys C (s::l))=y:=Pty.snd_mk λe=>Sh.uniques l e _ _
def zsp{D:Nat->Type}:AV D->Bool
 | .agg _=>G
 |_=>I
def Xq{T T':Nat}(s:Sl (C.D T')):U7 (Sl (C.D T)):=if h:T'=T then E (h ▸ s) else F
def zja{T T':Nat}(s:C.D T'):U7 (C.D T):=if h:T'=T then E (h ▸ s) else F
def VL:U7 Nat->Nat->Bool
 |some a,b=>M a b
 |none,_=>I
def Sh.isVal:Sh->U7 Nat
 | .val T=>E T
 |_=>F
def zBa(s:Sh){T:Nat}(z:C.D T):U7 (s.ty C):=match s with
 | .val T'=>zja z
 |_=>F
def Sh.vcells{C:Cod}(s:Sh)(x:s.ty C):List (AV C.D):=match s,x with
 | .val T,x=>C.emb T x
 |_,_=>[]
mutual
def Sh.get(B:Nat->U7 Nat):(s:Sh)->AV C.D->U7 (s.ty C)
 | .int k,A=>(match A with
  | .int k' n=>chk (decide (k=k')) (E n)
  |_=>F)
 | .bool,A=>(match A with
  | .bool b=>E b
  |_=>F)
 | .str,A=>(match A with
  | .str s=>E s
  |_=>F)
 | .val T,A=>chk (YQ A && (zsp A == C.agg T)) (C.imp T (zr A))
 | .sl T,A=>(match A with
  | .sl _ s _=>Xq s
  | .nils=>E ⟨[],I⟩
  |_=>F)
 | .pr k T off,A=>(match A with
  | .pr id T' i off'=>chk (VL (B k) id && (M T T' && M off off')) (E i)
  |_=>F)
 | .nx k T,A=>(match A with
  | .nx id T' i .whole=>chk (VL (B k) id && M T T') (E i)
  |_=>F)
 | .nxe k T U off,A=>(match A with
  | .nx id T' i (.elem U' j off')=>chk (VL (B k) id && (M T T' && (M U U' && M off off'))) (E (i,j))
  |_=>F)
 | .nxp k T U,A=>(match A with
  | .nx id T' i (.part U' lo hi)=>chk (VL (B k) id && (M T T' && M U U')) (E (i,lo,hi))
  |_=>F)
 | .orow T,A=>(match A with
  | .clo 0 [.sl _ s _]=>Xq s
  | .clo 1 [.int _ k,.sl _ s _]=>chk (decide (s.len<=k)) (Xq s)
  |_=>F)
 | .pz T off,A=>(match A with
  | .pz _ x off'=>chk (M off off') (zja x)
  |_=>F)
 | .row k,A=>(match A with
  | .row id=>chk (VL (B k) id) (E ())
  |_=>F)
 | .pc k off,A=>(match A with
  | .pc id off'=>chk (VL (B k) id && M off off') (E ())
  |_=>F)
 | .pnil,A=>(match A with
  | .pnil=>E ()
  |_=>F)
 | .nils,A=>(match A with
  | .nils=>E ()
  |_=>F)
 | .nilf,A=>(match A with
  | .nilf=>E ()
  |_=>F)
 | .nili,A=>(match A with
  | .nili=>E ()
  |_=>F)
 | .und,_=>E ()
 | .clo f l,A=>(match A with
  | .clo f' cs=>chk (M f f') (Sh.gets B l cs)
  |_=>F)
 | .agg l,A=>(match A with
  | .agg cs=>Sh.getc B l cs
  |_=>F)
 | .tup l,A=>(match A with
  | .tup cs=>Sh.gets B l cs
  |_=>F)
 | .ifc t s,A=>(match A with
  | .ifc t' A=>chk (M t t') (Sh.get B s A)
  |_=>F)
def Sh.gets(B:Nat->U7 Nat):(l:List Sh)->List (AV C.D)->U7 (Sh.tys C l)
 |[],As=>(match As with
  |[]=>E ()
  |_::_=>F)
 |s::l,As=>(match As with
  |A::As=>(Sh.get B s A).bind λx=>(Sh.gets B l As).bind λy=>E (Sh.pk x y)
  |[]=>F)
def Sh.getc(B:Nat->U7 Nat):(l:List Sh)->List (AV C.D)->U7 (Sh.tys C l)
 |[],As=>(match As with
  |[]=>E ()
  |_::_=>F)
 |s::l,As=>(match Sh.isVal s with
  |some T=>(C.imp T (As.take (C.size T))).bind λz=>(zBa s z).bind λx=>(Sh.getc B l (As.drop (C.size T))).bind λy=>E (Sh.pk x y)
  |none=>(match As with
   |A::As=>(Sh.get B s A).bind λx=>(Sh.getc B l As).bind λy=>E (Sh.pk x y)
   |[]=>F))
end
mutual
def Sh.put(ρ:Nat->Nat):(s:Sh)->s.ty C->AV C.D
 | .int k,n =>.int k n
 | .bool,b =>.bool b
 | .str,s =>.str s
 | .val T,x=>zbB (C.agg T) (C.emb T x)
 | .sl T,s =>.sl T s I
 | .pr k T off,i =>.pr (ρ k) T i off
 | .nx k T,i =>.nx (ρ k) T i .whole
 | .nxe k T U off,i =>.nx (ρ k) T i.1 (.elem U i.2 off)
 | .nxp k T U,i =>.nx (ρ k) T i.1 (.part U i.2.1 i.2.2)
 | .orow _,_ =>.und
 | .pz T off,x =>.pz T x off
 | .row k,_ =>.row (ρ k)
 | .pc k off,_ =>.pc (ρ k) off
 | .pnil,_ =>.pnil
 | .nils,_ =>.nils
 | .nilf,_ =>.nilf
 | .nili,_ =>.nili
 | .und,_ =>.und
 | .clo f l,x =>.clo f (Sh.puts ρ l x)
 | .agg l,x =>.agg (Sh.putc ρ l x)
 | .tup l,x =>.tup (Sh.puts ρ l x)
 | .ifc t s,x =>.ifc t (Sh.put ρ s x)
def Sh.puts(ρ:Nat->Nat):(l:List Sh)->Sh.tys C l->List (AV C.D)
 |[],_=>[]
 |s::l,x=>Sh.put ρ s (Sh.hd x)::Sh.puts ρ l (Sh.tl x)
def Sh.putc(ρ:Nat->Nat):(l:List Sh)->Sh.tys C l->List (AV C.D)
 |[],_=>[]
 |s::l,x=>match Sh.isVal s with
  |some _=>Sh.vcells s (Sh.hd x)++Sh.putc ρ l (Sh.tl x)
  |none=>Sh.put ρ s (Sh.hd x)::Sh.putc ρ l (Sh.tl x)
end
end
end
section
variable [Dfr]
section
variable {C:Cod}{Z:FS}{ν ν':Val}{B:Nat->U7 Nat}{ρ:Nat->Nat}
theorem yH{T T':Nat}{s:Sl (C.D T')}{s':Sl (C.D T)}(h:Xq s=E s'):∃e:T'=T,e ▸ s=s':=by
 unfold Xq at h;grind
theorem zgs{T T':Nat}{s:C.D T'}{s':C.D T}(h:zja s=E s'):∃e:T'=T,e ▸ s=s':=by
 unfold zja at h;grind
theorem yw{x:U7 Nat}{a:Nat}(h:VL x a=G):x=E a:=by
 cases x with
 |none=>cases h
 |some b=>rw[ge h]
theorem ziN{us:List Value}{cs ds:List (AV C.D)}(h:VRs C Z ν us cs)(l:zfl cs ds)(hb:∀A∈ds,A.base=G):VRs C Z ν' us ds:=
 .of (by rw[(zbK h l).len]) λj u A h1 h2=>((zbK h l).rel h1 h2 |>.rv (hb A (UW h2))).vr
structure Rn(B:Nat->U7 Nat)(ρ:Nat->Nat)(ν ν':Val):Prop where
 eq:∀k id,B k=E id->ν'.hdr (ρ k)=ν.hdr id/\ν'.adr (ρ k)=ν.adr id
 one:∀i,(ν.hdr i).oneCell'=G
omit [Dfr] in
mutual
theorem Sh.get_put(hν:Rn B ρ ν ν'):∀(s:Sh) {A:AV C.D}{x:s.ty C},Sh.get B s A=E x->∀{v:Value},VR C Z ν v A->VR C Z ν' v (Sh.put ρ s x)
 | .int k,A,x,h,v,r=>by
  cases A<;>first | (cases h;done) | skip
  let⟨hk,h⟩:=zb h;cases h;obtain rfl:=Dy hk;exact(r:Rv C Z v _)
 | .bool,A,x,h,v,r=>by
  cases A<;>first | (cases h;done) | skip
  cases h;exact(r:Rv C Z v _)
 | .str,A,x,h,v,r=>by
  cases A<;>first | (cases h;done) | skip
  cases h;exact(r:Rv C Z v _)
 | .val T,A,x,h,v,r=>by
  let⟨hc,h⟩:=zb h;simp only[gf,beq_iff_eq] at hc;let⟨hr,_⟩:=ZD r hc.1 hν.one;have h2:VRs C Z ν' v.cells.toList (C.emb T x):=ziN hr (C.imp_ok T _ x h) (C.base T x);have hv:v=yA (C.agg T) v.cells.toList:=by
   rcases zdb hc.1 with hl | ⟨cs,rfl,_⟩
   ·have h1:=r.one hl hν.one;have:zsp A=false:=by cases A<;>first | rfl | cases hl
    rw[<- hc.2,this];cases v<;>simp_all[Value.oneCell',Value.cells,yA]
   ·obtain⟨vs,rfl,_⟩:=r;rw[<- hc.2];rfl
  rw[hv];exact h2.val
 | .sl T,A,x,h,v,r=>by
  cases A<;>first | (cases h;done) | skip
  ·obtain⟨e,rfl⟩:=yH h;subst e;exact(Rv.of_vrel (r.sl_vrel)).vr
  ·cases h;exact zf9 (A :=.nils) r (.inr (.inr ⟨T,I,rfl,rfl⟩))
 | .pr k T off,A,x,h,v,r=>by
  cases A<;>first | (cases h;done) | skip
  let⟨hc,h⟩:=zb h;simp only[gf] at hc;cases h;obtain rfl:=ge hc.2.1;obtain rfl:=ge hc.2.2;show v = .pointer (E (zh (ν'.hdr (ρ k)) _));rw[(hν.eq k _ (yw hc.1)).1];exact r
 | .nx k T,A,x,h,v,r=>by
  cases A<;>first | (cases h;done) | skip
  rename_i id T' i nx;cases nx<;>first | (cases h;done) | skip
  let⟨hc,h⟩:=zb h;simp only[gf] at hc;cases h;obtain rfl:=ge hc.2;refine⟨?_,r.2⟩;rw[(hν.eq k _ (yw hc.1)).2];exact r.1
 | .nxe k T U off,A,x,h,v,r=>by
  cases A<;>first | (cases h;done) | skip
  rename_i id T' i nx;cases nx<;>first | (cases h;done) | skip
  let⟨hc,h⟩:=zb h;simp only[gf] at hc;cases h;obtain rfl:=ge hc.2.1;obtain rfl:=ge hc.2.2.1;obtain rfl:=ge hc.2.2.2;refine⟨?_,r.2⟩;rw[(hν.eq k _ (yw hc.1)).2];exact r.1
 | .nxp k T U,A,x,h,v,r=>by
  cases A<;>first | (cases h;done) | skip
  rename_i id T' i nx;cases nx<;>first | (cases h;done) | skip
  let⟨hc,h⟩:=zb h;simp only[gf] at hc;cases h;obtain rfl:=ge hc.2.1;obtain rfl:=ge hc.2.2;refine⟨?_,r.2⟩;rw[(hν.eq k _ (yw hc.1)).2];exact r.1
 | .orow T,A,x,h,v,r=>trivial
 | .pz T off,A,x,h,v,r=>by
  cases A<;>first | (cases h;done) | skip
  let⟨hc,h2⟩:=zb h;obtain rfl:=ge hc;obtain⟨e,rfl⟩:=zgs h2;subst e;exact(r:Rv C Z v _)
 | .row k,A,x,h,v,r=>by
  cases A<;>first | (cases h;done) | skip
  let⟨hc,h⟩:=zb h;show v=ν'.hdr (ρ k);rw[(hν.eq k _ (yw hc)).1];exact r
 | .pc k off,A,x,h,v,r=>by
  cases A<;>first | (cases h;done) | skip
  let⟨hc,h⟩:=zb h;simp only[gf] at hc;obtain rfl:=ge hc.2;show v = .pointer (E ((ν'.adr (ρ k)).add _));rw[(hν.eq k _ (yw hc.1)).2];exact r
 | .pnil,A,x,h,v,r=>by
  cases A<;>first | (cases h;done) | exact(r:Rv C Z v _)
 | .nils,A,x,h,v,r=>by
  cases A<;>first | (cases h;done) | exact r
 | .nilf,A,x,h,v,r=>by
  cases A<;>first | (cases h;done) | exact(r:Rv C Z v _)
 | .nili,A,x,h,v,r=>by
  cases A<;>first | (cases h;done) | exact(r:Rv C Z v _)
 | .und,A,x,h,v,r=>trivial
 | .clo f l,A,x,h,v,r=>by
  cases A<;>first | (cases h;done) | skip
  let⟨hc,h2⟩:=zb h;obtain rfl:=ge hc;let⟨vs,e,r⟩:=r;exact⟨vs,e,Sh.gets_puts hν l h2 r⟩
 | .agg l,A,x,h,v,r=>by
  cases A<;>first | (cases h;done) | skip
  let⟨vs,e,r⟩:=r;exact⟨vs,e,Sh.getc_putc hν l h r⟩
 | .tup l,A,x,h,v,r=>by
  cases A<;>first | (cases h;done) | skip
  let⟨vs,e,r⟩:=r;exact⟨vs,e,Sh.gets_puts hν l h r⟩
 | .ifc t s,A,x,h,v,r=>by
  cases A<;>first | (cases h;done) | skip
  let⟨hc,h2⟩:=zb h;obtain rfl:=ge hc;let⟨u,e,r⟩:=r;exact⟨u,e,Sh.get_put hν s h2 r⟩
theorem Sh.gets_puts(hν:Rn B ρ ν ν'):∀(l:List Sh) {As:List (AV C.D)}{x:Sh.tys C l},Sh.gets B l As=E x->∀{vs:List Value},VRs C Z ν vs As->VRs C Z ν' vs (Sh.puts ρ l x)
 |[],[],x,h,[],r=>trivial
 |s::l,A::As,x,h,v::vs,r=>by
  let⟨y,hy,h⟩:=gd h;let⟨z,hz,h⟩:=gd h;cases h;simp only[Sh.puts,Sh.hd_pk,Sh.tl_pk];exact⟨Sh.get_put hν s hy r.1,Sh.gets_puts hν l hz r.2⟩
 |[],_::_,x,h,_,r=>by cases h
 |_::_,[],x,h,_,r=>by cases h
 |[],[],x,h,_::_,r=>r.elim
 |_::_,_::_,x,h,[],r=>r.elim
theorem Sh.getc_putc(hν:Rn B ρ ν ν'):∀(l:List Sh) {As:List (AV C.D)}{x:Sh.tys C l},Sh.getc B l As=E x->∀{vs:List Value},VRs C Z ν vs As->VRs C Z ν' vs (Sh.putc ρ l x)
 |[],As,x,h,vs,r=>by
  cases As with
  |nil=>cases vs with
   |nil=>trivial
   |cons=>exact r.elim
  |cons=>cases h
 |s::l,As,x,h,vs,r=>by
  have gen:∀{A:AV C.D} {As:List (AV C.D)},((Sh.get B s A).bind λx=>(Sh.getc B l As).bind λy=>E (Sh.pk x y))=E x->VRs C Z ν vs (A::As)->VRs C Z ν' vs (Sh.put ρ s (Sh.hd x)::Sh.putc ρ l (Sh.tl x)):=by
   intro A As h r;let⟨y,hy,h⟩:=gd h;let⟨z,hz,h⟩:=gd h;cases h;cases vs with
   |nil=>exact r.elim
   |cons v vs=>
    simp only[Sh.hd_pk,Sh.tl_pk];exact⟨Sh.get_put hν s hy r.1,Sh.getc_putc hν l hz r.2⟩
  unfold Sh.getc at h;unfold Sh.putc;cases hs:Sh.isVal s with
  |some T=>
   obtain rfl:s = .val T:=by cases s<;>first | cases hs;rfl | cases hs
   simp only[hs] at h |-
   let⟨w,hw,h⟩:=gd h;let⟨y,hy,h⟩:=gd h;let⟨z,hz,h⟩:=gd h;obtain⟨e,rfl⟩:=zgs hy;cases h;rw[show Sh.hd (s :=.val T) (l:=l) (Sh.pk (s :=.val T) w z)=w from Sh.hd_pk,show Sh.tl (s :=.val T) (l:=l) (Sh.pk (s :=.val T) w z)=z from Sh.tl_pk];rw[<- List.take_append_drop (C.size T) vs];exact(ziN (r.take _) (C.imp_ok T _ w hw) (C.base T w)).append (Sh.getc_putc hν l hz (r.drop _))
  |none=>
   grind
end
def InB(B:Nat->U7 Nat)(ρ:Nat->Nat)(j:Nat):Prop:=∃k id,B k=E id/\j=ρ k
omit [Dfr] in
mutual
theorem Sh.put_ok:∀(s:Sh) {A:AV C.D}{x:s.ty C},Sh.get B s A=E x->(Sh.put ρ s x).ok (InB B ρ)
 | .int k,A,x,h=>trivial
 | .bool,A,x,h=>trivial
 | .str,A,x,h=>trivial
 | .val T,A,x,h=>znm zbd
 | .sl T,A,x,h=>trivial
 | .pr k T off,A,x,h=>by
  cases A<;>first | (cases h;done) | skip
  let⟨hc,h⟩:=zb h;simp only[gf] at hc;exact⟨k,_,yw hc.1,rfl⟩
 | .nx k T,A,x,h=>by
  cases A<;>first | (cases h;done) | skip
  rename_i id T' i nx;cases nx<;>first | (cases h;done) | skip
  let⟨hc,h⟩:=zb h;simp only[gf] at hc;exact⟨k,_,yw hc.1,rfl⟩
 | .nxe k T U off,A,x,h=>by
  cases A<;>first | (cases h;done) | skip
  rename_i id T' i nx;cases nx<;>first | (cases h;done) | skip
  let⟨hc,h⟩:=zb h;simp only[gf] at hc;exact⟨k,_,yw hc.1,rfl⟩
 | .nxp k T U,A,x,h=>by
  cases A<;>first | (cases h;done) | skip
  rename_i id T' i nx;cases nx<;>first | (cases h;done) | skip
  let⟨hc,h⟩:=zb h;simp only[gf] at hc;exact⟨k,_,yw hc.1,rfl⟩
 | .orow T,A,x,h=>trivial
 | .pz T off,A,x,h=>trivial
 | .row k,A,x,h=>by
  cases A<;>first | (cases h;done) | skip
  let⟨hc,h⟩:=zb h;exact⟨k,_,yw hc,rfl⟩
 | .pc k off,A,x,h=>by
  cases A<;>first | (cases h;done) | skip
  let⟨hc,h⟩:=zb h;simp only[gf] at hc;exact⟨k,_,yw hc.1,rfl⟩
 | .pnil,A,x,h=>trivial
 | .nils,A,x,h=>trivial
 | .nilf,A,x,h=>trivial
 | .nili,A,x,h=>trivial
 | .und,A,x,h=>trivial
 | .clo f l,A,x,h=>by
  cases A<;>first | (cases h;done) | skip
  let⟨hc,h⟩:=zb h;exact Sh.puts_ok l h
 | .agg l,A,x,h=>by
  cases A<;>first | (cases h;done) | skip
  exact Sh.putc_ok l h
 | .tup l,A,x,h=>by
  cases A<;>first | (cases h;done) | skip
  exact Sh.puts_ok l h
 | .ifc t s,A,x,h=>by
  cases A<;>first | (cases h;done) | skip
  let⟨hc,h⟩:=zb h;exact Sh.put_ok s h
theorem Sh.puts_ok:∀(l:List Sh) {As:List (AV C.D)}{x:Sh.tys C l},Sh.gets B l As=E x->AV.oks (InB B ρ) (Sh.puts ρ l x)
 |[],_,_,_=>trivial
 |s::l,[],x,h=>by cases h
 |s::l,A::As,x,h=>by
  let⟨y,hy,h⟩:=gd h;let⟨z,hz,h⟩:=gd h;cases h;simp only[Sh.puts,Sh.hd_pk,Sh.tl_pk];exact⟨Sh.put_ok s hy,Sh.puts_ok l hz⟩
theorem Sh.putc_ok:∀(l:List Sh) {As:List (AV C.D)}{x:Sh.tys C l},Sh.getc B l As=E x->AV.oks (InB B ρ) (Sh.putc ρ l x)
 |[],_,_,_=>trivial
 |s::l,As,x,h=>by
  have gen:∀{A:AV C.D} {As:List (AV C.D)},((Sh.get B s A).bind λx=>(Sh.getc B l As).bind λy=>E (Sh.pk x y))=E x->AV.oks (InB B ρ) (Sh.put ρ s (Sh.hd x)::Sh.putc ρ l (Sh.tl x)):=by
   intro A As h;let⟨y,hy,h⟩:=gd h;let⟨z,hz,h⟩:=gd h;cases h;simp only[Sh.hd_pk,Sh.tl_pk];exact⟨Sh.put_ok s hy,Sh.putc_ok l hz⟩
  unfold Sh.getc at h;unfold Sh.putc;cases hs:Sh.isVal s with
  |some T=>
   obtain rfl:s = .val T:=by cases s<;>first | cases hs;rfl | cases hs
   simp only[hs] at h |-
   let⟨w,hw,h⟩:=gd h;let⟨y,hy,h⟩:=gd h;let⟨z,hz,h⟩:=gd h;cases h;simp only[Sh.hd_pk,Sh.tl_pk];exact AV.oks_append zbd (Sh.putc_ok l hz)
  |none=>
   simp only[hs] at h |-
   cases As with
   |nil=>cases h
   |cons A As=>exact gen h
end
end
variable [Dfr]
inductive ESh where
 |cell (l:List Sh)
 |row (T:Nat)
 |obj (k T:Nat)
 |orow (T:Nat)
 |xrow (T:Nat)
 |forow (T:Nat)
 |gone
def ESh.sh:ESh->Sh
 | .cell l =>.agg l
 | .row T =>.sl T
 | .obj k T =>.ifc k (.tup [.str,.sl T])
 | .orow T =>.orow T
 | .xrow T =>.clo 1 [.int .i64,.sl T]
 | .forow T =>.orow T
 | .gone =>.und
def ESh.isGone:ESh->Bool
 | .gone=>G
 |_=>I
structure Sig where
 ts:List (Nat×Sh)
 es:List ESh
def Sig.shs(g:Sig):List Sh:=g.ts.map (·.2)++g.es.map ESh.sh
abbrev Sig.ty(C:Cod)(g:Sig):Type:=Sh.tys C g.shs
section
variable {C:Cod}
def WT(ρ:Nat->Nat):(ts:List (Nat×Sh))->(rest:List Sh)->Sh.tys C (ts.map (·.2)++rest)->Nat->AV C.D
 |[],_,_=>λ_ =>.und
 |(t,s)::ts,rest,x=>λi=>bif M i t then Sh.put ρ s (Sh.hd (s:=s) (l:=ts.map (·.2)++rest) x) else WT ρ ts rest (Sh.tl (s:=s) (l:=ts.map (·.2)++rest) x) i
def WU:(ts:List (Nat×Sh))->(rest:List Sh)->Sh.tys C (ts.map (·.2)++rest)->Sh.tys C rest
 |[],_,x=>x
 |(t,s)::ts,rest,x=>WU ts rest (Sh.tl (s:=s) (l:=ts.map (·.2)++rest) x)
def ESh.ent(ρ:Nat->Nat):(e:ESh)->e.sh.ty C->U7 (Ent C)
 | .cell l,x=>E (.cell (Sh.putc ρ l x))
 | .row T,s=>E (.row T s)
 | .obj k T,x=>E (.obj k T (Sh.hd (s :=.str) (l:=[.sl T]) x) (Sh.hd (s :=.sl T) (l:=[]) (Sh.tl (s :=.str) (l:=[.sl T]) x)))
 | .orow T,s=>E (.orow T s .all)
 | .xrow T,x=>E (.orow T (Sh.hd (s :=.sl T) (l:=[]) (Sh.tl (s :=.int .i64) (l:=[.sl T]) x)) (.upto (Sh.hd (s :=.int .i64) (l:=[.sl T]) x)))
 | .forow T,s=>E (.orow T s .fix)
 | .gone,_=>F
def ZN(ρ:Nat->Nat):(es:List ESh)->Nat->Sh.tys C (es.map ESh.sh)->Nat->U7 (Ent C)
 |[],_,_=>λ_=>F
 |e::es,k,x=>λi=>bif M i (ρ k) then e.ent ρ (Sh.hd (s:=e.sh) (l:=es.map ESh.sh) x) else ZN ρ es (k+1) (Sh.tl (s:=e.sh) (l:=es.map ESh.sh) x) i
def Sig.open(g:Sig)(x:g.ty C):St C:=
 {env:=WT (λk=>k) g.ts (g.es.map ESh.sh) x,heap:=ZN (λk=>k) g.es 0 (WU g.ts (g.es.map ESh.sh) x)}
def zjb:U7 (Ent C)->AV C.D
 |some (.cell cs) =>.agg cs
 |some (.row T s) =>.sl T s I
 |some (.obj k T b s) =>.ifc k (.tup [.str b,.sl T s I])
 |some (.orow T s .all) =>.clo 0 [.sl T s I]
 |some (.orow T s .fix) =>.clo 0 [.sl T s I]
 |some (.orow T s (.upto k)) =>.clo 1 [.int .i64 k,.sl T s I]
 |some (.orow _ _ (.out _)) =>.und
 |none =>.und
abbrev Bl:=List (U7 Nat)
def Bl.fn(bl:Bl)(k:Nat):U7 Nat:=(bl[k]?).join
def vy(S:St C)(bl:Bl)(k:Nat):AV C.D:=match Bl.fn bl k with
 |some id=>zjb (S.heap id)
 |none =>.und
def zhQ(bl:Bl)(k id:Nat):Bl:=match Bl.fn bl k with
 |some _=>bl
 |none=>bl.set k (E id)
mutual
def zjc:Sh->AV C.D->Bl->Bl
 | .row k,A,bl=>(match A with
  | .row id=>zhQ bl k id
  |_=>bl)
 | .pc k _,A,bl=>(match A with
  | .pc id _=>zhQ bl k id
  |_=>bl)
 | .pr k _ _,A,bl=>(match A with
  | .pr id _ _ _=>zhQ bl k id
  |_=>bl)
 | .nx k _,A,bl=>(match A with
  | .nx id _ _ _=>zhQ bl k id
  |_=>bl)
 | .nxe k _ _ _,A,bl=>(match A with
  | .nx id _ _ _=>zhQ bl k id
  |_=>bl)
 | .nxp k _ _,A,bl=>(match A with
  | .nx id _ _ _=>zhQ bl k id
  |_=>bl)
 | .clo _ l,A,bl=>(match A with
  | .clo _ cs=>zgt l cs bl
  |_=>bl)
 | .agg l,A,bl=>(match A with
  | .agg cs=>zgt l cs bl
  |_=>bl)
 | .tup l,A,bl=>(match A with
  | .tup cs=>zgt l cs bl
  |_=>bl)
 | .ifc _ s,A,bl=>(match A with
  | .ifc _ A=>zjc s A bl
  |_=>bl)
 |_,_,bl=>bl
def zgt:List Sh->List (AV C.D)->Bl->Bl
 |[],_,bl=>bl
 |s::l,As,bl=>(match Sh.isVal s with
  |some T=>zgt l (As.drop (C.size T)) bl
  |none=>(match As with
   |A::As=>zgt l As (zjc s A bl)
   |[]=>bl))
end
def zgu(S:St C):List (Nat×Sh)->Bl->Bl
 |[],bl=>bl
 |(t,s)::ts,bl=>zgu S ts (zjc s (S.env t) bl)
def zgv(S:St C):List ESh->Nat->Bl->Bl
 |[],_,bl=>bl
 |e::es,k,bl=>zgv S es (k+1) (zjc e.sh (vy S bl k) bl)
def zsq:List ESh->Nat->Nat->Bl
 |[],_,_=>[]
 |e::es,k,m=>(bif e.isGone then F else bif O k m then E k else F)::zsq es (k+1) m
def Zy(g:Sig)(m:Nat)(S:St C):Bl:=zgv S g.es 0 (zgu S g.ts (zsq g.es 0 m))
def yd(id:Nat):Bl->Bool
 |[]=>I
 |some a::r=>M a id || yd id r
 |none::r=>yd id r
def zln(m:Nat):List ESh->Bl->Nat->Bool
 |[],[],_=>G
 |e::es,b::bl,k=>(match b with
  |some id=> !e.isGone && (!yd id bl && (!O k m || M k id))
  |none=>e.isGone) && zln m es bl (k+1)
 |_,_,_=>I
def zfC(S:St C)(m:Nat):List ESh->Nat->Bool
 |[],_=>G
 |e::es,k=>(match e with
  | .forow _=> !O k m || Z0 (S.heap k)
  |_=>G) && zfC S m es (k+1)
def YW(g:Sig)(m:Nat)(S:St C)(bl:Bl):U7 (g.ty C):=
 chk (zln m g.es bl 0 && zfC S m g.es 0) (Sh.gets (Bl.fn bl) g.shs (g.ts.map (λt=>S.env t.1)++(Y g.es.length).map (vy S bl)))
mutual
def fzS:Sh->AV C.D->List Nat
 | .sl _,A=>AV.rows A
 | .val _,A=>AV.rows A
 | .clo _ l,A=>(match A with
  | .clo _ cs=>fzL l cs
  |_=>[])
 | .agg l,A=>(match A with
  | .agg cs=>fzL l cs
  |_=>[])
 | .tup l,A=>(match A with
  | .tup cs=>fzL l cs
  |_=>[])
 | .ifc _ s,A=>(match A with
  | .ifc _ A=>fzS s A
  |_=>[])
 |_,_=>[]
def fzL:List Sh->List (AV C.D)->List Nat
 |[],_=>[]
 |s::l,As=>(match Sh.isVal s with
  |some T=>AV.rowss (As.take (C.size T))++fzL l (As.drop (C.size T))
  |none=>(match As with
   |A::As=>fzS s A++fzL l As
   |[]=>[]))
end
def fzT(S:St C):List (Nat×Sh)->List Nat
 |[]=>[]
 |(t,s)::ts=>fzS s (S.env t)++fzT S ts
def fzE(S:St C)(bl:Bl):List ESh->Nat->List Nat
 |[],_=>[]
 |e::es,k=>(match e with
  | .cell l=>(match vy S bl k with
   | .agg cs=>fzL l cs
   |_=>[])
  |_=>[])++fzE S bl es (k+1)
def zgw(C:Cod)(es:List ESh)(k:Nat):U7 (Ent C):=match es[k]? with
 |some (.row T)=>E (.row T ⟨[],I⟩)
 |some (.orow T)=>E (.orow T ⟨[],I⟩ .all)
 |some (.forow T)=>E (.orow T ⟨[],I⟩ .all)
 |_=>F
def zza(C:Cod)(s:Sh):Nat:=match Sh.isVal s with | some T=>C.size T | none=>1
def nilA1(es:List ESh)(t:Nat)(s:Sh)(p:Nat)(S:St C):St C:=match s,S.env t with
 | .row k,.agg cs=>(match cs[p]?,zgw C es k with
  |some .nils,E e=>bif isNone (S.heap (1048576+k)) then {env:=upd S.env t (.agg (cs.set p (.row (1048576+k)))),heap:=upd S.heap (1048576+k) (E e)} else S
  |_,_=>S)
 |_,_=>S
def nilA(es:List ESh)(t:Nat):List Sh->Nat->St C->St C
 |[],_,S=>S
 |s::l,p,S=>nilA es t l (p+zza C s) (nilA1 es t s p S)
def nilT(es:List ESh):List (Nat×Sh)->St C->St C
 |[],S=>S
 |(t,s)::ts,S=>nilT es ts (match s,S.env t with
  | .row k,.nils=>(match zgw C es k with
   |some e=>bif isNone (S.heap (1048576+k)) then {env:=upd S.env t (.row (1048576+k)),heap:=upd S.heap (1048576+k) (E e)} else S
   |none=>S)
  | .agg l,.agg _=>nilA es t l 0 S
  |_,_=>S)
def nil1(es:List ESh)(id:Nat)(s:Sh)(p:Nat)(S:St C):St C:=match s,S.heap id with
 | .row k,E (.cell cs)=>(match cs[p]?,zgw C es k with
  |some .nils,E e=>bif isNone (S.heap (1048576+k)) then {S with heap:=upd (upd S.heap (1048576+k) (E e)) id (E (.cell (cs.set p (.row (1048576+k)))))} else S
  |_,_=>S)
 |_,_=>S
def nilC(es:List ESh)(id:Nat):List Sh->Nat->St C->St C
 |[],_,S=>S
 |s::l,p,S=>nilC es id l (p+zza C s) (nil1 es id s p S)
def zgx(all:List ESh)(bl:Bl)(e:ESh)(k:Nat)(S:St C):St C:=match e,Bl.fn bl k with
 | .cell l,E id=>nilC all id l 0 S
 |_,_=>S
def nilE(all:List ESh)(bl:Bl):List ESh->Nat->St C->St C
 |[],_,S=>S
 |e::es,k,S=>nilE all bl es (k+1) (zgx all bl e k S)
def Sig.prep(g:Sig)(m:Nat)(S:St C):St C:=
 let S1:=nilT g.es g.ts (S.frz (fzT S g.ts))
 let S2:=nilE g.es (Zy g m S1) g.es 0 S1
 S2.frz (fzE S2 (Zy g m S2) g.es 0)
def ztO(bl:Bl)(e:ESh)(k:Nat)(S:St C):St C:=match e,Bl.fn bl k with
 | .xrow _,E id=>(match S.heap id with
  |some (.row T s)=>bif O (C.nst T) (C.size T) then S.owk id (.orow T s (.upto 0)) else S
  |_=>S)
 |_,_=>S
def ztP(bl:Bl):List ESh->Nat->St C->St C
 |[],_,S=>S
 |e::es,k,S=>ztP bl es (k+1) (ztO bl e k S)
def Sig.close(g:Sig)(m:Nat)(S:St C):U7 (g.ty C):=
 let S1:=g.prep m S
 let S2:=ztP (Zy g m S1) g.es 0 S1
 YW g m S2 (Zy g m S2)
end
section
variable {κ:Kp}{C:Cod}{S:St C}{ν:Val}{vs:Nat->List Value}{ids:List Nat}{L:List (Nat×Value)}{b:Nat->Value}{Z:FS}{PV:List Priv}
variable {n:Nat}{w0:Start}{σ0:FS}
theorem zcb{B:Nat->U7 Nat}:∀(ts:List (Nat×Sh)) (rest:List Sh) {avs ravs:List (AV C.D)}{x:Sh.tys C (ts.map (·.2)++rest)},avs.length=ts.length->Sh.gets B (ts.map (·.2)++rest) (avs++ravs)=E x->Sh.gets B rest ravs=E (WU ts rest x)
 |[],rest,avs,ravs,x,hl,h=>by
  have:avs=[]:=UT hl;subst this;exact h
 |(t,s)::ts,rest,A::avs,ravs,x,hl,h=>by
  let⟨y,hy,h⟩:=gd h;let⟨z,hz,h⟩:=gd h;cases h;show Sh.gets B rest ravs=E (WU ts rest (Sh.tl (s:=s) (l:=ts.map (·.2)++rest) (Sh.pk y z)));rw[Sh.tl_pk];exact zcb ts rest (by simpa using hl) hz
 |_::_,_,[],_,_,hl,_=>by simp at hl
theorem zcc {B:Nat->U7 Nat}{ρ:Nat->Nat}{ν':Val}(hν:Rn B ρ ν ν') (rest:List Sh) {ravs:List (AV C.D)}(hv:∀t,VR C Z ν (look L b t) (S.env t)):∀(ts:List (Nat×Sh)) {x:Sh.tys C (ts.map (·.2)++rest)},
    Sh.gets B (ts.map (·.2)++rest) (ts.map (λt=>S.env t.1)++ravs)=E x->∀t,VR C Z ν' (look L b t) (WT ρ ts rest x t)/\(WT ρ ts rest x t).ok (InB B ρ)
 |[],x,h,t=>⟨trivial,trivial⟩
 |(t0,s)::ts,x,h,t=>by
   let⟨y,hy,h⟩:=gd h;let⟨z,hz,h⟩:=gd h;cases h;have ih:=zcc hν rest hv ts hz t;unfold WT;rw[show Sh.hd (s:=s) (l:=ts.map (·.2)++rest) (Sh.pk y z)=y from Sh.hd_pk,show Sh.tl (s:=s) (l:=ts.map (·.2)++rest) (Sh.pk y z)=z from Sh.tl_pk];cases e:M t t0 with
   |true=>
    have:=ge e;subst this;exact⟨Sh.get_put hν s hy (hv t),Sh.put_ok s hy⟩
   |false=>exact ih
theorem za2 {B:Nat->U7 Nat}{ρ:Nat->Nat}{ν':Val}(hν:Rn B ρ ν ν') {N:Nat}(hρ:∀i j,i < N->j < N->ρ i=ρ j->i=j) (hc:∀id cs,S.heap id=E (.cell cs)->VRs C Z ν (vs id) cs):∀(es:List ESh) (k0:Nat) {x:Sh.tys C (es.map ESh.sh)},
    k0+es.length<=N->Sh.gets B (es.map ESh.sh) ((qB k0 es.length).map λk=>match B k with | some id=>zjb (S.heap id) | none =>.und)=E x->
    (∀k e,es[k]?=E e->(e.isGone=G↔B (k0+k)=F))->∀k id,B k=E id->k0<=k->k < k0+es.length->
      (∃cs cs',S.heap id=E (.cell cs)/\ZN ρ es k0 x (ρ k)=E (.cell cs')/\VRs C Z ν' (vs id) cs'/\AV.oks (InB B ρ) cs')\/(∃T s,S.heap id=E (.row T s)/\ZN ρ es k0 x (ρ k)=E (.row T s))\/(∃q T b s,S.heap id=E (.obj q T b s)/\ZN ρ es k0 x (ρ k)=E (.obj q T b s))\/∃T s g g',S.heap id=E (.orow T s g)/\ZN ρ es k0 x (ρ k)=E (.orow T s g')/\∀j,j < s.xs.length->g.fl j=g'.fl j
 |[],k0,x,hN,h,hg,k,id,hB,h1,h2=>by grind
 |e::es,k0,x,hN,h,hg,k,id,hB,h1,h2=>by
  simp only[jz] at hN h2;simp only[jz,List.range'_succ,UI] at h;let⟨y,hy,h⟩:=gd h;let⟨z,hz,h⟩:=gd h;cases h;have ih:=za2 hν hρ hc es (k0+1) (x:=z) (by omega) hz (λj e' he=>by have:=hg (j+1) e' (by simpa using he);grind) k id hB;unfold ZN;rw[show Sh.hd (s:=e.sh) (l:=es.map ESh.sh) (Sh.pk y z)=y from Sh.hd_pk,show Sh.tl (s:=e.sh) (l:=es.map ESh.sh) (Sh.pk y z)=z from Sh.tl_pk];by_cases hk:k=k0
  · subst hk;simp only[Nat.beq_refl,D1];rw[hB] at hy;simp only at hy;have hng:e.isGone=false:=by
      cases hh:e.isGone with
      |false=>rfl
      |true=>have:=(hg 0 e rfl).1 hh;grind
    cases e with
    |gone=>cases hng
    |cell l=>
     left;cases hs:S.heap id with
     |none=>rw[hs] at hy;cases hy
     |some en=>
      rw[hs] at hy;cases en with
      |row T s=>cases hy
      |obj q T b s=>cases hy
      |orow T s g=>cases g<;>cases hy
      |cell cs=>
       have hy:Sh.getc B l cs=E y:=hy;exact⟨cs,_,rfl,rfl,Sh.getc_putc hν l hy (hc id cs hs),Sh.putc_ok l hy⟩
    |row T=>
     right;left;cases hs:S.heap id with
     |none=>rw[hs] at hy;cases hy
     |some en=>
      rw[hs] at hy;cases en with
      |cell cs=>cases hy
      |obj q T b s=>cases hy
      |orow T s g=>cases g<;>cases hy
      |row T' s=>
       let⟨e,he⟩:=yH (show Xq s=E y from hy);subst e;subst he;exact⟨_,_,rfl,rfl⟩
    |obj q T=>
     right;right;left;cases hs:S.heap id with
     |none=>rw[hs] at hy;cases hy
     |some en=>
      rw[hs] at hy;cases en with
      |cell cs=>cases hy
      |row T' s=>cases hy
      |orow T s g=>cases g<;>cases hy
      |obj q' T' b s=>
       let⟨hq,hy2⟩:=zb (show chk (M q q') (Sh.gets B [.str,.sl T] [.str b,.sl T' s I])=E y from hy);have hq:=ge hq;let⟨s',hs',hy4⟩:=gd (show(Sh.gets B [.sl T] [.sl T' s I]).bind (λz=>E (Sh.pk (s :=.str) (l:=[.sl T]) b z))=E y from hy2);let⟨s2,hs2,hs3⟩:=gd (show(Xq s).bind (λz=>E (Sh.pk (s :=.sl T) (l:=[]) z ()))=E s' from hs');cases hs3;cases hy4;subst hq;let⟨e,he⟩:=yH hs2;subst e;subst he;refine⟨_,_,b,_,rfl,?_⟩;show E (Ent.obj q T' (Sh.hd (s :=.str) (l:=[.sl T']) (Sh.pk (s :=.str) (l:=[.sl T']) b (Sh.pk (s :=.sl T') (l:=[]) s ()))) (Sh.hd (s :=.sl T') (l:=[]) (Sh.tl (s :=.str) (l:=[.sl T']) (Sh.pk (s :=.str) (l:=[.sl T']) b (Sh.pk (s :=.sl T') (l:=[]) s ())))))=_;rw[show Sh.hd (s :=.str) (l:=[.sl T']) (Sh.pk (s :=.str) (l:=[.sl T']) b (Sh.pk (s :=.sl T') (l:=[]) s ()))=b from Sh.hd_pk,show Sh.tl (s :=.str) (l:=[.sl T']) (Sh.pk (s :=.str) (l:=[.sl T']) b (Sh.pk (s :=.sl T') (l:=[]) s ()))=_ from Sh.tl_pk,show Sh.hd (s :=.sl T') (l:=[]) (Sh.pk (s :=.sl T') (l:=[]) s ())=s from Sh.hd_pk]
    |orow T=>
     right;right;right;cases hs:S.heap id with
     |none=>rw[hs] at hy;cases hy
     |some en=>
      rw[hs] at hy;cases en with
      |cell cs=>cases hy
      |row T' s=>cases hy
      |obj q' T' b s=>cases hy
      |orow T' s g=>
       cases g with
       |out i=>cases hy
       |all=>
        let⟨e,he⟩:=yH (show Xq s=E y from hy);subst e;subst he;exact⟨_,_,.all,.all,rfl,rfl,λ_ _=>rfl⟩
       |fix=>
        let⟨e,he⟩:=yH (show Xq s=E y from hy);subst e;subst he;exact⟨_,_,.fix,.all,rfl,rfl,λ_ _=>rfl⟩
       |upto k=>
        let⟨hc,hy⟩:=zb (show chk (decide (s.len<=k)) (Xq s)=E y from hy);have hc:=Dy hc;let⟨e,he⟩:=yH hy;subst e;subst he;refine⟨_,_,.upto k,.all,rfl,rfl,λj hj=>?_⟩;show(if j < k.toNat then 1 else 0)=1;rw[jv (by unfold Sl.len at hc;omega)]
    |forow T=>
     right;right;right;cases hs:S.heap id with
     |none=>rw[hs] at hy;cases hy
     |some en=>
      rw[hs] at hy;cases en with
      |cell cs=>cases hy
      |row T' s=>cases hy
      |obj q' T' b s=>cases hy
      |orow T' s g=>
       cases g with
       |out i=>cases hy
       |all=>
        let⟨e,he⟩:=yH (show Xq s=E y from hy);subst e;subst he;exact⟨_,_,.all,.fix,rfl,rfl,λ_ _=>rfl⟩
       |fix=>
        let⟨e,he⟩:=yH (show Xq s=E y from hy);subst e;subst he;exact⟨_,_,.fix,.fix,rfl,rfl,λ_ _=>rfl⟩
       |upto k=>
        let⟨hc,hy⟩:=zb (show chk (decide (s.len<=k)) (Xq s)=E y from hy);have hc:=Dy hc;let⟨e,he⟩:=yH hy;subst e;subst he;refine⟨_,_,.upto k,.fix,rfl,rfl,λj hj=>?_⟩;show(if j < k.toNat then 1 else 0)=1;rw[jv (by unfold Sl.len at hc;omega)]
    |xrow T=>
     right;right;right;cases hs:S.heap id with
     |none=>rw[hs] at hy;cases hy
     |some en=>
      rw[hs] at hy;cases en with
      |cell cs=>cases hy
      |row T' s=>cases hy
      |obj q' T' b s=>cases hy
      |orow T' s g=>
       cases g with
       |out i=>cases hy
       |all=>cases hy
       |fix=>cases hy
       |upto k=>
        let⟨k',hk',hy⟩:=gd (show(Sh.get B (.int .i64) (.int .i64 k)).bind (λx=>(Sh.gets B [.sl T] [.sl T' s I]).bind λz=>E (Sh.pk (s :=.int .i64) (l:=[.sl T]) x z))=E y from hy);let⟨z',hz',hy⟩:=gd hy;let⟨s2,hs2,hs3⟩:=gd (show(Xq s).bind (λz=>E (Sh.pk (s :=.sl T) (l:=[]) z ()))=E z' from hz');cases hs3;cases hy;let⟨_,hk'⟩:=zb hk';cases hk';let⟨e,he⟩:=yH hs2;subst e;subst he;refine⟨_,_,.upto k,.upto k,rfl,?_,λ_ _=>rfl⟩;show E (Ent.orow T' (Sh.hd (s :=.sl T') (l:=[]) (Sh.tl (s :=.int .i64) (l:=[.sl T']) (Sh.pk (s :=.int .i64) (l:=[.sl T']) k (Sh.pk (s :=.sl T') (l:=[]) s ())))) (.upto (Sh.hd (s :=.int .i64) (l:=[.sl T']) (Sh.pk (s :=.int .i64) (l:=[.sl T']) k (Sh.pk (s :=.sl T') (l:=[]) s ())))))=_;rw[show Sh.hd (s :=.int .i64) (l:=[.sl T']) (Sh.pk (s :=.int .i64) (l:=[.sl T']) k (Sh.pk (s :=.sl T') (l:=[]) s ()))=k from Sh.hd_pk,show Sh.tl (s :=.int .i64) (l:=[.sl T']) (Sh.pk (s :=.int .i64) (l:=[.sl T']) k (Sh.pk (s :=.sl T') (l:=[]) s ()))=_ from Sh.tl_pk,show Sh.hd (s :=.sl T') (l:=[]) (Sh.pk (s :=.sl T') (l:=[]) s ())=s from Sh.hd_pk]
  · have hne:M (ρ k) (ρ k0)=false:=by
      cases e':M (ρ k) (ρ k0) with
      |false=>rfl
      |true=>
       exfalso;have e2:=ge e';grind
    grind
end
variable [Dfr]
section
variable {κ:Kp}{C:Cod}{S:St C}{ν:Val}{vs:Nat->List Value}{ids:List Nat}{L:List (Nat×Value)}{b:Nat->Value}{Z:FS}{PV:List Priv}
variable {n:Nat}{w0:Start}{σ0:FS}
theorem Xi{id:Nat}:∀{bl:Bl}{k:Nat},Bl.fn bl k=E id->yd id bl=G
 |[],k,h=>by simp[Bl.fn] at h
 |none::r,0,h=>by simp[Bl.fn] at h
 |some a::r,0,h=>by
  have:a=id:=by simpa[Bl.fn] using h
  subst this;simp[yd]
 |none::r,k+1,h=>by
  have:Bl.fn r k=E id:=by simpa[Bl.fn] using h
  simp[yd,Xi this]
 |some a::r,k+1,h=>by
  have:Bl.fn r k=E id:=by simpa[Bl.fn] using h
  simp[yd,Xi this]
structure BdOK(m:Nat)(es:List ESh)(B:Nat->U7 Nat):Prop where
 gone:∀k e,es[k]?=E e->(e.isGone=G↔B k=F)
 lt:∀k id,B k=E id->k < es.length
 inj:∀i j id,B i=E id->B j=E id->i=j
 same:∀k id,k < m->B k=E id->k=id
theorem znG{m:Nat}:∀{es:List ESh}{bl:Bl}{k0:Nat},zln m es bl k0=G->(∀k e,es[k]?=E e->(e.isGone=G↔Bl.fn bl k=F))/\(∀k id,Bl.fn bl k=E id->k < es.length)/\(∀i j id,Bl.fn bl i=E id->Bl.fn bl j=E id->i=j)/\(∀k id,k0+k < m->Bl.fn bl k=E id->k0+k=id)
 |[],[],k0,h=>⟨λk e he=>by simp at he,λk id he=>by simp[Bl.fn] at he,λi j id he=>by simp[Bl.fn] at he,λk id _ he=>by simp[Bl.fn] at he⟩
 |[],_::_,k0,h=>by cases h
 |_::_,[],k0,h=>by cases h
 |e::es,b::bl,k0,h=>by
  simp only[zln,gf] at h;let⟨h1,h2⟩:=h;let⟨i1,i2,i3,i4⟩:=znG h2;have hs:∀k,Bl.fn (b::bl) (k+1)=Bl.fn bl k:=λk=>by simp[Bl.fn]
  have h0:Bl.fn (b::bl) 0=b:=by simp[Bl.fn]
  refine⟨λk e' he=>?_,λk id he=>?_,λi j id hi hj=>?_,λk id hk he=>?_⟩
  ·cases k with
   |zero=>
    simp at he;grind
   |succ k=>grind
  ·cases k with
   |zero=>simp
   |succ k=>grind
  ·cases i with
   |zero=>
    cases j with
    |zero=>rfl
    |succ j=>
     rw[h0] at hi;subst hi;rw[hs] at hj;simp only[gf,Dz] at h1;rw[Xi hj] at h1;simp at h1
   |succ i=>
    cases j with
    |zero=>
     rw[h0] at hj;subst hj;rw[hs] at hi;simp only[gf,Dz] at h1;rw[Xi hi] at h1;simp at h1
    |succ j=>grind
  ·cases k with
   |zero=>
    rw[h0] at he;subst he;simp only[gf,UR,Dz] at h1;rcases h1.2.2 with q | q
    ·have:¬ O k0 m=true:=by rw[q];simp
     rw[Dd] at this;omega
    ·have:=ge q;omega
   |succ k=>
    grind
omit [Dfr] in
theorem BdOK.of{m:Nat}{es:List ESh}{bl:Bl}(h:zln m es bl 0=G):BdOK m es (Bl.fn bl):=by
 let⟨h1,h2,h3,h4⟩:=znG h;exact⟨h1,h2,h3,λk id hk hb=>by grind⟩
theorem vJ{ρ:Nat->Nat}:∀(es:List ESh) (k0:Nat) {x:Sh.tys C (es.map ESh.sh)}{i:Nat},(∀k e,es[k]?=E e->i=ρ (k0+k)->e.isGone=G)->ZN ρ es k0 x i=F
 |[],_,_,_,_=>rfl
 |e::es,k0,x,i,h=>by
  unfold ZN;cases e':M i (ρ k0) with
  |true=>
   have:=h 0 e rfl (ge e');cases e with
   |gone=>rfl
   |cell=>cases this
   |row=>cases this
   |obj=>cases this
   |orow=>cases this
   |xrow=>cases this
   |forow=>cases this
  |false=>exact vJ es (k0+1) λk e he hi=>h (k+1) e (by simpa using he) (by grind)
theorem zdE{ρ:Nat->Nat}:∀(es:List ESh) (k0:Nat) {x:Sh.tys C (es.map ESh.sh)}{i:Nat},Z0 (ZN ρ es k0 x i)=G->∃k T,es[k]?=E (.forow T)/\i=ρ (k0+k)
 |[],_,_,_,h=>by cases h
 |e::es,k0,x,i,h=>by
  unfold ZN at h;cases e':M i (ρ k0) with
  |true=>
   rw[e',D1] at h;cases e with
   |forow T=>exact⟨0,T,rfl,ge e'⟩
   |gone=>cases h
   |cell=>cases h
   |row=>cases h
   |obj=>cases h
   |orow=>cases h
   |xrow=>cases h
  |false=>
   rw[e',UC] at h;let⟨k,T,h1,h2⟩:=zdE es (k0+1) h;exact⟨k+1,T,by simpa using h1,by grind⟩
theorem znH{m:Nat}:∀{es:List ESh}{k0:Nat},zfC S m es k0=G->∀{k T:Nat},es[k]?=E (.forow T)->k0+k < m->Z0 (S.heap (k0+k))=G
 |[],_,_,k,T,h,_=>by simp at h
 |e::es,k0,h,k,T,hk,hm=>by
  unfold zfC at h;simp only[gf] at h;cases k with
  |zero=>
   simp at hk;subst hk;have h1:=h.1;simp only[UR,Dz] at h1;rcases h1 with q | q
   ·have:O k0 m=true:=by rw[Dd];omega
    grind
   ·exact q
  |succ k=>
   have:=znH h.2 (k:=k) (T:=T) (by simpa using hk) (by omega);grind
theorem AbsL.rename (h:AbsL κ S ν vs ids L b Z PV) {g:Sig}{bl:Bl}{x:g.ty C}(hg:YW g κ.m S bl=E x) :
    ∃ν' vs' ids' PV',AbsL κ (g.open x) ν' vs' ids' L b Z PV'/\∀w,Inv w0 σ0 Z PV w->Inv w0 σ0 Z PV' w:=by
 let⟨hb,hg⟩:=zb hg;let⟨hb,hfx⟩:=(gf _ _).mp hb;have hB:=BdOK.of hb
 let B:=Bl.fn bl
 let ν':Val:={hdr:=λk=>match B k with | some id=>ν.hdr id | none =>.slice F 0 0,adr:=λk=>match B k with | some id=>ν.adr id | none=>default}
 let vs':Nat->List Value:=λk=>match B k with | some id=>vs id | none=>[]
 have hν:Rn B (λk=>k) ν ν':=⟨λk id e=>by simp[ν',e],h.one⟩;have hsplit:=zcb g.ts (g.es.map ESh.sh) (avs:=g.ts.map λt=>S.env t.1) (by simp) hg;have hsl:(Y g.es.length).map (vy S bl)=(qB 0 g.es.length).map λk=>match B k with | some id=>zjb (S.heap id) | none =>.und:=by
  rw[<- List.range_eq_range'];rfl
 rw[hsl] at hsplit;have hheap:=λk id (e:B k=E id)=>za2 (N:=g.es.length) hν (λi j _ _ e=>e) h.cell g.es 0 (by omega) hsplit (λk e he=>by rw[Dc];exact hB.gone k e he) k id e (UO _) (by have:=hB.lt k id e;omega)
 have hnone:∀k,B k=F->(g.open x).heap k=none:=λk e=>by
  refine vJ g.es 0 λj e' he hj=>?_
  have hj:k=j:=by simpa using hj
  subst hj;exact(hB.gone k e' he).2 e
 have hsome:∀k,((g.open x).heap k).isSome=G↔(B k).isSome=true:=λk=>by
  cases e:B k with
  |none=>grind
  |some id=>
   rcases hheap k id e with⟨cs,cs',_,h2,_⟩ | ⟨T,s,_,h2⟩ | ⟨q,T,b2,s,_,h2⟩ | ⟨T,s,g1,g2,_,h2,_⟩
   all_goals rw[show(g.open x).heap k=_ from h2];simp
 have henv:=zcc (L:=L) (b:=b) (Z:=Z) hν (g.es.map ESh.sh) h.env g.ts hg
 let ids':=(Y g.es.length).filter λk=>(B k).isSome
 have hmem:∀k,k∈ids'↔(B k).isSome=true:=λk=>by
  simp only[ids',D9,DA];refine⟨λh=>h.2,λh=>⟨?_,h⟩⟩;let⟨id,e⟩:=UQ.1 h;exact hB.lt k id e
 have hpos:∀k,k∈ids'->∃(id m:Nat),B k=E id/\ids[m]?=E id/\PV[m]?=E (zH C ν' vs' k ((g.open x).heap k)):=λk hk=>by
  let⟨id,e⟩:=UQ.1 ((hmem k).1 hk);rcases hheap k id e with⟨cs,cs',h1,h2,_⟩ | ⟨T,s,h1,h2⟩ | ⟨q,T,b2,s,h1,h2⟩ | ⟨T,s,g1,g2,h1,h2,h3⟩
  ·let⟨m,hm,hid⟩:=h.at h1;refine⟨id,m,e,hid,?_⟩;rw[hm,show(g.open x).heap k=_ from h2];simp[zH,ν',vs',e]
  ·let⟨m,hm,hid⟩:=h.at h1;refine⟨id,m,e,hid,?_⟩;rw[hm,show(g.open x).heap k=_ from h2];simp[zH,ν',e]
  ·let⟨m,hm,hid⟩:=h.at h1;refine⟨id,m,e,hid,?_⟩;rw[hm,show(g.open x).heap k=_ from h2];simp[zH,ν',e]
  ·let⟨m,hm,hid⟩:=h.at h1;refine⟨id,m,e,hid,?_⟩;rw[hm,show(g.open x).heap k=_ from h2];simp only[zH,ν',e];rw[zc7 λj hj=>⟨h3 j hj,rfl⟩]
 classical
 let pos:Nat->Nat:=λk=>if hk:k∈ids' then(hpos k hk).choose_spec.choose else 0
 have hposk:∀k (hk:k∈ids'),B k=E (hpos k hk).choose/\ids[pos k]?=E (hpos k hk).choose/\PV[pos k]?=E (zH C ν' vs' k ((g.open x).heap k)):=λk hk=>by
  have:=(hpos k hk).choose_spec.choose_spec;grind
 have hnd:ids'.Nodup:=List.Nodup.sublist List.filter_sublist List.nodup_range;refine⟨ν',vs',ids',ids'.map λk=>zH C ν' vs' k ((g.open x).heap k),⟨⟨hnd,λk=>by grind,rfl,λk cs hk=>?_,λt=>(henv t).1,λi=>?_⟩,λt=>?_,λk cs hk=>?_,λk hk hs=>?_⟩,λw hi=>hi.sub_own λgg ks=>?_⟩
 · have hB1:=(hsome k).1 (by rw[hk];rfl);let⟨id,e⟩:=UQ.1 hB1;rcases hheap k id e with⟨c,c',h1,h2,h3,_⟩ | ⟨T,s,h1,h2⟩ | ⟨q,T,b2,s,h1,h2⟩ | ⟨T,s,g1,g2,h1,h2,_⟩
   ·rw[show(g.open x).heap k=_ from h2] at hk;grind
   ·rw[show(g.open x).heap k=_ from h2] at hk;cases hk
   ·rw[show(g.open x).heap k=_ from h2] at hk;cases hk
   ·rw[show(g.open x).heap k=_ from h2] at hk;cases hk
 · simp only[ν'];cases B i with
   |none=>rfl
   |some id=>exact h.one id
 ·refine AV.ok_mono (λj hj=>?_) (henv t).2;let⟨k2,id2,e2,e3⟩:=hj;grind
 · have hB1:=(hsome k).1 (by rw[hk];rfl);let⟨id,e⟩:=UQ.1 hB1;rcases hheap k id e with⟨c,c',h1,h2,_,h4⟩ | ⟨T,s,h1,h2⟩ | ⟨q,T,b2,s,h1,h2⟩ | ⟨T,s,g1,g2,h1,h2,_⟩
   ·rw[show(g.open x).heap k=_ from h2] at hk;cases hk;refine AV.oks_mono (λj hj=>?_) h4;let⟨k2,id2,e2,e3⟩:=hj;grind
   ·rw[show(g.open x).heap k=_ from h2] at hk;cases hk
   ·rw[show(g.open x).heap k=_ from h2] at hk;cases hk
   ·rw[show(g.open x).heap k=_ from h2] at hk;cases hk
 · obtain ⟨id,e⟩:=UQ.1 ((hsome k).1 hs);have:=hB.same k id hk e;subst this;have hS:(S.heap k).isSome=true:=by
     rcases hheap k k e with⟨c,c',h1,_⟩ | ⟨T,s,h1,_⟩ | ⟨q,T,b2,s,h1,_⟩ | ⟨T,s,g1,g2,h1,_⟩<;>rw[h1]<;>rfl
   have:=h.keep k hk hS;refine⟨by simpa[ν',e] using this.1,by simpa[ν',e] using this.2.1,λhf=>?_⟩;let⟨j,T,h1,h2⟩:=zdE g.es 0 (show Z0 (ZN (λk=>k) g.es 0 (WU g.ts (g.es.map ESh.sh) x) k)=G from hf);have h2:k=j:=by simpa using h2
   subst h2;have:=this.2.2 (by have:=znH hfx h1 (by omega);rwa [Dc] at this);simpa[ν',e] using this
 · refine ks.select (ids'.map pos) ?_ ?_
   ·rw[UH,List.pairwise_map];refine List.Pairwise.imp_of_mem ?_ (UH.1 hnd);intro i j hi hj hne e;let⟨e1,e2,_⟩:=hposk i hi;let⟨e3,e4,_⟩:=hposk j hj;rw[e] at e2;rw[e2] at e4;rw[<- V.inj e4] at e3;exact hne (hB.inj i j _ e1 e3)
   ·rw[qD,qD];exact D3 λk hk=>(hposk k hk).2.2
end
variable [Dfr]
section
variable {κ:Kp}{C:Cod}{S:St C}{ν:Val}{vs:Nat->List Value}{ids:List Nat}{L:List (Nat×Value)}{b:Nat->Value}{Z:FS}{PV:List Priv}
variable {n:Nat}{w0:Start}{σ0:FS}
theorem ztQ{t:Nat}{v:Value}(h:look L b t=v):∀i,look ((t,v)::L) b i=look L b i:=λi=>by
 show(bif M i t then v else look L b i)=_;cases e:M i t with
 |true=>rw[ge e];exact h.symm
 |false=>rfl
theorem zy.unput{t:Nat}{v:Value}(h:zy κ S ((t,v)::L) b Z PV)(hv:look L b t=v):zy κ S L b Z PV:=by
 let⟨ν,vs,ids,h⟩:=h;exact⟨ν,vs,ids,⟨⟨h.nd,h.dom,h.pv,h.cell,λt=>by have:=h.env t;rw[ztQ hv] at this;exact this,h.one⟩,h.live,h.livec,h.keep⟩⟩
theorem zcd{es:List ESh}{k:Nat}{e:Ent C}(h:zgw C es k=E e):(∃T,e = .row T ⟨[],I⟩)\/∃T,e = .orow T ⟨[],I⟩ .all:=by
 unfold zgw at h;grind
theorem znI{T:Nat}{sub:Nat->Value}{g:Own}:hpl C T sub ⟨[],I⟩ g=⟨[],I⟩:=by simp[hpl]
theorem AbsL.pvEq{PV':List Priv}(h:AbsL κ S ν vs ids L b Z PV)(e:PV=PV'):AbsL κ S ν vs ids L b Z PV':=e ▸ h
theorem AbsL.addRow (h:AbsL κ S ν vs ids L b Z PV) {id:Nat}{e:Ent C}(he:(∃T,e = .row T ⟨[],I⟩)\/∃T,e = .orow T ⟨[],I⟩ .all) (h0:S.heap id=F) (h64:κ.m<=id) :
    ∃ν' pv,AbsL κ {S with heap:=upd S.heap id (E e)} ν' (upd vs id []) (id::ids) L b Z (pv::PV)/\ν'.hdr id = .slice F 0 0/\(∀j,(S.heap j).isSome=G->ν.hdr j=ν'.hdr j/\ν.adr j=ν'.adr j)/\∀{w0:Start} {σ0:FS} {w:World},Inv w0 σ0 Z PV w->Inv w0 σ0 Z (pv::PV) w:=by
 let ν':Val:={hdr:=upd ν.hdr id (.slice F 0 0),adr:=upd ν.adr id default}
 have hec:∀cs,e ≠.cell cs:=λcs ee=>by grind
 have hvs:zH C ν' (upd vs id []) id (E e)=zH C ν' (upd vs id []) id (E e):=rfl;have hne:∀j,(S.heap j).isSome=G->j≠id:=λj hj e=>by grind
 have hag:∀j,(S.heap j).isSome=G->ν.hdr j=ν'.hdr j/\ν.adr j=ν'.adr j:=λj hj=>⟨(zq (hne j hj)).symm,(zq (hne j hj)).symm⟩
 have hlv:∀j,(S.heap j).isSome=G->(upd S.heap id (E e) j).isSome=true:=λj hj=>by rw[zq (hne j hj)];exact hj
 have hid:id ∉ ids:=λhm=>by have:=(h.dom id).1 hm;grind
 refine⟨ν',zH C ν' (upd vs id []) id (E e),⟨⟨qs.2 ⟨hid,h.nd⟩,λj=>?_,?_,λj cs hj=>?_,λt=>(h.env t).congr hag (h.live t),λi=>?_⟩,λt=>AV.ok_mono hlv (h.live t),λj cs hj=>?_,λk hk hs=>?_⟩,zp,hag,λ{w0 σ0 w} hi=>?_⟩
 · by_cases e':j=id
   ·subst e';show _↔(upd S.heap j (E e) j).isSome=G;rw[zp];simp
   ·show _↔(upd S.heap id (E e) j).isSome=G;rw[zq e',De,h.dom];grind
 · rw[UI,h.pv];refine qv.2 ⟨?_,D3 λj hj=>?_⟩
   ·show _=zH C ν' _ id (upd S.heap id (E e) id);rw[zp]
   · have hj':=hne j ((h.dom j).1 hj);show zH C ν vs j (S.heap j)=zH C ν' (upd vs id []) j (upd S.heap id (E e) j);rw[zq hj'];cases S.heap j with
     |none=>rfl
     |some en=>cases en<;>simp[zH,ν',zq hj']
 · by_cases e':j=id
   ·subst e';have hj:upd S.heap j (E e) j=_:=hj;rw[zp] at hj;grind
   ·have hj:upd S.heap id (E e) j=_:=hj;rw[zq e'] at hj;show VRs C Z ν' (upd vs id [] j) cs;rw[zq e'];exact(h.cell j cs hj).congr hag (h.livec j cs hj)
 · by_cases e':i=id
   ·subst e';show(upd ν.hdr i _ i).oneCell'=G;rw[zp];rfl
   ·show(upd ν.hdr id _ i).oneCell'=G;rw[zq e'];exact h.one i
 · by_cases e':j=id
   ·subst e';have hj:upd S.heap j (E e) j=_:=hj;rw[zp] at hj;grind
   ·have hj:upd S.heap id (E e) j=_:=hj;rw[zq e'] at hj;exact AV.oks_mono hlv (h.livec j cs hj)
 · have hne':k≠id:=by omega
   have hs:(upd S.heap id (E e) k).isSome=true:=hs;rw[zq hne'] at hs;have:=hag k hs;have h2:=h.keep k hk hs;refine⟨this.1.symm.trans h2.1,(congrArg Loc.a this.2).symm.trans h2.2.1,λhf=>(congrArg Loc.sub this.2).symm.trans (h2.2.2 ?_)⟩;have hf:Z0 (upd S.heap id (E e) k)=true:=hf;rw[zq hne'] at hf;exact hf
 · refine hi.sub_own λgg k =>.cons (h1:=zc.none) ?_ k (zc.none_le _) (.refl _) (zc.none_disj _)
   rcases he with⟨T,rfl⟩ | ⟨T,rfl⟩
   ·show(Priv.row (zx C T).o T (upd ν.hdr id (.slice F 0 0) id) ⟨[],I⟩).holds Z zc.none;rw[zp];exact .inl ⟨rfl,rfl⟩
   ·show(Priv.row (Zd C T) T (upd ν.hdr id (.slice F 0 0) id) (hpl C T _ ⟨[],I⟩ .all)).holds Z zc.none;rw[zp];exact .inl ⟨rfl,znI⟩
omit [Dfr] in
theorem VRs.set{ν:Val}:∀{vs:List Value}{cs:List (AV C.D)}{p:Nat}{A:AV C.D},VRs C Z ν vs cs->(∀v,vs[p]?=E v->VR C Z ν v A)->VRs C Z ν vs (cs.set p A)
 |[],[],p,A,h,k=>h
 |v::vs,c::cs,0,A,h,k=>⟨k v rfl,h.2⟩
 |v::vs,c::cs,p+1,A,h,k=>⟨h.1,VRs.set h.2 λu hu=>k u (by simpa using hu)⟩
 |[],_::_,p,A,h,k=>h.elim
 |_::_,[],p,A,h,k=>h.elim
theorem zhR{D:Nat->Type}{q:Nat->Prop}{A:AV D}(hA:A.ok q):∀{cs:List (AV D)}{p:Nat},AV.oks q cs->AV.oks q (cs.set p A)
 |[],p,h=>h
 |c::cs,0,h=>⟨hA,h.2⟩
 |c::cs,p+1,h=>⟨h.1,zhR hA h.2⟩
theorem zsr{es:List ESh}{t:Nat}{w:World}{s:Sh}{p:Nat}{S:St C}{PV:List Priv}(h:zy κ S L b Z PV)(hi:Inv w0 σ0 Z PV w):∃PV',Inv w0 σ0 Z PV' w/\zy κ (nilA1 es t s p S) L b Z PV':=by
 unfold nilA1;split
 ·rename_i k cs hc;split
  ·rename_i en hp hT;cases h0:isNone (S.heap (1048576+k)) with
   |false=>grind
   |true=>
    simp only[D1];let⟨ν,vs,ids,h⟩:=h;let⟨ν',pv,h',e1,e2,e3⟩:=h.addRow (zcd hT) (Ze h0) (by have:=κ.le;omega);refine⟨pv::PV,e3 hi,ν',_,_,⟨h'.nd,h'.dom,h'.pv,h'.cell,λt'=>?_,h'.one⟩,λt'=>?_,h'.livec,h'.keep⟩
    ·have hv:=h'.env t';show VR C Z ν' (look L b t') (upd S.env t _ t');by_cases e:t'=t
     ·subst e;rw[zp];have hv:VR C Z ν' (look L b t') (S.env t'):=hv;rw[hc] at hv;let⟨us,hu,hr⟩:=hv;refine⟨us,hu,hr.set λv hv=>?_⟩;let⟨u,hu1,hu2⟩:=hr.get p .nils hp;have e:=V.inj (hu1.symm.trans hv);rw[<- e];show u=ν'.hdr _;rw[e1];exact hu2
     ·rw[zq e];exact hv
    ·have hl:=h'.live t';show(upd S.env t _ t').ok _;by_cases e:t'=t
     ·subst e;rw[zp];have hl:(S.env t').ok _:=hl;rw[hc] at hl
      exact zhR (by
       show((upd S.heap (1048576+k) (E en)) (1048576+k)).isSome=G
       rw[zp];rfl) hl
     ·rw[zq e];exact hl
  grind
 grind
theorem zlo{es:List ESh}{t:Nat}{w:World}:∀(l:List Sh) (p:Nat) {S:St C}{PV:List Priv},zy κ S L b Z PV->Inv w0 σ0 Z PV w->∃PV',Inv w0 σ0 Z PV' w/\zy κ (nilA es t l p S) L b Z PV'
 |[],_,S,PV,h,hi=>⟨PV,hi,h⟩
 |s::l,p,S,PV,h,hi=>by
  obtain⟨PV1,hi1,h1⟩:=zsr (es:=es) (t:=t) (s:=s) (p:=p) h hi;exact zlo l _ h1 hi1
theorem wI{es:List ESh}{w:World}:∀(ts:List (Nat×Sh)) {S:St C}{PV:List Priv},zy κ S L b Z PV->Inv w0 σ0 Z PV w->∃PV',Inv w0 σ0 Z PV' w/\zy κ (nilT es ts S) L b Z PV'
 |[],S,PV,h,hi=>⟨PV,hi,h⟩
 |(t,s)::ts,S,PV,h,hi=>by
  unfold nilT;split
  ·rename_i k e;split
   ·rename_i en hT;cases h0:isNone (S.heap (1048576+k)) with
    |false=>simp only[UC];exact wI ts h hi
    |true=>
     simp only[D1];let⟨ν,vs,ids,h⟩:=h;have hv:=h.env t;rw[e] at hv;have hv:look L b t = .slice F 0 0:=hv;rcases zcd hT with⟨T,rfl⟩ | ⟨T,rfl⟩
     ·refine wI (PV :=.row (zx C T).o T (.slice F 0 0) ⟨[],I⟩::PV) ts ?_ (hi.sub_own λgg k =>.cons (h1:=zc.none) (.inl ⟨rfl,rfl⟩) k (zc.none_le _) (.refl _) (zc.none_disj _));exact(h.newRow (d:=t) (s:=⟨[],I⟩) (Ze h0) (by have:=κ.le;omega) (v :=.slice F 0 0) rfl).unput hv
     ·refine wI (PV :=.row (Zd C T) T (.slice F 0 0) (hpl C T (default:Loc).sub ⟨[],I⟩ .all)::PV) ts ?_ (hi.sub_own λgg k =>.cons (h1:=zc.none) (.inl ⟨rfl,znI⟩) k (zc.none_le _) (.refl _) (zc.none_disj _));exact(h.new (d:=t) (e :=.orow T ⟨[],I⟩ .all) (v :=.slice F 0 0) (a:=default) (us:=[]) (A :=.row (1048576+k)) (Ze h0) (by have:=κ.le;omega) (λν' h1 h2=>⟨by show _=ν'.hdr _;rw[h1];rfl,by show _=_;rfl⟩) rfl rfl (λcs hc=>by cases hc) rfl).unput hv
   ·exact wI ts h hi
  ·obtain⟨PV',hi',h'⟩:=zlo (es:=es) (t:=t) _ 0 h hi;exact wI ts h' hi'
  ·exact wI ts h hi
theorem ztR{es:List ESh}{id:Nat}{w:World}{s:Sh}{p:Nat}{S:St C}{PV:List Priv}(h:zy κ S L b Z PV)(hi:Inv w0 σ0 Z PV w):∃PV',Inv w0 σ0 Z PV' w/\zy κ (nil1 es id s p S) L b Z PV':=by
 unfold nil1;split
 ·rename_i k cs hc;split
  ·rename_i en hp hT;cases h0:isNone (S.heap (1048576+k)) with
   |false=>grind
   |true=>
    simp only[D1];let⟨ν,vs,ids,h⟩:=h;have hne:id≠1048576+k:=λe=>by rw[e,Ze h0] at hc;cases hc
    let⟨ν',pv,h',e1,e2,e3⟩:=h.addRow (zcd hT) (Ze h0) (by have:=κ.le;omega);have hc':(upd S.heap (1048576+k) (E en)) id=E (.cell cs):=by rw[zq hne];exact hc
    have hin:id∈ids:=(h.dom id).2 (by rw[hc];rfl);let⟨m,hm⟩:=List.mem_iff_getElem?.1 hin;have hvs:=h'.cell id cs hc';have hlc:=h'.livec id cs hc';have hm':((1048576+k)::ids)[m+1]?=E id:=by simpa using hm
    have hs:=h'.setCell (m:=m+1) (cs':=cs.set p (.row (1048576+k))) (us:=upd vs (1048576+k) [] id) hc' hm' (hvs.set λv hv=>by
     let⟨u,hu1,hu2⟩:=hvs.get p .nils hp;have e:=V.inj (hu1.symm.trans hv);rw[<- e];show u=ν'.hdr _
     rw[e1];exact hu2) (zhR (by
      show((upd S.heap (1048576+k) (E en)) (1048576+k)).isSome=G
      rw[zp];rfl) hlc)
    refine⟨pv::PV,e3 hi,_,_,_,hs.pvEq ?_⟩;have hpv:=h'.pv;refine UK λj=>?_
    rw[UL];by_cases e:m+1=j
    ·subst e;have hm2:=congrArg (λl=>l[m+1]?) hpv;simp only[UE,hm',UF] at hm2;rw[jv rfl,hm2,jv (UG.1 hm2).1];rw[hc'];rfl
    grind
  grind
 grind
theorem zlp{es:List ESh}{id:Nat}{w:World}:∀(l:List Sh) (p:Nat) {S:St C}{PV:List Priv},zy κ S L b Z PV->Inv w0 σ0 Z PV w->∃PV',Inv w0 σ0 Z PV' w/\zy κ (nilC es id l p S) L b Z PV'
 |[],p,S,PV,h,hi=>⟨PV,hi,h⟩
 |s::l,p,S,PV,h,hi=>by
  obtain⟨PV1,hi1,h1⟩:=ztR (es:=es) (id:=id) (s:=s) (p:=p) h hi;exact zlp l _ h1 hi1
theorem zlq{all:List ESh}{bl:Bl}{w:World}:∀(es:List ESh) (k:Nat) {S:St C}{PV:List Priv},zy κ S L b Z PV->Inv w0 σ0 Z PV w->∃PV',Inv w0 σ0 Z PV' w/\zy κ (nilE all bl es k S) L b Z PV'
 |[],k,S,PV,h,hi=>⟨PV,hi,h⟩
 |e::es,k,S,PV,h,hi=>by
  have:∃PV',Inv w0 σ0 Z PV' w/\zy κ (zgx all bl e k S) L b Z PV':=by
   unfold zgx;split
   ·exact zlp _ 0 h hi
   grind
  let⟨PV1,hi1,h1⟩:=this;exact zlq es _ h1 hi1
theorem zce{g:Sig}{m:Nat}(h:zy κ S L b Z PV){w:World}(hi:Inv w0 σ0 Z PV w):∃Z' PV',Inv w0 σ0 Z' PV' w/\zy κ (g.prep m S) L b Z' PV':=by
 obtain⟨σ1,PV1,hi1,h1⟩:=zeb (fzT S g.ts) h hi;obtain⟨PV2,hi2,h2⟩:=wI (es:=g.es) g.ts h1 hi1;obtain⟨PV3,hi3,h3⟩:=zlq (all:=g.es) g.es 0 h2 hi2;exact zeb _ h3 hi3
theorem ztS{bl:Bl}{e:ESh}{k:Nat}{w:World}{S:St C}{PV:List Priv}(h:zy κ S L b Z PV)(hi:Inv w0 σ0 Z PV w):∃PV',Inv w0 σ0 Z PV' w/\zy κ (ztO bl e k S) L b Z PV':=by
 unfold ztO;split
 ·rename_i id _;split
  ·rename_i T s hs;cases hn:O (C.nst T) (C.size T) with
   |false=>grind
   |true=>
    simp only[D1];let⟨ν,vs,ids,h⟩:=h;let⟨ids1,PV1,h1,hi1⟩:=h.front1 (w0:=w0) (σ0:=σ0) hs;let⟨sub,hi2⟩:=znE (Dd ▸ hn) (hi1 w hi);exact⟨_,hi2,_,_,_,h1.setO hs rfl⟩
  grind
 grind
theorem zlr{bl:Bl}{w:World}:∀(es:List ESh) (k:Nat) {S:St C}{PV:List Priv},zy κ S L b Z PV->Inv w0 σ0 Z PV w->∃PV',Inv w0 σ0 Z PV' w/\zy κ (ztP bl es k S) L b Z PV'
 |[],k,S,PV,h,hi=>⟨PV,hi,h⟩
 |e::es,k,S,PV,h,hi=>by
  let⟨PV1,hi1,h1⟩:=ztS (bl:=bl) (e:=e) (k:=k) h hi;exact zlr es _ h1 hi1
theorem zdF{g:Sig}{x:g.ty C}(hc:g.close κ.m S=E x)(h:zy κ S L b Z PV){w:World}(hi:Inv w0 σ0 Z PV w):∃Z' PV',Inv w0 σ0 Z' PV' w/\zy κ (g.open x) L b Z' PV':=by
 let⟨σ1,PV0,hi0,h0⟩:=zce (g:=g) (m:=κ.m) h hi;let⟨PV1,hi1,ν,vs,ids,h1⟩:=zlr (bl:=Zy g κ.m (g.prep κ.m S)) g.es 0 h0 hi0;let⟨ν',vs',ids',PV',h2,h3⟩:=h1.rename (w0:=w0) (σ0:=σ0) hc;exact⟨σ1,PV',h3 w hi1,ν',vs',ids',h2⟩
end
inductive XE(C:Cod) where
 |normal
 |exit (i:Nat)
 |ret
 |pan (v:AV C.D)
inductive XK where
 |normal
 |exit (i:Nat)
 |ret
 |pan (s:Sh)
inductive Hint where
 |loop (g:Sig) (outs:List (XK×Sig))
 |cut (outs:List (XK×Sig))
 |draw (ord:List (Nat×Bool)) (outs:List (XK×Sig))
def XK.shs:XK->Sig->List Sh
 | .pan s,g=>s::g.shs
 |_,g=>g.shs
abbrev XK.ty(C:Cod)(k:XK)(g:Sig):Type:=Sh.tys C (k.shs g)
def XK.is{C:Cod}:XK->XE C->Bool
 | .normal,.normal=>G
 | .exit i,.exit j=>M i j
 | .ret,.ret=>G
 | .pan _,.pan _=>G
 |_,_=>I
def zf(C:Cod):List (XK×Sig)->Type
 |[]=>Empty
 |[o]=>XK.ty C o.1 o.2
 |o::o2::r=>XK.ty C o.1 o.2⊕zf C (o2::r)
section
variable {C:Cod}
def zgy(m:Nat)(k:XK)(g:Sig)(e:XE C)(S:St C):U7 (XK.ty C k g):=match k,e with
 | .pan s,.pan v=>(Sh.get (λ_=>F) s v).bind λy=>(g.close m S).bind λx=>E (Sh.pk (s:=s) (l:=g.shs) y x)
 | .normal,.normal=>g.close m S
 | .exit i,.exit j=>chk (M i j) (g.close m S)
 | .ret,.ret=>g.close m S
 |_,_=>F
def Yg{α:Type}(k:XK)(g:Sig)(y:XK.ty C k g)(K:XE C->St C->α):α:=match k,y with
 | .pan s,y=>K (.pan (Sh.put (λk=>k) s (Sh.hd (s:=s) (l:=g.shs) y))) (g.open (Sh.tl (s:=s) (l:=g.shs) y))
 | .normal,y=>K .normal (g.open y)
 | .exit i,y=>K (.exit i) (g.open y)
 | .ret,y=>K .ret (g.open y)
def zT(m:Nat):(outs:List (XK×Sig))->XE C->St C->U7 (zf C outs)
 |[],_,_=>F
 |[o],e,S=>zgy m o.1 o.2 e S
 |o :: o2::r,e,S=>bif XK.is o.1 e then(match zgy m o.1 o.2 e S with
    |some y=>E (.inl y)
    |none=>(zT m (o2::r) e S).map .inr) else(zT m (o2::r) e S).map .inr
def zR{α:Type}:(outs:List (XK×Sig))->zf C outs->(XE C->St C->α)->α
 |[],y,_=>y.elim
 |[o],y,K=>Yg o.1 o.2 y K
 |o::o2::r,y,K=>match(y:XK.ty C o.1 o.2⊕zf C (o2::r)) with
  | .inl a=>Yg o.1 o.2 a K
  | .inr y=>zR (o2::r) y K
end
abbrev yM(C:Cod):=Oper->St C->(ρ:Type)->(Out C->U7 ρ)->U7 ρ
abbrev Yz(C:Cod):=Array Oper->List (Nat×Bool)->(ρ:Type)->St C->(XE C->St C->U7 ρ)->U7 ρ
abbrev ZW:=∀{s β:Type},(s->U7 (Step s β))->s->U7 β
def xS:Code->Nat
 | .seq a b=>xS a+xS b+1
 | .cond _ a b=>xS a+xS b+1
 | .block _ a=>xS a+1
 | .loop a=>xS a+1
 | .scope a=>xS a+1
 |_=>1
section
variable {C:Cod}{ρ:Type}
def ZJ(stp:yM C)(n:Nat)(ops:Array Oper):List Oper->St C->(XE C->St C->U7 ρ)->U7 ρ
 |[],S,K=>K .normal S
 |o::r,S,K=>match o.guard with
  |none=>stp o S _ λout=>match out with
   | .go S'=>ZJ stp n ops r S' K
   | .pan v S'=>K (.pan v) S'
  |some (j,want)=>match(ops[j]?).bind (·.dst) with
   |none=>F
   |some dg=>match S.env dg with
    | .bool q=>if q=G then go o r (S.put dg (.bool G)) want K (λS K=>ZJ stp n ops r S K) else go o r (S.put dg (.bool I)) (!want) K (λS K=>ZJ stp n ops r S K)
    | .tup []=>skip o S K (λS K=>ZJ stp n ops r S K)
    |_=>F
where
 skip (o:Oper) (S:St C) (K:XE C->St C->U7 ρ) (next:St C->(XE C->St C->U7 ρ)->U7 ρ):U7 ρ:=match o.dst with
  |some d=>chk (O d n) (next (S.put d (.tup [])) K)
  |none=>next S K
 go (o:Oper) (r:List Oper) (S:St C) (run:Bool) (K:XE C->St C->U7 ρ) (next:St C->(XE C->St C->U7 ρ)->U7 ρ):U7 ρ:=
  bif run then stp o S _ λout=>match out with
   | .go S'=>next S' K
   | .pan v S'=>K (.pan v) S'
  else skip o S K next
def ZC{C:Cod}(stp:yM C)(dr:Yz C)(lp:ZW)(n m:Nat)(hs:Nat->U7 Hint):Code->Nat->(ρ:Type)->St C->(XE C->St C->U7 ρ)->U7 ρ
 | .skip,i,_,S,K=>wrap i S K λ_ S K=>K .normal S
 | .ret,i,_,S,K=>wrap i S K λ_ S K=>K .ret S
 | .exit j,i,_,S,K=>wrap i S K λ_ S K=>K (.exit j) S
 | .seq a b,i,_,S,K=>wrap i S K λ_ S K=>ZC stp dr lp n m hs a (i+1) _ S λe S'=>match e with
  | .normal=>ZC stp dr lp n m hs b (i+1+xS a) _ S' K
  |e=>K e S'
 | .cond c a b,i,_,S,K=>wrap i S K λ_ S K=>match S.op c with
  | .bool q=>if q=G then ZC stp dr lp n m hs a (i+1) _ S K else ZC stp dr lp n m hs b (i+1+xS a) _ S K
  |_=>F
 | .block j a,i,_,S,K=>wrap i S K λ_ S K=>ZC stp dr lp n m hs a (i+1) _ S λe S'=>match e with
  | .exit j'=>bif M j' j then K .normal S' else K (.exit j') S'
  |e=>K e S'
 | .loop a,i,_,S,K=>match hs i with
  |some (.loop g outs)=>(g.close m S).bind λx0=>
      (lp (λx=>ZC stp dr lp n m hs a (i+1) _ (g.open x) λe S'=>match e with
        | .normal=>(g.close m S').bind λx'=>E (Step.next x')
        |e=>(zT m outs e S').bind λy=>E (Step.done y)) x0).bind λy=>zR outs y K
  |_=>F
 | .scope a,i,_,S,K=>wrap i S K λ_ S K=>ZC stp dr lp n m hs a (i+1) _ S K
 | .label _,i,_,S,K=>wrap i S K λ_ S K=>K .normal S
 | .region _ ops I,i,_,S,K=>wrap i S K λ_ S K=>ZJ stp n ops ops.toList S K
 | .region _ ops G,i,_,S,K=>match hs i with
  |some (.draw ord [])=>dr ops ord _ S K
  |some (.draw ord (o::outs))=>(dr ops ord _ S λe S'=>zT m (o::outs) e S').bind λy=>zR (o::outs) y K
  |_=>F
 |_,_,_,_,_=>F
where
 wrap {ρ:Type} (i:Nat) (S:St C) (K:XE C->St C->U7 ρ) (raw:(ρ:Type)->St C->(XE C->St C->U7 ρ)->U7 ρ):U7 ρ:=match hs i with
  |some (.cut outs)=>(raw _ S λe S'=>zT m outs e S').bind λy=>zR outs y K
  |_=>raw _ S K
end
variable [Dfr]
section
variable {κ:Kp}{C:Cod}{S:St C}{ν:Val}{vs:Nat->List Value}{ids:List Nat}{L:List (Nat×Value)}{b:Nat->Value}{Z:FS}{PV:List Priv}{P:Program}{ρ:Type}
variable {t t' ty:TypeId}{x y z:Operand}{d id:Nat}{pv:Priv}{ps:String}{af:Array Edge}{g:U7 (Nat×Bool)}{A:AV C.D}{n:Nat}{w0:Start}{σ0:FS}{o:Oper}{X:U7 (Out C)}
def Wh{α:Type}(S:St C)(tx id T:Nat)(i:Int)(gid:Nat)(K:St C->U7 α):U7 α:=match S.heap id with
 |some (.orow T' s .all)=>chk (M T T' && isNone (S.heap gid)) ((za s i).bind λq=>match Zn C T' q with
  | .sl U u _=>K {env:=upd S.env tx (.row gid),heap:=upd (upd S.heap id (E (.orow T' s (.out i)))) gid (E (.row U u))}
  |_=>F)
 |_=>F
theorem zoZ{α β:Type}{tx id T:Nat}{i:Int}{gid:Nat}{K:St C->U7 α}{k:α->U7 β}:(Wh S tx id T i gid K).bind k=Wh S tx id T i gid λS'=>(K S').bind k:=by
 unfold Wh;split
 ·rw[zt,gh];grind
 ·rfl
theorem ztT {α:Type}(h:AbsL κ S ν vs ids L b Z PV) {tx id T:Nat}{i:Int}{gid:Nat}{K:St C->U7 α}{r:α}(he:S.env tx = .nx id T i .whole) (h64:κ.m<=gid) (hX:Wh S tx id T i gid K=E r) :
    ∃S1 PV1,K S1=E r/\zy κ S1 L b Z PV1/\∀w,Inv w0 σ0 Z PV w->Inv w0 σ0 Z PV1 w:=by
 unfold Wh at hX;split at hX
 · rename_i T' s hs;let⟨hc,hX⟩:=zb hX;simp only[gf] at hc;obtain rfl:=ge hc.1;have h0:=Ze hc.2;let⟨q,hq,hX⟩:=gd hX;split at hX
   · rename_i U u c hu;have hv:=h.env tx;rw[he] at hv;have hv1:look L b tx=(ν.adr id).sub i.toNat:=hv.1;have hv2:(look L b tx).oneCell'=true:=hv.2;have hne:gid≠id:=λe=>by grind
     let⟨ids',PV',hf,hinv⟩:=h.front1 (w0:=w0) (σ0:=σ0) hs;have h1:=hf.setO0 (e' :=.orow T s (.out i)) hs (λcs e=>by cases e);have h2:=h1.newRow (d:=tx) (id:=gid) (T:=U) (s:=u) (v:=(ν.adr id).sub i.toNat) (by show upd S.heap id _ gid=F;rw[zq hne];exact h0) h64 (by grind);refine⟨_,_,hX,h2.unput hv1,λw hi=>(hinv w hi).sub_own λgg kk=>?_⟩;let⟨f1,f2,m1,m2,n1,n2,dd⟩:=kk.uncons;exact Sep.append (A:=[_,_]) (zb9 (m1:zn (Zd C T) T (ν.hdr id) (hpl C T (ν.adr id).sub s .all) Z f1) hq hu) m2 n1 n2 dd
   ·cases hX
 ·cases hX
theorem OpA.via{S1:St C}{PV1:List Priv}(hA:zy κ S1 L b Z PV1)(hi:∀w,Inv w0 σ0 Z PV w->Inv w0 σ0 Z PV1 w)(k:∀ν vs ids,AbsL κ S1 ν vs ids L b Z PV1->OpA κ P n w0 σ0 o X L b Z PV1):OpA κ P n w0 σ0 o X L b Z PV:=by
 let⟨ν,vs,ids,h⟩:=hA;exact OpA.pv hi (k ν vs ids h)
def Wi(P:Program)(S:St C)(d:Nat)(t:TypeId)(x y:Operand):U7 (Out C):=match x with
 | .tmp tx=>(match S.env tx with
  | .nx id T i .whole=>Wh S tx id T i (nid d 1) λS1=>yX P S1 d t x y
  |_=>F)
 |_=>F
theorem zss(h:AbsL κ S ν vs ids L b Z PV)(hn:O d n=G):OpA κ P n w0 σ0 ⟨E d,.call {callee :=.builtin .append,args:= #[x,y],argTypes:= #[t,t]},ty,ps,af,g⟩ (Wi P S d t x y) L b Z PV:=by
 intro out hX;unfold Wi at hX;split at hX
 ·rename_i tx;split at hX
  ·rename_i id T i he;let⟨S1,PV1,h1,h2,h3⟩:=ztT (w0:=w0) (σ0:=σ0) h he (yL κ d 1) hX;exact OpA.via h2 h3 (λν vs ids h=>ze2 h hn) out h1
  ·cases hX
 ·cases hX
theorem AbsL.newO (h:AbsL κ S ν vs ids L b Z PV) {id T:Nat}(h0:S.heap id=F) (h64:κ.m<=id) {s:Sl (C.D T)}{gw:Own}{v:Value}{sub:Nat->Value}(hone:v.oneCell'=G) :
    zy κ {env:=upd S.env d (.row id),heap:=upd S.heap id (E (.orow T s gw))} ((d,v)::L) b Z (.row (Zd C T) T v (hpl C T sub s gw)::PV):=
 h.new h0 h64 (e :=.orow T s gw) (v:=v) (a:=⟨default,sub⟩) (us:=[]) (A :=.row id) (λν' h1 h2=>⟨by show v=ν'.hdr id;rw[h1];rfl,by show id=id;rfl⟩) hone rfl (λcs hc=>by cases hc) rfl
theorem Wj{α:Type}{T:OTy α}{e:TypeId}{s:Sl α}{v:Value}{PV:List Priv}{w:World}(hi:Inv w0 σ0 Z (.row T e v s::PV) w):v.oneCell'=true:=by
 let⟨hh,hr,_⟩:=hi.held.get (m:=0) rfl;obtain⟨q,c,rfl,_⟩:=zn.form hr;rfl
def XG(P:Program)(S:St C)(d:Nat)(t:TypeId)(y:Operand)(K:Out C->U7 ρ):U7 ρ:=match P.underlying t with
 |some (.slice e)=>(match P.info? e with
  |some ti=>(match ti.zero with
   |some zv=>chk (M ti.size (C.size e) && (O 0 (C.size e) && (W (C.size e) 16777216 && (isNone (S.heap (nid d 0)) && (YQ (S.op y) && M (zr (S.op y)).length (C.size e))))))
    (match(zr (S.op y))[C.nst e]? with
    |some (.row id2)=>(match S.heap id2 with
     |some (.row U u)=>(C.imp e ((zr (S.op y)).set (C.nst e) (.sl U u I))).bind λq=>K (.go {env:=upd (S.sub id2 .und).env d (.row (nid d 0)),heap:=upd (S.sub id2 .und).heap (nid d 0) (E (.orow e ⟨[q],G⟩ .all))})
     |_=>F)
    |_=>F)
   |none=>F)
  |none=>F)
 |_=>F
def xT(P:Program)(S:St C)(d:Nat)(t:TypeId)(y:Operand):U7 (Out C):=XG P S d t y E
theorem zls{K:Out C->U7 ρ}:XG P S d t y K=(xT P S d t y).bind K:=by
 unfold xT XG;split
 ·split
  ·split
   ·rw[zt];congr 1;grind
   ·rfl
  ·rfl
 ·rfl
theorem ztU {T U:Nat}{gA:zc}{us:List Value}{q:C.D T}{v:Value}{cells:List (AV C.D)}{u:Sl (C.D U)}(hus:VRs C Z ν us cells) (hone:∀u∈us,u.oneCell'=G) (hl:us.length=C.size T)
    (hq:C.imp T (cells.set (C.nst T) (.sl U u I))=E q) (hv:us[C.nst T]?=E v) (hrow:zn (zx C U).o U v u Z gA):yW C T Z gA us (q,1,v):=by
 have hlen:=hus.len;have hlt:=(UG.1 hv).1;refine⟨hl,hone,λj A hj hn=>?_,hv,λe=>(by cases e),λ_=>⟨U,u,?_,hrow⟩⟩
 ·let⟨B,e1,e2⟩:=zca (C.imp_ok T _ q hq) hj;rw[UL,jx (λe=>hn e.symm)] at e1;let⟨w,k1,k2⟩:=hus.get _ _ e1;exact⟨w,k1,(zf9 k2 e2).rv (C.base T q A (UW hj))⟩
 ·show Zn C T q=_;unfold Zn;rw[zdD hq (j:=C.nst T) (A :=.sl U u I) (by grind) rfl];rfl
theorem znd(h:AbsL κ S ν vs ids L b Z PV)(hn:O d n=G){parts:Array (Nat×Operand)}(hp:parts.toList=[(0,y)]):OpA κ P n w0 σ0 ⟨E d,.buildSlice t 1 parts,ty,ps,af,g⟩ (xT P S d t y) L b Z PV:=by
 intro out hX;unfold xT XG at hX;split at hX
 ·rename_i e hu;split at hX
  ·rename_i ti hi;split at hX
   ·rename_i zv hz;let⟨hc,hX2⟩:=zb hX;simp only[gf] at hc;let⟨c1,c2,c3,c4,c5,c6⟩:=hc;have h0:=Ze c4;have c6:=ge c6;split at hX2
    ·rename_i id2 hid2;split at hX2
     ·rename_i U u h2;let⟨q,hq,hX3⟩:=gd hX2;let⟨hus,hone⟩:=ZD (h.op y) c5 h.one;have hlen:=hus.len;let⟨v2,hv1,hv2⟩:=hus.get _ _ hid2;have hv2:v2=ν.hdr id2:=hv2;subst hv2;let⟨ids',PV',hf,hinv⟩:=h.front1 (w0:=w0) (σ0:=σ0) h2;refine OpA.pv hinv ?_ out hX3;refine OpA.of2 (vE (T:=Zd C e) (vs:=[opv L b y]) (xs:=[(q,1,ν.hdr id2)]) [.row (zx C U).o U (ν.hdr id2) u] PV' hn hu hi hz (ge c1) (by rw[Nat.one_mul];exact c3) c2 (by rw[hp];rfl) rfl (λhh sA=>?_) λv hw r hr=>⟨_,(V.inj hr).symm,?_⟩)
      ·refine⟨hh,.refl _,?_,rfl,λw hw=>?_⟩
       ·have hr:=ztU (T:=e) hus hone (by rw[hlen,c6]) hq hv1 (sA.one_of:zn (zx C U).o U (ν.hdr id2) u Z hh);have:Ye [opv L b y]=(opv L b y).cells.toList:=by simp[Ye]
        rw[this];exact OTy.rels_single (T:=Zd C e) hr
       ·rw[D2.1 hw];show(opv L b y).cells.size=C.size e;grind
      ·let⟨w,hw⟩:=hw;have h1:=hf.sub (id:=id2) (m:=0) (R :=.und) rfl (FS.le.refl Z) trivial trivial rfl
       exact AbsL.newO (S:=S.sub id2 .und) (T:=e) (s:=⟨[q],G⟩) (gw :=.all) (sub:=λ_=>ν.hdr id2) h1 (by
        show(bif M (nid d 0) id2 then F else(S.heap (nid d 0)).map _)=F
        grind) (yL κ d 0) (Wj hw)
     ·cases hX2
    ·cases hX2
   ·cases hX
  ·cases hX
 ·cases hX
theorem zxV{T:Nat}{s1 s2:Sl (C.D T)}{sub1 sub2:Nat->Value}{nn:Bool}:(⟨(hpl C T sub1 s1 .all).xs++(hpl C T sub2 s2 .all).xs,nn⟩:Sl (C.D T×Nat×Value))=hpl C T (λj=>if j < s1.xs.length then sub1 j else sub2 (j - s1.xs.length)) ⟨s1.xs++s2.xs,nn⟩ .all:=by
 unfold hpl;congr 1;apply UK;intro j;rw[Dx];by_cases hj:j < s1.xs.length
 ·rw[Dh (by simpa using hj),Dh hj,Dx];grind
 ·rw[Dg (by simpa using hj),Dg (by omega),Dx];simp only[List.length_mapIdx];cases s2.xs[j - s1.xs.length]? with
  |none=>rfl
  |some a=>simp[hj,Own.fl]
theorem zlt{T bytes:Nat}{s1 s2 s':Sl (C.D T)}{sub1 sub2:Nat->Value}(h:zo bytes s1 s2.xs=E s'):∃sub,zo bytes (hpl C T sub1 s1 .all) (hpl C T sub2 s2 .all).xs=E (hpl C T sub s' .all):=by
 obtain⟨h1,h2,rfl⟩:=zil h;refine⟨λj=>if j < s1.xs.length then sub1 j else sub2 (j - s1.xs.length),?_⟩;unfold zo;rw[jv (by simp only[WF];grind)];rw[show(hpl C T sub1 s1 .all).nn=s1.nn from rfl,show(hpl C T sub2 s2 .all).xs.isEmpty=s2.xs.isEmpty by cases h:s2.xs<;>simp[hpl,h]];rw[zxV]
def WV(P:Program)(S:St C)(d:Nat)(t:TypeId)(x y:Operand)(K:Out C->U7 ρ):U7 ρ:=match P.underlying t with
 |some (.slice e)=>(match P.info? e with
  |some ti=>(match ti.zero with
   |some zv=>chk (M ti.size (C.size e) && (O 0 (C.size e) && (M zv.cells.size (C.size e) && isNone (S.heap (nid d 0)))))
    (match S.op y with
    | .row id2=>(match S.heap id2 with
     |some (.orow T2 s2 .all)=>(match S.op x with
      | .row id=>(match S.heap id with
       |some (.orow T s .all)=>chk (M T e && !M id id2) ((wr s2).bind λts=>(zo ti.bytes s ts).bind λs'=>K (.go {env:=upd ((S.sub id .und).sub id2 .und).env d (.row (nid d 0)),heap:=upd ((S.sub id .und).sub id2 .und).heap (nid d 0) (E (.orow T s' .all))}))
       |_=>F)
      | .nils=>(wr (T:=e) s2).bind λts=>(zo ti.bytes ⟨[],I⟩ ts).bind λs'=>K (.go {env:=upd (S.sub id2 .und).env d (.row (nid d 0)),heap:=upd (S.sub id2 .und).heap (nid d 0) (E (.orow e s' .all))})
      |_=>F)
     |_=>F)
    |_=>F)
   |none=>F)
  |none=>F)
 |_=>F
def Wk(P:Program)(S:St C)(d:Nat)(t:TypeId)(x y:Operand):U7 (Out C):=WV P S d t x y E
theorem zo0{K:Out C->U7 ρ}:WV P S d t x y K=(Wk P S d t x y).bind K:=by
 unfold Wk WV;split
 ·split
  ·split
   ·rw[zt];congr 1;split
    ·split
     ·split
      ·split
       ·simp only[zt,gh,jj]
       ·rfl
      all_goals grind
     ·rfl
    ·rfl
   ·rfl
  ·rfl
 ·rfl
theorem zfD{id j:Nat}{R:AV C.D}(h:S.heap j=F):(S.sub id R).heap j=none:=by
 show(bif M j id then F else(S.heap j).map _)=F;grind
theorem zst(h:AbsL κ S ν vs ids L b Z PV)(hn:O d n=G):OpA κ P n w0 σ0 ⟨E d,.call {callee :=.builtin .append,args:= #[x,y],argTypes:= #[t,t]},ty,ps,af,g⟩ (Wk P S d t x y) L b Z PV:=by
 intro out hX;unfold Wk WV at hX;split at hX
 ·rename_i e hu;split at hX
  ·rename_i ti hi;split at hX
   ·rename_i zv hz;let⟨hc,hX2⟩:=zb hX;simp only[gf] at hc;let⟨c1,c2,c3,c4⟩:=hc;have h0:=Ze c4;have hx:=h.op x;have hy:=h.op y;split at hX2
    ·rename_i id2 ey;rw[ey] at hy;have hy:opv L b y=ν.hdr id2:=hy;split at hX2
     ·rename_i T2 s2 hs2;split at hX2
      ·rename_i id ex;rw[ex] at hx;have hx:opv L b x=ν.hdr id:=hx;split at hX2
       ·rename_i T s hs;let⟨hc2,hX3⟩:=zb hX2;simp only[gf] at hc2;obtain rfl:=ge hc2.1;have hne:id≠id2:=λe=>by subst e;simp at hc2
        let⟨ts,hts,hX4⟩:=gd hX3;let⟨s',hs',hX5⟩:=gd hX4;unfold wr at hts;split at hts
        ·rename_i hT;subst hT;cases hts;let⟨ids',PV',hf,hinv⟩:=h.front2 (w0:=w0) (σ0:=σ0) hne hs hs2;let⟨sub',hg⟩:=zlt (sub1:=(ν.adr id).sub) (sub2:=(ν.adr id2).sub) hs';refine OpA.pv hinv ?_ out hX5;have key:=zaa (ρ:=Out C) (P:=P) (n:=n) (w0:=w0) (σ0:=σ0) (Z:=Z) (L:=L) (b:=b) (ty:=ty) (ps:=ps) (af:=af) (g:=g) (d:=d) (T:=Zd C T2) (s:=hpl C T2 (ν.adr id).sub s .all) (ts:=(hpl C T2 (ν.adr id2).sub s2 .all).xs) (v:=ν.hdr id) (u:=opv L b y) (kk:=λ_=>E out) (H:=λp' L' Z' PV'=>(∃w,Inv w0 σ0 Z' PV' w)->∀r,p'=E r->∃S',r = .go S'/\zy κ S' L' b Z' PV') [.row (Zd C T2) T2 (ν.hdr id2) (hpl C T2 (ν.adr id2).sub s2 .all)] PV' hn hu hi hz (ge c3) (ge c1) c2 hx rfl (λw gg hw sA hgs=>by rw[hy];exact ze0 w gg hw sA hgs) λs'' v' hs'' hw r hr=>?_
         ·rw[hg] at key;have:=OpA.of2 key;rw[hX5];exact this
         ·rw[hg] at hs'';cases hs'';cases hX5;cases hr;let⟨w,hw⟩:=hw;have h1:=hf.sub (id:=id) (m:=0) (R :=.und) rfl (FS.le.refl Z) trivial trivial rfl;have h2:=AbsL.sub (S:=S.sub id .und) h1 (id:=id2) (m:=0) (R :=.und) rfl (FS.le.refl Z) trivial trivial rfl;exact⟨_,rfl,AbsL.newO (S:=(S.sub id .und).sub id2 .und) (T:=T2) h2 (zfD (S:=S.sub id .und) (zfD h0)) (yL κ d 0) (Wj hw)⟩
        ·cases hts
       ·cases hX2
      ·rename_i ex;rw[ex] at hx;have hx:opv L b x = .slice F 0 0:=hx;let⟨ts,hts,hX4⟩:=gd hX2;let⟨s',hs',hX5⟩:=gd hX4;unfold wr at hts;split at hts
       ·rename_i hT;subst hT;cases hts;let⟨ids',PV',hf,hinv⟩:=h.front1 (w0:=w0) (σ0:=σ0) hs2;let⟨sub',hg⟩:=zlt (s1:=⟨[],I⟩) (sub1:=(ν.adr id2).sub) (sub2:=(ν.adr id2).sub) hs';have hinv2:∀w,Inv w0 σ0 Z PV w->Inv w0 σ0 Z (.row (Zd C T2) T2 (.slice F 0 0) (hpl C T2 (ν.adr id2).sub ⟨[],I⟩ .all) :: .row (Zd C T2) T2 (ν.hdr id2) (hpl C T2 (ν.adr id2).sub s2 .all)::PV') w:=λw hi=>(hinv w hi).sub_own λgg k =>.cons (h1:=zc.none) (.inl ⟨rfl,rfl⟩) k (zc.none_le _) (.refl _) (zc.none_disj _)
        refine OpA.pv hinv2 ?_ out hX5;have key:=zaa (ρ:=Out C) (P:=P) (n:=n) (w0:=w0) (σ0:=σ0) (Z:=Z) (L:=L) (b:=b) (ty:=ty) (ps:=ps) (af:=af) (g:=g) (d:=d) (T:=Zd C T2) (s:=hpl C T2 (ν.adr id2).sub ⟨[],I⟩ .all) (ts:=(hpl C T2 (ν.adr id2).sub s2 .all).xs) (v :=.slice F 0 0) (u:=opv L b y) (kk:=λ_=>E out) (H:=λp' L' Z' PV'=>(∃w,Inv w0 σ0 Z' PV' w)->∀r,p'=E r->∃S',r = .go S'/\zy κ S' L' b Z' PV') [.row (Zd C T2) T2 (ν.hdr id2) (hpl C T2 (ν.adr id2).sub s2 .all)] PV' hn hu hi hz (ge c3) (ge c1) c2 hx rfl (λw gg hw sA hgs=>by rw[hy];exact ze0 w gg hw sA hgs) λs'' v' hs'' hw r hr=>?_
        ·rw[hg] at key;have:=OpA.of2 key;grind
        ·rw[hg] at hs'';cases hs'';cases hX5;cases hr;let⟨w,hw⟩:=hw;have h1:=hf.sub (id:=id2) (m:=0) (R :=.und) rfl (FS.le.refl Z) trivial trivial rfl;exact⟨_,rfl,AbsL.newO (S:=S.sub id2 .und) (T:=T2) h1 (zfD h0) (yL κ d 0) (Wj hw)⟩
       ·cases hts
      ·cases hX2
     ·cases hX2
    ·cases hX2
   ·cases hX
  ·cases hX
 ·cases hX
def wJ(P:Program)(S:St C)(d:Nat)(t:TypeId)(x y:Operand)(K:Out C->U7 ρ):U7 ρ:=match P.underlying t with
 |some (.slice e)=>(match P.info? e with
  |some ti=>(match ti.zero,S.op x with
   |some zv,.int _ i=>chk (zde x y && (M ti.size (C.size e) && (O 0 (C.size e) && isNone (S.heap (nid d 0)))))
       (match zv.cells.toList[C.nst e]? with
       |some (.slice F 0 0)=>(C.imp e (zv.cells.toList.map ZY)).bind λq=>(match Zn C e q with
        | .sl _ u _=>chk (M u.xs.length 0 && !u.nn) ((XQ ti.bytes i q).bind λs=>K (.go {env:=upd S.env d (.row (nid d 0)),heap:=upd S.heap (nid d 0) (E (.orow e s .all))}))
        |_=>F)
       |_=>F)
   |_,_=>F)
  |none=>F)
 |_=>F
def XY(P:Program)(S:St C)(d:Nat)(t:TypeId)(x y:Operand):U7 (Out C):=wJ P S d t x y E
theorem zne{K:Out C->U7 ρ}:wJ P S d t x y K=(XY P S d t x y).bind K:=by
 unfold XY wJ;split
 ·split
  ·split
   ·rw[zt];congr 1;split
    ·rw[gh];congr 1;funext q;split
     ·simp only[zt,gh,jj]
     ·rfl
    ·rfl
   ·rfl
  ·rfl
 ·rfl
theorem zo1(h:AbsL κ S ν vs ids L b Z PV)(hn:O d n=G):OpA κ P n w0 σ0 ⟨E d,.makeSlice t x y,ty,ps,af,g⟩ (XY P S d t x y) L b Z PV:=by
 intro out hX;unfold XY wJ at hX;split at hX
 ·rename_i e hu;split at hX
  ·rename_i ti hi;split at hX
   ·rename_i zv k i hz ex;have hx:=h.op x;rw[ex] at hx;let⟨hc,hX2⟩:=zb hX;simp only[gf] at hc;let⟨c0,c1,c2,c3⟩:=hc;have h0:=Ze c3;obtain rfl:=ziu c0;split at hX2
    ·rename_i hzn;let⟨q,hq,hX3⟩:=gd hX2;split at hX3
     ·rename_i U u c hu2;let⟨hc3,hX4⟩:=zb hX3;simp only[gf,Dz] at hc3;have hu3:u=⟨[],I⟩:=by
       let⟨xs,nn⟩:=u;have h1:xs=[]:=UT (ge hc3.1);have h2:nn=false:=hc3.2;rw[h1,h2]
      subst hu3;let⟨s,hs,hX5⟩:=gd hX4;obtain⟨g1,g2,g3,rfl⟩:=zf0 hs;have hrel:∀τ:FS,yW C e τ zc.none zv.cells.toList (q,1,.slice F 0 0):=λτ=>by
       have hr:=WI (τ:=τ) (ν:=ν) (xL zv.cells.toList) hq;refine⟨hr.1,(zx C e).one hr,λj A hj _=>hr.2 j A hj,hzn,λe=>(by cases e),λ_=>⟨U,⟨[],I⟩,?_,.inl ⟨rfl,rfl⟩⟩⟩;have hb:(Zn C e q).base=true:=by
        have hh:Zn C e q ≠.und:=by rw[hu2];intro e;cases e
        unfold Zn at hh |-
        cases hg:(C.emb e q)[C.nst e]? with
        |none=>rw[hg] at hh;exact absurd rfl hh
        |some A=>exact C.base e q A (UW hg)
       rw[hu2] at hb;have:c=false:=by simpa[AV.base] using hb
       show Zn C e q=_;rw[hu2,this]
      have hs2:XQ ti.bytes i (q,1,Value.slice F 0 0)=E (hpl C e (λ_ =>.slice F 0 0) ⟨List.replicate i.toNat q,G⟩ .all):=by
       unfold XQ;rw[jv ⟨g1,g2,g3⟩];congr 1;unfold hpl;congr 1;apply UK;intro j;rw[Dx,qF,qF];split<;>rfl
      have key:=znj (ρ:=Out C) (P:=P) (n:=n) (w0:=w0) (σ0:=σ0) (Z:=Z) (PV:=PV) (L:=L) (b:=b) (ty:=ty) (ps:=ps) (af:=af) (g:=g) (d:=d) (T:=Zd C e) (q:=(q,1,Value.slice F 0 0)) (kk:=λ_=>E out) (H:=λp' L' Z' PV'=>(∃w,Inv w0 σ0 Z' PV' w)->∀r,p'=E r->∃S',r = .go S'/\zy κ S' L' b Z' PV') hn hu hi hz (ge c1) c2 hx.int_inv hx.int_inv hrel λs' v hs' hw r hr=>?_
      ·rw[hs2] at key;have:=OpA.of2 key;exact this out rfl
      ·rw[hs2] at hs';cases hs';cases hX5;cases hr;let⟨w,hw⟩:=hw;exact⟨_,rfl,h.newO h0 (yL κ d 0) (Wj hw)⟩
     ·cases hX3
    ·cases hX2
   ·cases hX
  ·cases hX
 ·cases hX
end
variable [Dfr]
section
variable {ρ:Type}{n:Nat}{w0:Start}{σ0 Z:FS}{p:U7 ρ}{L:List (Nat×Value)}{b:Nat->Value}{PV PV':List Priv}{P:Program}
variable {H:U7 ρ->List (Nat×Value)->FS->List Priv->Prop}{d:Nat}{v:Value}{t ty:TypeId}{ps:String}{af:Array Edge}{g:U7 (Nat×Bool)}{x:Operand}
theorem zsu {α:Type}{T:Ty α}{s:Sl α}{e':TypeId}{cs:List Value}{xs1:List α}{w:World}(m:Nat) (hT:0 < T.o.size) (hm:PV[m]?=E (.row T.o e' v s)) (hrel:∀τ,Z.le τ->T.rels τ cs xs1) (hle:xs1.length<=s.xs.length) (hne:0 < xs1.length) (hinv:Inv w0 σ0 Z PV w) :
    ∃a0 c w',v = .slice (E a0) s.xs.length c/\(storeCells a0 cs).run P w = .ok () w'/\Inv w0 σ0 Z (PV.set m (.row T.o e' v ⟨xs1++s.xs.drop xs1.length,s.nn⟩)) w':=by
 let⟨hh0,hr0,hsub⟩:=hinv.held.get hm;have hr0:zn T.o e' v s Z hh0:=hr0;have hrel0:=hrel Z (FS.le.refl Z);have hfn:cs.length=xs1.length * T.o.size:=T.rels_len hrel0;have hone:∀u∈cs,u.oneCell'=true:=OTy.rels_one (T:=T.o) (h:=zc.none) (Ty.rels_o.2 hrel0)
 have hlen:s.xs.length≠0:=by omega
 rcases hr0 with⟨rfl,rfl⟩ | ⟨aq,rfl,rfl⟩ | ⟨qb,cap,cur,hb,gg,rfl,r2,r3,r4,r5,r0,r6,r7,r8,r9,r10⟩
 ·exact absurd rfl hlen
 ·exact absurd rfl hlen
 have hst:∀h1:zc,zn T.o e' (.slice (E ⟨qb,0,F⟩) s.xs.length cap) s Z h1->h1.sub w->
     ∃w',(storeCells ⟨qb,0,F⟩ cs).run P w = .ok () w'/\∃h1',zn T.o e' (.slice (E ⟨qb,0,F⟩) s.xs.length cap) ⟨xs1++s.xs.drop xs1.length,s.nn⟩ Z h1'/\h1'.sub w'/\Ext w h1 w'/\∀b i,(h1' b i).isSome->(h1 b i).isSome\/w.heap.size<=b:=by
  rintro h1 (⟨c1,rfl⟩ | ⟨aq,c1,rfl⟩ | ⟨qc,cap2,cur2,hb2,g2,c1,s2,s3,s4,s5,s0,s6,s7,s8,s9,s10⟩) hsb
  ·exact absurd rfl hlen
  ·exact absurd rfl hlen
  cases c1;have hfit:xs1.length * T.o.size<=cur2.length:=UP (Dn _ (UP hle s3)) s5;have hcells:∀j,j < cs.length->∃u,hb2 qb (0+j+1)=E (.cell u):=λj hj=>⟨_,by rw[Dc];exact s7 j _ (UM (by omega))⟩
  have hlt:qb < w.heap.size:=Bit.at_lt (hsb _ _ _ (s0 _ _ _ s6));have hpos:0 < xs1.length * T.o.size:=Nat.mul_pos (by omega) hT;let⟨w',j1,j2,j3⟩:=Vx (P:=P) (hsb.mono s0) hlt hcells hone (by intro e;rw[e] at hfn;rw[<- hfn] at hpos;exact absurd hpos (by simp));have hl2:(xs1++s.xs.drop xs1.length).length=s.xs.length:=by simp;omega
  refine⟨w',j1,hb2.put qb 0 cs,?_,j2,j3.mono s0,λb i hx =>.inl (s0.isSome (zc.put_dom (λj hj=>by let⟨u,hu⟩:=hcells j hj;rw[hu];rfl) hx))⟩;refine .inr (.inr ⟨qb,cap,cs++cur2.drop (xs1.length * T.o.size),_,zc.none,by simp[hl2],s2,by simpa[hl2] using s3,s4,?_,.refl _,?_,λj u hj=>?_,zc.none_le _,λb i =>.inr rfl,?_⟩)
  ·simp only[jy,hfn,UU];omega
  ·rw[zc.put_out (by omega),s6];congr 2;simp only[jy,hfn,UU];omega
  · by_cases c1:j < xs1.length * T.o.size
    · rw[Dh (by omega)] at hj;have:=zc.put_in (h:=hb2) (q:=qb) (off:=0) hj
      rwa [Dc] at this
    ·rw[Dg (by omega),hfn,Dl] at hj;rw[show xs1.length * T.o.size+(j - xs1.length * T.o.size)=j by omega] at hj;rw[zc.put_out (by omega)];exact s7 j u hj
  · rw[Ty.rels_o] at s10 |-
    have hd:=T.rels_drop xs1.length s10;have ha:=T.rels_append hrel0 hd;have:(cs++cur2.drop (xs1.length * T.o.size)).take ((xs1++s.xs.drop xs1.length).length * T.o.size)=cs++(cur2.take (s.xs.length * T.o.size)).drop (xs1.length * T.size):=by
     rw[hl2,List.take_append,hfn,Dq (by rw[hfn];exact Dn _ hle),List.drop_take];rfl
    rw[this];exact ha
 let⟨w',j1,j2⟩:=hst hh0 (.inr (.inr ⟨qb,cap,cur,hb,gg,rfl,r2,r3,r4,r5,r0,r6,r7,r8,r9,r10⟩)) hsub;refine⟨_,cap,w',rfl,j1,hinv.change hm λh1 k1 ksub=>?_⟩;let⟨w2,q1,q2⟩:=hst h1 k1 ksub;rw[j1] at q1;cases q1;exact q2
theorem ztV {α:Type}{T:Ty α}{s:Sl α}{e e':TypeId}{ti:TypeInfo}{xs:List α}{y:Operand}{tt:Array TypeId}(m:Nat) (hn:O d n=G) (ht:tt[0]?=E t) (hu:P.underlying t=E (.slice e)) (hi':P.info? e=E ti) (hsz:ti.size=T.o.size) (h0:O 0 T.o.size=G)
    (hx:opv L b x=v) (hm:PV[m]?=E (.row T.o e' v s)) (hs:∀w,Y4 Z PV w->∃news,(∀τ,Z.le τ->T.rels τ news xs)/\vt w (opv L b y) xs.length news)
    (h:H p ((d,.int .i64 (min xs.length s.xs.length:Nat))::L) Z (PV.set m (.row T.o e' v ⟨xs.take s.xs.length++s.xs.drop xs.length,s.nn⟩))) :
    Xl P n w0 σ0 ⟨E d,.call {callee :=.builtin .copy,args:= #[x,y],argTypes:=tt},ty,ps,af,g⟩ p L b Z PV H:=by
 intro r hp a w hinv hft K Q hK;have hT:0 < T.o.size:=by simpa using h0
 let⟨news,hrel,hsrc⟩:=hs w hinv.held;have key:∃w',(qk tt ty #[v,opv L b y]).run P w = .ok (.int .i64 (min xs.length s.xs.length:Nat)) w'/\Inv w0 σ0 Z (PV.set m (.row T.o e' v ⟨xs.take s.xs.length++s.xs.drop xs.length,s.nn⟩)) w':=by
  have hnl:news.length=xs.length * T.o.size:=T.rels_len (hrel Z (FS.le.refl Z));by_cases hk:min xs.length s.xs.length=0
  · have hsame:(⟨xs.take s.xs.length++s.xs.drop xs.length,s.nn⟩:Sl α)=s:=by
      let⟨l,q⟩:=s;rcases Nat.min_eq_zero_iff.1 hk with e | e
      ·have:xs=[]:=UT e;subst this;simp
      ·have:l=[]:=UT e;subst this;simp
    rw[hsame];have hset:PV.set m (.row T.o e' v s)=PV:=by
     let⟨hl,he⟩:=UG.1 hm;rw[<- he,List.set_getElem_self]
    rw[hset];refine⟨w,?_,hinv⟩;let⟨hh0,hr0,hsub⟩:=hinv.held.get hm;obtain⟨a0,c,rfl,_⟩:=zn.form (hr0:zn T.o e' v s Z hh0);rcases hsrc with⟨e1,e2,e3⟩ | ⟨a1,c1,e1,_⟩
    ·rw[e1,e2];cases a0<;>simp[qk,ht,UY hu,qx,qy,sizeOf,typeInfo,hi',storeCells,goInt]
    ·rw[e1,hk];have hk':qA xs.length s.xs.length=0:=hk;cases a0<;>simp[qk,ht,UY hu,qx,qy,sizeOf,typeInfo,hi',storeCells,goInt,hk',loadCells,loadCellsFrom]
  · have hpos:0 < min xs.length s.xs.length:=Nat.pos_of_ne_zero hk;have hr2:∀τ,Z.le τ->T.rels τ (news.take (min xs.length s.xs.length * T.o.size)) (xs.take (min xs.length s.xs.length)):=λτ l=>T.rels_take _ (hrel τ l)
    have hl1:(xs.take (min xs.length s.xs.length)).length=min xs.length s.xs.length:=by simp
    obtain⟨a0,c,w',rfl,q1,q2⟩:=zsu (P:=P) m hT hm hr2 (by rw[hl1];exact Nat.min_le_right _ _) (by rw[hl1];exact hpos) hinv;refine⟨w',?_,?_⟩
    · rcases hsrc with⟨e1,e2,e3⟩ | ⟨a1,c1,e1,e2⟩
      ·rw[e2] at hpos;simp at hpos
      · rw[e1];have hld:=Vw (P:=P) (w:=w) a1 (news.take (min xs.length s.xs.length * T.o.size)) λj u hj=>e2 j u (by rw[List.getElem?_take] at hj;split at hj;exact hj;cases hj)
        rw[show(news.take (min xs.length s.xs.length * T.o.size)).length=min xs.length s.xs.length * T.o.size by rw[Do,hnl];exact Dp (Dn _ (Nat.min_le_left _ _))] at hld;have hmin:qA xs.length s.xs.length=min xs.length s.xs.length:=rfl;simp[qk,ht,UY hu,qx,qy,sizeOf,typeInfo,hi',hsz,goInt,hmin,hld,q1,Result.andThen]
    · have:(⟨xs.take (min xs.length s.xs.length)++s.xs.drop (xs.take (min xs.length s.xs.length)).length,s.nn⟩:Sl α)=⟨xs.take s.xs.length++s.xs.drop xs.length,s.nn⟩:=by
        rw[hl1];congr 1;rcases Nat.le_total xs.length s.xs.length with l | l
        ·rw[Dp l,Dq (UN _),Dq l]
        ·rw[Nat.min_eq_right l,UA (UN _),UA l]
      rw[<- this];exact q2
 let⟨w',hrun,hi2⟩:=key;unfold Oper.wp;have hrun':(execOp a.eval ⟨E d,.call {callee :=.builtin .copy,args:= #[x,y],argTypes:=tt},ty,ps,af,g⟩).run P w = .ok (.value (.int .i64 (min xs.length s.xs.length:Nat))) w':=by
  rw[hft.eval];simp[execOp,resolve,invoke,builtin,hx,hrun]
 rw[hrun',Oper.upon_value];exact hK _ _ Z _ _ _ hp hi2 (hft.put (by simpa[Dd] using hn) _) h
end
section
variable {κ:Kp}{C:Cod}{S:St C}{ν:Val}{vs:Nat->List Value}{ids:List Nat}{L:List (Nat×Value)}{b:Nat->Value}{Z:FS}{PV:List Priv}{P:Program}{ρ:Type}
variable {t t' ty:TypeId}{x y z:Operand}{d id:Nat}{pv:Priv}{ps:String}{af:Array Edge}{g:U7 (Nat×Bool)}{A:AV C.D}{n:Nat}{w0:Start}{σ0:FS}{o:Oper}{X:U7 (Out C)}
theorem zzb{T U:Nat}{q:C.D T}{u:Sl (C.D U)}{c:Bool}(hu:Zn C T q = .sl U u c):C.nst T < C.size T:=by
 have hh:Zn C T q ≠.und:=by grind
 unfold Zn at hh;cases hg:(C.emb T q)[C.nst T]? with
 |none=>grind
 |some A=>rw[<- C.len T q];grind
theorem zxW{T U:Nat}{q q':C.D T}{u':Sl (C.D U)}(hn:C.nst T < C.size T)(hq':C.imp T ((C.emb T q).set (C.nst T) (.sl U u' I))=E q'):Zn C T q' = .sl U u' I/\∀(j:Nat),j≠C.nst T->(C.emb T q')[j]?=(C.emb T q)[j]?:=by
 have hlq:(C.emb T q).length=C.size T:=C.len T q;have hbq:∀A∈(C.emb T q).set (C.nst T) (.sl U u' I),A.base=true:=λA hA=>by
  rcases qC hA with z | z
  ·exact C.base T q A z
  ·rw[z];rfl
 have heq:∀(j:Nat),(C.emb T q')[j]?=((C.emb T q).set (C.nst T) (.sl U u' I))[j]?:=λj=>by
  cases hj:((C.emb T q).set (C.nst T) (.sl U u' I))[j]? with
  |none=>
   rw[qG] at hj |-
   rw[qE,C.len] at hj;rw[C.len];exact hj
  |some A=>exact zdD hq' hj (hbq A (UW hj))
 refine⟨?_,λj hj=>?_⟩
 ·unfold Zn;rw[heq,UL,jv rfl,jv (by omega)];rfl
 ·rw[heq,UL,jx (λe=>hj e.symm)]
def WW(P:Program)(S:St C)(d:Nat)(ts:Array TypeId)(x y:Operand)(K:Out C->U7 ρ):U7 ρ:=match ts[0]? with
 |some t=>(match P.underlying t with
  |some (.slice e)=>(match P.info? e,S.op x,S.op y with
   |some ti,.nx id T i .whole,.nx id2 T2 i2 .whole=>(match S.heap id,S.heap id2 with
    |some (.orow T' s .all),E (.orow T2' s2 .all)=>chk (!M id id2 && (M T T' && M T2 T2')) ((za s i).bind λq=>(za s2 i2).bind λq2=>(match Zn C T' q,Zn C T2' q2 with
     | .sl U u _,.sl U2 u2 _=>chk (O 0 (C.size U) && M ti.size (C.size U)) ((wr (T:=U) u2).bind λxs=>(C.imp T' ((C.emb T' q).set (C.nst T') (.sl U ⟨xs.take u.xs.length++u.xs.drop xs.length,u.nn⟩ I))).bind λq'=>
         K (.go {env:=upd S.env d (.int .i64 (min xs.length u.xs.length:Nat)),heap:=upd S.heap id (E (.orow T' (s.set i q') .all))}))
     |_,_=>F))
    |_,_=>F)
   |_,_,_=>F)
  |_=>F)
 |none=>F
def Wl(P:Program)(S:St C)(d:Nat)(ts:Array TypeId)(x y:Operand):U7 (Out C):=WW P S d ts x y E
theorem zo2{ts:Array TypeId}{K:Out C->U7 ρ}:WW P S d ts x y K=(Wl P S d ts x y).bind K:=by
 unfold Wl WW;split
 ·split
  ·split
   ·split
    ·rw[zt,gh];congr 1;congr 1;funext q;rw[gh];congr 1;funext q2;split
     ·simp only[zt,gh,jj]
     ·rfl
    ·rfl
   ·rfl
  ·rfl
 ·rfl
theorem zsv(h:AbsL κ S ν vs ids L b Z PV)(hn:O d n=G){ts:Array TypeId}:OpA κ P n w0 σ0 ⟨E d,.call {callee :=.builtin .copy,args:= #[x,y],argTypes:=ts},ty,ps,af,g⟩ (Wl P S d ts x y) L b Z PV:=by
 intro out hX;unfold Wl WW at hX;split at hX
 ·rename_i t ht;split at hX
  ·rename_i e hu;have hx:=h.op x;have hy:=h.op y;split at hX
   ·rename_i ti id T i id2 T2 i2 hi ex ey;rw[ex] at hx;rw[ey] at hy;have hx:opv L b x=(ν.adr id).sub i.toNat:=hx.1;have hy:opv L b y=(ν.adr id2).sub i2.toNat:=hy.1;split at hX
    ·rename_i T' s T2' s2 hs hs2;let⟨hT,hX⟩:=zb hX;simp only[gf,Dz] at hT;let⟨hne,hT1,hT2⟩:=hT;obtain rfl:=ge hT1;obtain rfl:=ge hT2;have hne:id≠id2:=λe=>by subst e;simp at hne
     let⟨q,hq,hX⟩:=gd hX;let⟨q2,hq2,hX⟩:=gd hX;split at hX
     ·rename_i U u c U2 u2 c2 hu1 hu2;let⟨c0,hX⟩:=zb hX;simp only[gf] at c0;let⟨xs,hxs,hX⟩:=gd hX;let⟨q',hq',hX⟩:=gd hX;unfold wr at hxs;split at hxs
      ·rename_i hUU;subst hUU;cases hxs;let⟨ids',PV',hf,hinv⟩:=h.front2 (w0:=w0) (σ0:=σ0) hne hs hs2;have hopen:∀w,Inv w0 σ0 Z PV w->Inv w0 σ0 Z (.row (zx C U2).o U2 ((ν.adr id).sub i.toNat) u :: .row (Zd C T) T (ν.hdr id) (hpl C T (ν.adr id).sub s (.out i))::zH C ν vs id2 (E (.orow T2 s2 .all))::PV') w:=λw hi=>(hinv w hi).sub_own λgg kk=>by
        let⟨h1,h2,m1,m2,n1,n2,dd⟩:=kk.uncons;exact Sep.append (A:=[_,_]) (zb9 (m1:zn (Zd C T) T (ν.hdr id) (hpl C T (ν.adr id).sub s .all) Z h1) hq hu1) m2 n1 n2 dd
       refine OpA.pv hopen ?_ out hX;have hsrc:∀w,Y4 Z (.row (zx C U2).o U2 ((ν.adr id).sub i.toNat) u :: .row (Zd C T) T (ν.hdr id) (hpl C T (ν.adr id).sub s (.out i))::zH C ν vs id2 (E (.orow T2 s2 .all))::PV') w->∃news,(∀τ,Z.le τ->(zx C U2).rels τ news u2.xs)/\vt w (opv L b y) u2.xs.length news:=by
        intro w hw;let⟨g1,hg1,hsub⟩:=hw.get (m:=2) rfl;have hg1:zn (Zd C T2) T2 (ν.hdr id2) (hpl C T2 (ν.adr id2).sub s2 .all) Z g1:=hg1;let⟨f1,f2,r1,r2,l1,l2,dd⟩:=(zb9 hg1 hq2 hu2).uncons;have r1:zn (zx C U2).o U2 ((ν.adr id2).sub i2.toNat) u2 Z f1:=r1;let⟨gA,news,k1,k2,k3⟩:=r1.source (hsub.mono l1);rw[hy];exact⟨news,λτ l=>(zx C U2).rels_mono l (Ty.rels_o.1 k2),k3⟩
       refine OpA.of3 (ztV (T:=zx C U2) 0 hn ht hu hi (ge c0.2) c0.1 hx rfl hsrc λr hr=>⟨_,_,(V.inj hr).symm,⟨ν,vs,id::id2::ids',(hf.setO0 (e' :=.orow T (s.set i q') .all) hs (λcs e=>by cases e)).put (A :=.int .i64 _) Rv.int trivial⟩,λw hi=>hi.sub_own λgg kk=>?_⟩);let⟨h1,h2,m1,m2,n1,n2,dd⟩:=Sep.split (A:=[_,_]) kk;let⟨e1,e2⟩:=zxW (zzb hu1) hq';exact .cons (h1:=h1) (ziJ m1 hq e1 e2) m2 n1 n2 dd
      ·cases hxs
     ·cases hX
    ·cases hX
   ·cases hX
  ·cases hX
 ·cases hX
end
variable [Dfr]
section
variable {ρ:Type}{n:Nat}{w0:Start}{σ0 Z:FS}{p:U7 ρ}{L:List (Nat×Value)}{b:Nat->Value}{PV PV':List Priv}{P:Program}
variable {H:U7 ρ->List (Nat×Value)->FS->List Priv->Prop}{d:Nat}{v:Value}{t ty:TypeId}{ps:String}{af:Array Edge}{g:U7 (Nat×Bool)}{x:Operand}
end
section
variable {κ:Kp}{C:Cod}{S:St C}{ν:Val}{vs:Nat->List Value}{ids:List Nat}{L:List (Nat×Value)}{b:Nat->Value}{Z:FS}{PV:List Priv}{P:Program}{ρ:Type}
variable {t t' ty:TypeId}{x y z:Operand}{d id:Nat}{pv:Priv}{ps:String}{af:Array Edge}{g:U7 (Nat×Bool)}{A:AV C.D}{n:Nat}{w0:Start}{σ0:FS}{o:Oper}{X:U7 (Out C)}
def zdG{D:Nat->Type}:List (AV D)->Nat->Bool
 |cs,k=>match cs[k]? with
  |some (.row _)=>G
  |_=>I
def isO(S:St C)(x:Operand):Bool:=match S.op x with
 | .row id=>(match S.heap id with
  |some (.orow _ _ _)=>G
  |_=>I)
 |_=>I
def zfE(S:St C)(x:Operand):Bool:=match S.op x with
 | .nx _ _ _ _=>G
 |_=>I
def zfF(S:St C)(x y:Operand):Bool:=match S.op x with
 | .pr id T i off=>(match S.heap id with
  |some (.orow _ _ _)=>G
  |some (.row T' _)=>C.own T' && (W off (C.nst T') && zdG (zr (S.op y)) (C.nst T' - off))
  |_=>I)
 | .nx _ _ _ _=>G
 |_=>I
def YK(P:Program)(t:TypeId):Nat:=match P.underlying t with
 |some (.slice e)=>e
 |_=>0
inductive KN where
 |st (t:TypeId) (x y:Operand)
 |apn (d:Nat) (t t':TypeId) (x y:Operand)
 |apo (d:Nat) (t t':TypeId) (x y:Operand)
 |bl (d:Nat) (t:TypeId) (i m:Nat) (y:Operand)
 |mk (d:Nat) (t:TypeId) (x y:Operand)
 |cy (d:Nat) (ts:Array TypeId) (x y:Operand)
def xc(P:Program)(S:St C):U7 Nat->Op->U7 KN
 |none,.store t x y=>bif zfF S x y then E (.st t x y) else F
 |some d,.call ⟨.builtin .append,args,ts⟩=>(match args.toList,ts.toList with
  |[x,y],[t,t']=>bif zfE S x then E (.apn d t t' x y) else bif isO S y then E (.apo d t t' x y) else F
  |_,_=>F)
 |some d,.buildSlice t m parts=>(match parts.toList with
  |[(i,y)]=>bif C.own (YK P t) && zdG (zr (S.op y)) (C.nst (YK P t)) then E (.bl d t i m y) else F
  |_=>F)
 |some d,.makeSlice t x y=>bif C.own (YK P t) then E (.mk d t x y) else F
 |some d,.call ⟨.builtin .copy,args,ts⟩=>(match args.toList with
  |[x,y]=>E (.cy d ts x y)
  |_=>F)
 |_,_=>F
def WX(P:Program)(S:St C):KN->U7 (Out C)
 | .st t x y=>xR P S t x y
 | .apn d t t' x y=>chk (M t t') (Wi P S d t x y)
 | .apo d t t' x y=>chk (M t t') (Wk P S d t x y)
 | .bl d t i m y=>chk (M i 0 && M m 1) (xT P S d t y)
 | .mk d t x y=>XY P S d t x y
 | .cy d ts x y=>Wl P S d ts x y
theorem zzc(h:AbsL κ S ν vs ids L b Z PV){dst:U7 Nat}{op:Op}(hn:∀d,dst=E d->O d n=G){k:KN}(hX:xc P S dst op=E k):OpA κ P n w0 σ0 ⟨dst,op,ty,ps,af,g⟩ (WX P S k) L b Z PV:=by
 unfold xc at hX;split at hX
 ·rename_i t x y;cases hc:zfF S x y with
  |false=>grind
  |true=>rw[hc] at hX;cases hX;exact znc h
 ·rename_i d args ts;split at hX
  ·rename_i x y t t' e1 e2;cases hc:zfE S x with
   |true=>
    rw[hc] at hX;cases hX;intro out hX;let⟨hk,hX2⟩:=zb hX;obtain rfl:=ge hk;rw[zaW e1,zaW e2];exact zss h (hn d rfl) out hX2
   |false=>
    rw[hc,UC] at hX;cases hc2:isO S y with
    |false=>grind
    |true=>
     rw[hc2] at hX;cases hX;intro out hX;let⟨hk,hX2⟩:=zb hX;obtain rfl:=ge hk;rw[zaW e1,zaW e2];exact zst h (hn d rfl) out hX2
  ·cases hX
 ·rename_i d t m parts;split at hX
  ·rename_i i y e1;cases hc:(C.own (YK P t) && zdG (zr (S.op y)) (C.nst (YK P t))) with
   |false=>grind
   |true=>
    rw[hc] at hX;cases hX;intro out hX;let⟨hk,hX2⟩:=zb hX;simp only[gf] at hk;obtain rfl:=ge hk.1;obtain rfl:=ge hk.2;exact znd h (hn d rfl) e1 out hX2
  ·cases hX
 ·rename_i d t x y;cases hc:C.own (YK P t) with
  |false=>rw[hc] at hX;cases hX
  |true=>rw[hc] at hX;cases hX;exact zo1 h (hn d rfl)
 ·rename_i d args ts;split at hX
  ·rename_i x y e1;cases hX;rw[zaW e1];exact zsv h (hn d rfl)
  ·cases hX
 ·cases hX
end
end
end Go.Px
