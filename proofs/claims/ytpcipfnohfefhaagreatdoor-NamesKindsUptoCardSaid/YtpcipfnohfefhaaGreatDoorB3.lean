/- Part B3: PxMO PxMO2 PxM11 PxM12 PxM13 PxM14 PxM15 PxMO -/
import Derived.Test.YtpcipfnohfefhaaGreatDoorA3
set_option linter.unusedSectionVars false
set_option linter.unusedVariables false
set_option linter.unusedSimpArgs false
namespace Go.Px
section
theorem U3:∀ {m n : Nat},m∈List.range n↔m < n:=@List.mem_range
theorem U2:∀{α:Type _}{p:α->Bool}{«as»:List α}{x:α},x∈List.filter p «as»↔x∈«as»/\p x=true:=@List.mem_filter
variable [Dfr]
section
variable {ρ:Type}{n:Nat}{w0:Start}{σ0 Z:FS}{p:G3 ρ}{L:List (Nat×Value)}{b:Nat->Value}{PV:List Priv}{P:Program}
variable {H:G3 ρ->List (Nat×Value)->FS->List Priv->Prop}{d:Nat}{v:Value}{t t' ty:TypeId}{ps:String}{af:Array Edge}{g:G3 (Nat×Bool)}{x y z:Operand}{k:IntKind}{i j:Int}
theorem zc.put_disj {c f:zc}{q off:Nat}{vs:List Value}(hall:∀ j,j < vs.length->(c q (off+j+1)).isSome) (df:c.disj f):(c.put q off vs).disj f:=fun b i'=>by
 cases hx:c.put q off vs b i' with
 |none=>exact .inl rfl
 |some y=>
  have:=zc.put_dom hall (by rw [hx];rfl);rcases df b i' with z | z
  all_goals grind
theorem Wb {α:Type}{T:OTy α}{e:TypeId}{s:Sl α}{ti:TypeInfo}{q q':α}{us:List Value}{off:Nat}(A C:List Priv) (hi':P.info? t=some ti) (hx:opv L b x = .pointer (some (zh v (i.toNat * T.size+off)))) (hy:(opv L b y).cells.toList=us)
    (hs:ti.size=us.length) (h0:0 < us.length) (hone:∀ u∈us,u.oneCell'=true) (hq:zd s i=some q) (hoff:off+us.length<=T.size)
    (hr:∀ g gA k cs,T.rel Z g cs q->Sep Z A gA->g.disj gA->g.le k->gA.le k->T.rel Z k (cs.take off++us++cs.drop (off+us.length)) q')
    (h:H p L Z (.row T e v (s.set i q')::C)):wq P n w0 σ0 ⟨none,.store t x y,ty,ps,af,g⟩ p L b Z (.row T e v s::(A++C)) H:=by
  intro r hp a w hi hf K Q hK;have hne:us≠[]:=by grind
  have hsz:(opv L b y).cells.size=us.length:=by grind
  have hi0:Inv w0 σ0 Z ((.row T e v s::A)++C) w:=hi;refine Exists.elim (hi0.replace (R:=fun w' A'=>(execOp a.eval ⟨none,.store t x y,ty,ps,af,g⟩).run P w = .ok .skip w'/\A'=[Priv.row T e v (s.set i q')]) ?_) ?_
  · intro hA sA subA;obtain ⟨f1,f2,k1,k2,l1,l2,dd⟩:=Sep.uncons sA;obtain ⟨g1,g2,m1,m2,n1,n2,d3⟩:=(vI (v:=v) (e:=e) (i:=i) k1 hq).uncons;obtain ⟨cs,c1,c2,p1,p2,p3,p4,p5⟩:=m2.one_of;have hcl:cs.length=T.size:=T.len p5;have l12:c1.le hA:=p1.trans (n2.trans l1);have l22:c2.le hA:=p2.trans (n2.trans l1);have hsp:=p4.1;have hadd:(zh v (i.toNat * T.size)).add off=⟨(zh v (i.toNat * T.size)).block,(zh v (i.toNat * T.size)).off+off,none⟩:=Addr.add_eq _ hsp off;have hcells:∀ j,j < us.length->∃ y,c1 (zh v (i.toNat * T.size)).block ((zh v (i.toNat * T.size)).off+off+j+1)=some (.cell y):=fun j hj=>
      ⟨_,by rw [show (zh v (i.toNat * T.size)).off+off+j=(zh v (i.toNat * T.size)).off+(off+j) by omega];exact p4.2 (off+j) _ (GI (by omega))⟩
    have hlt2:(zh v (i.toNat * T.size)).block < w.heap.size:=by
      obtain ⟨y,hy⟩:=hcells 0 (by omega);exact Bit.at_lt (subA _ _ _ (l12 _ _ _ hy))
    obtain ⟨w',j1,j2,j3⟩:=zaO (P:=P) (subA.mono l12) hlt2 hcells hone hne;have hall:∀ j,j < us.length->(c1 (zh v (i.toNat * T.size)).block ((zh v (i.toNat * T.size)).off+off+j+1)).isSome:=fun j hj=>by grind
    generalize hcp:c1.put (zh v (i.toNat * T.size)).block ((zh v (i.toNat * T.size)).off+off) us=cp at *
    have hd':∀ {f:zc},c1.disj f->cp.disj f:=fun {f} df=>by rw [<- hcp];exact zc.put_disj hall df
    have hdom:∀ b i',(cp b i').isSome->(c1 b i').isSome:=fun b i' hx=>by rw [<- hcp] at hx;exact zc.put_dom hall hx
    have dcg:c1.disj g1:=(d3.mono (.refl _) p1).symm;have d2g:c2.disj g1:=(d3.mono (.refl _) p2).symm;have dcA:c1.disj f2:=dd.mono (p1.trans n2) (.refl _);have d2A:c2.disj f2:=dd.mono (p2.trans n2) (.refl _);have dgA:g1.disj f2:=dd.mono n1 (.refl _);have hcell':ZW (zh v (i.toNat * T.size)) (cs.take off++us++cs.drop (off+us.length)) cp:=by
      refine ⟨hsp,fun j u hj=>?_⟩;rw [Y6 (by omega) rfl] at hj;rw [<- hcp];split at hj
      ·rw [show (zh v (i.toNat * T.size)).off+j+1=(zh v (i.toNat * T.size)).off+off+(j - off)+1 by omega];exact zc.put_in hj
      ·rw [zc.put_out (by omega)];exact p4.2 j u hj
    have hnew:=hr c2 f2 (c2.or f2) cs p5 k2 d2A (zc.le_or _ _) (zc.le_or_right d2A);have dn:cp.disj (c2.or f2):=(zc.or_disj (hd' p3).symm (hd' dcA).symm).symm;have dg:g1.disj (cp.or (c2.or f2)):=(zc.or_disj (hd' dcg) (zc.or_disj d2g dgA.symm)).symm;refine ⟨w',_,g1.or (cp.or (c2.or f2)),⟨?_,rfl⟩,.one ?_,?_,j3.mono l12,fun b i' hx =>.inl ?_⟩
    · rw [hf.eval];have he:(⟨(zh v (i.toNat * T.size)).block,(zh v (i.toNat * T.size)).off+off,none⟩:Addr)=zh v (i.toNat * T.size+off):=by rw [<- Yb,hadd]
      rw [he] at j1;simp only [execOp,Instr.storeAt,Instr.sureAddr,hx,storeVar,sizeOf,typeInfo,GV,GT,GX,GW,hi',hsz,hs,Ui,not_true,jk,hy,j1]
    ·exact m1 Z _ q' _ (.refl _) dg ⟨_,cp,c2.or f2,zc.le_or _ _,zc.le_or_right dn,dn,hcell',hnew⟩ (zc.le_or _ _) (zc.le_or_right dg)
    ·exact zc.or_sub (j3.frag dcg (subA.mono (n1.trans l1))) (zc.or_sub j2 (zc.or_sub (j3.frag p3 (subA.mono l22)) (j3.frag dcA (subA.mono l2))))
    · unfold zc.or at hx;cases hx1:g1 b i' with
      |some y=>exact (n1.trans l1).isSome (by simp [hx1])
      |none=>
        rw [hx1] at hx;cases hx2:cp b i' with
        |some y=>exact l12.isSome (hdom b i' (by rw [hx2];rfl))
        |none=>
          rw [hx2] at hx;cases hx3:c2 b i' with
          |some y=>exact l22.isSome (by rw [hx3];rfl)
          |none=>rw [hx3] at hx;exact l2.isSome (by simpa using hx)
  ·rintro w' ⟨A',⟨hrun,rfl⟩,hi2⟩;unfold Oper.wp;rw [hrun,Oper.upon_skip];exact hK _ _ Z _ _ _ hp hi2 hf h
end
section
variable {κ:Kp}{C:Cod}{S:St C}{ν:Val}{vs:Nat->List Value}{ids:List Nat}{L:List (Nat×Value)}{b:Nat->Value}{Z:FS}{PV:List Priv}{P:Program}
variable {t t' ty:TypeId}{x y z:Operand}{d id:Nat}{pv:Priv}{ps:String}{af:Array Edge}{g:G3 (Nat×Bool)}{A:AV C.D}{n:Nat}{w0:Start}{σ0:FS}{o:Oper}{X:G3 (Out C)}
theorem AbsL.front1 (h:AbsL κ S ν vs ids L b Z PV) {id:Nat}{e:Ent C}(h1:S.heap id=some e):∃ ids' PV',AbsL κ S ν vs (id::ids') L b Z (zG C ν vs id (some e)::PV')/\∀ w,Inv w0 σ0 Z PV w->Inv w0 σ0 Z (zG C ν vs id (some e)::PV') w:=by
 obtain ⟨m,hm,hid⟩:=h.at h1;exact ⟨_,_,h.front hid hm⟩
theorem AbsL.front2 (h:AbsL κ S ν vs ids L b Z PV) {id id2:Nat}{e e2:Ent C}(hne:id≠id2) (h1:S.heap id=some e) (h2:S.heap id2=some e2) :
    ∃ ids' PV',AbsL κ S ν vs (id::id2::ids') L b Z (zG C ν vs id (some e)::zG C ν vs id2 (some e2)::PV')/\∀ w,Inv w0 σ0 Z PV w->Inv w0 σ0 Z (zG C ν vs id (some e)::zG C ν vs id2 (some e2)::PV') w:=by
  obtain ⟨ids1,PV1,k1,k2⟩:=h.front1 (w0:=w0) (σ0:=σ0) h2;obtain ⟨m,hm,hid⟩:=k1.at h1;cases m with
  |zero=>grind
  |succ m=>
    obtain ⟨k3,k4⟩:=k1.front (w0:=w0) (σ0:=σ0) hid hm;grind
theorem AbsL.setO0 (h:AbsL κ S ν vs (id::ids) L b Z (pv::PV)) {e e':Ent C}(hc:S.heap id=some e) (he:∀ cs,e' ≠.cell cs) (hfx:ZT (some e')=true->ZT (some e)=true:=by first | exact fun h=>h | exact fun h=>by cases h) :
    AbsL κ {S with heap:=upd S.heap id (some e')} ν vs (id::ids) L b Z (zG C ν vs id (some e')::PV):=by
  have hlv:∀ j,(S.heap j).isSome=(upd S.heap id (some e') j).isSome:=fun j=>by
    by_cases e1:j=id
    ·subst e1;rw [zl,hc];rfl
    ·rw [zm e1]
  have hnd:=List.nodup_cons.1 h.nd;have hpv:PV=ids.map fun j=>zG C ν vs j (S.heap j):=by have:=h.pv;grind
  refine ⟨⟨h.nd,fun j=>?_,?_,fun j c hj=>?_,h.env,h.one⟩,fun t=>?_,fun j c hj=>?_,fun k hk hs=>have q:=h.keep k hk (by grind);⟨q.1,q.2.1,fun hf=>q.2.2 (zaY (fun h=>by grind) hf)⟩⟩
  ·show _↔(upd S.heap id (some e') j).isSome=true;rw [<- hlv];exact h.dom j
  · rw [GE];refine List.cons_eq_cons.2 ⟨by show _=zG C ν vs id (upd S.heap id (some e') id);rw [zl],?_⟩;rw [hpv];refine Ux fun j hj=>?_
    have hne:j≠id:=fun e1=>by grind
    show zG C ν vs j (S.heap j)=zG C ν vs j (upd S.heap id (some e') j);rw [zm hne]
  · have hj:upd S.heap id (some e') j=_:=hj;by_cases e1:j=id
    ·subst e1;rw [zl] at hj;grind
    ·rw [zm e1] at hj;exact h.cell j c hj
  ·exact AV.ok_mono (fun j hj=>by grind) (h.live t)
  · have hj:upd S.heap id (some e') j=_:=hj;refine AV.oks_mono (p:=fun id=>(S.heap id).isSome=true) (fun j hj=>by grind) ?_;by_cases e1:j=id
    ·subst e1;rw [zl] at hj;grind
    ·rw [zm e1] at hj;exact h.livec j c hj
theorem zqt {q:Nat->Bool}{o:G3 (Ent C)}:ZT (o.map (Ent.knx q))=ZT o:=by
 cases o with
 |none=>rfl
 |some e=>cases e <;> rfl
def St.owk (S:St C) (id:Nat) (e:Ent C):St C:=
 {env:=fun t=>AV.knx (fun j=>Nat.beq j id) (S.env t),heap:=fun j=>bif Nat.beq j id then some e else (S.heap j).map (Ent.knx fun j=>Nat.beq j id)}
theorem AbsL.setO (h:AbsL κ S ν vs (id::ids) L b Z (pv::PV)) {e:Ent C}(hc:S.heap id=some e) {T:Nat}{s:Sl (C.D T)}{g:Own}{sub:Nat->Value}(hgx:g.isFix=false) :
    AbsL κ (S.owk id (.orow T s g)) {hdr:=ν.hdr,adr:=upd ν.adr id ⟨(ν.adr id).a,sub⟩ } vs (id::ids) L b Z (.row (Zh C T) T (ν.hdr id) (hpl C T sub s g)::PV):=by
  let ν':Val:={hdr:=ν.hdr,adr:=upd ν.adr id ⟨(ν.adr id).a,sub⟩ }
  let q:Nat->Bool:=fun j=>Nat.beq j id
  have hd:∀ j,j≠id->(S.owk id (.orow T s g)).heap j=(S.heap j).map (Ent.knx q):=fun j hj=>by
    show (bif Nat.beq j id then _ else _)=_;cases e1:Nat.beq j id with
    |true=>exact absurd (jz e1) hj
    |false=>rfl
  have hd0:(S.owk id (.orow T s g)).heap id=some (.orow T s g):=by
    show (bif Nat.beq id id then _ else _)=_;simp
  have hlv:∀ j,(S.heap j).isSome=((S.owk id (.orow T s g)).heap j).isSome:=fun j=>by
    grind
  have ha:∀ j,(S.heap j).isSome=true->ν.hdr j=ν'.hdr j/\(ν.adr j).a=(ν'.adr j).a:=fun j _=>by
    refine ⟨rfl,?_⟩;show _=(upd ν.adr id ⟨(ν.adr id).a,sub⟩ j).a;by_cases e1:j=id
    ·subst e1;rw [zl]
    ·rw [zm e1]
  have hs:∀ j,(S.heap j).isSome=true->q j=false->(ν.adr j).sub=(ν'.adr j).sub:=fun j _ hq=>by
    show _=(upd ν.adr id ⟨(ν.adr id).a,sub⟩ j).sub;rw [zm fun e1=>by subst e1;simp [q] at hq]
  have hnd:=List.nodup_cons.1 h.nd;have hpv:PV=ids.map fun j=>zG C ν vs j (S.heap j):=by have:=h.pv;grind
  have hcell:∀ j c,(S.owk id (.orow T s g)).heap j=some (.cell c)->∃ c0,S.heap j=some (.cell c0)/\c=AV.knxs q c0:=fun j c hj=>by
    by_cases e1:j=id
    ·grind
    · rw [hd j e1] at hj;cases hsj:S.heap j with
      |none=>grind
      |some en=>
        rw [hsj] at hj;cases en with
        |cell c0=>cases hj;grind
        |row T s=>cases hj
        |obj k T b s=>cases hj
        |orow T s g=>cases hj
  refine ⟨⟨h.nd,fun j=>?_,?_,fun j c hj=>?_,fun t=>?_,h.one⟩,fun t=>?_,fun j c hj=>?_,fun k hk hs'=>?_⟩
  ·rw [<- hlv];exact h.dom j
  · rw [GE];refine List.cons_eq_cons.2 ⟨?_,?_⟩
    ·rw [hd0];show _=Priv.row (Zh C T) T (ν.hdr id) (hpl C T (upd ν.adr id ⟨(ν.adr id).a,sub⟩ id).sub s g);rw [zl]
    · rw [hpv];refine Ux fun j hj=>?_
      have hne:j≠id:=fun e1=>by grind
      rw [hd j hne];have e3:upd ν.adr id ⟨(ν.adr id).a,sub⟩ j=ν.adr j:=zm hne;cases S.heap j with
      |none=>rfl
      |some en=>cases en <;> simp [zG,Ent.knx,e3]
  ·obtain ⟨c0,h1,rfl⟩:=hcell j c hj;exact VRs.knx ha hs (h.livec j c0 h1) (h.cell j c0 h1)
  ·exact VR.knx ha hs (h.live t) (h.env t)
  ·exact AV.ok_mono (fun j hj=>by grind) (AV.ok_knx (h.live t))
  ·obtain ⟨c0,h1,rfl⟩:=hcell j c hj;exact AV.oks_mono (fun j hj=>by grind) (AV.oks_knx (h.livec j c0 h1))
  · have h1:(S.heap k).isSome=true:=by grind
    have:=h.keep k hk h1;refine ⟨this.1,(ha k h1).2.symm.trans this.2.1,fun hf=>?_⟩;by_cases e1:k=id
    ·subst e1;rw [hd0] at hf;exact absurd hf (by show ¬ g.isFix=true;rw [hgx];simp)
    ·refine Eq.trans (congrArg Loc.sub (zm e1)) (this.2.2 ?_);rw [hd k e1,zqt] at hf;exact hf
theorem zjj {T:Nat}{sub:Nat->Value}{s:Sl (C.D T)}{v:Value}{h:zc}{i:Int}{q:C.D T}{U:Nat}{u:Sl (C.D U)}{c:Bool}(hr:zo (Zh C T) T v (hpl C T sub s .all) Z h) (hq:zd s i=some q) (hu:Z1 C T q = .sl U u c) :
    Sep Z [.row (zE C U).o U (sub i.toNat) u,.row (Zh C T) T v (hpl C T sub s (.out i))] h:=by
  obtain ⟨h1,h2,m1,m2,n1,n2,dd⟩:=(vI (v:=v) (e:=T) (i:=i) hr (wZ hq)).uncons;obtain ⟨cs,c1,c2,p1,p2,p3,p4,p5⟩:=m2.one_of;have p5:yP C T Z c2 cs (q,Own.all.fl i.toNat,sub i.toNat):=p5;obtain ⟨k1,k2,k3,k4,k5,k6⟩:=p5;obtain ⟨U',u',e1,e2⟩:=k6 rfl;rw [hu] at e1;cases e1;have d1:h1.disj c1:=dd.mono (.refl _) p1;have d2:h1.disj c2:=dd.mono (.refl _) p2;have hnew:(Priv.row (Zh C T) T v ((hpl C T sub s .all).set i (q,(Own.out i).fl i.toNat,sub i.toNat))).holds Z (h1.or c1):=by
    refine m1 Z c1 _ _ (.refl _) d1 ⟨cs,c1,zc.none,.refl _,zc.none_le _,zc.disj_none _,p4,?_⟩ (zc.le_or _ _) (zc.le_or_right d1);exact ⟨k1,k2,k3,k4,fun e=>by simp [Own.fl] at e,fun e=>by simp [Own.fl] at e⟩
  have he:(hpl C T sub s .all).set i (q,(Own.out i).fl i.toNat,sub i.toNat)=hpl C T sub s (.out i):=by
    rw [zcZ (g :=.all) (g' :=.out i) (sub':=sub) (q':=q) fun j hj hne=>⟨by simp [Own.fl,hne],rfl⟩,Sl.set_same hq]
  rw [he] at hnew;refine .cons (h1:=c2) (h2:=h1.or c1) e2 (Sep.one hnew) (p2.trans n2) (zc.or_le n1 (p1.trans n2)) ?_;exact (zc.or_disj d2 p3).symm
theorem zo8 {T:Nat}{sub:Nat->Value}{s:Sl (C.D T)}{v:Value}{h:zc}{i:Int}{q q':C.D T}{U:Nat}{u':Sl (C.D U)}(hs:Sep Z [.row (zE C U).o U (sub i.toNat) u',.row (Zh C T) T v (hpl C T sub s (.out i))] h) (hq:zd s i=some q)
    (hu:Z1 C T q' = .sl U u' false) (ho:∀ (j:Nat),j≠C.nst T->(C.emb T q')[j]?=(C.emb T q)[j]?):zo (Zh C T) T v (hpl C T sub (s.set i q') .all) Z h:=by
  obtain ⟨f1,f2,r1,r2,l1,l2,dd⟩:=hs.uncons;have r1:zo (zE C U).o U (sub i.toNat) u' Z f1:=r1;have r2:zo (Zh C T) T v (hpl C T sub s (.out i)) Z f2:=r2.one_of;obtain ⟨h1,h2,m1,m2,n1,n2,d3⟩:=(vI (v:=v) (e:=T) (i:=i) r2 (wZ hq)).uncons;obtain ⟨cs,c1,c2,p1,p2,p3,p4,p5⟩:=m2.one_of;obtain ⟨k1,k2,k3,k4,k5,k6⟩:=(p5:yP C T Z c2 cs (q,(Own.out i).fl i.toNat,sub i.toNat));have d1:h1.disj c1:=d3.mono (.refl _) p1;have d2:h1.disj f1:=(dd.mono (.refl _) n1).symm;have d4:c1.disj f1:=(dd.mono (.refl _) (p1.trans n2)).symm;have dn:h1.disj (c1.or f1):=(zc.or_disj d1.symm d2.symm).symm;have hnew:(Priv.row (Zh C T) T v ((hpl C T sub s (.out i)).set i (q',Own.all.fl i.toNat,sub i.toNat))).holds Z h:=by
    refine m1 Z (c1.or f1) _ h (.refl _) dn ⟨cs,c1,f1,zc.le_or _ _,zc.le_or_right d4,d4,p4,?_⟩ (n1.trans l2) (zc.or_le ((p1.trans n2).trans l2) l1);refine ⟨k1,k2,fun j A hj hn=>?_,k4,fun e=>by simp [Own.fl] at e,fun _=>⟨U,u',hu,r1⟩⟩;grind
  have he:(hpl C T sub s (.out i)).set i (q',Own.all.fl i.toNat,sub i.toNat)=hpl C T sub (s.set i q') .all:=zcZ fun j hj hne=>⟨by simp [Own.fl,hne],rfl⟩
  rw [he] at hnew;exact hnew
end
end
section
variable [Dfr]
def vw:Own->Int->G3 Own
 | .all,_=>some .all
 | .out j,i=>chk (decide (i=j)) (some .all)
 | .upto k,i=>chk (decide (i=k)) (some (.upto (k+1)))
 | .fix,_=>none
def zej {α:Type}(g:Own) (i:Int) (K:Own->G3 α):G3 α:=match g with
 | .all=>K .all
 | .out j=>chk (decide (i=j)) (K .all)
 | .upto k=>chk (decide (i=k)) (K (.upto (k+1)))
 | .fix=>none
theorem Wz {α:Type}{g:Own}{i:Int}{K:Own->G3 α}:zej g i K=(vw g i).bind K:=by
 cases g with
 |all=>rfl
 |out j=>exact (zw (x:=some Own.all)).symm
 |upto k=>exact (zw (x:=some (Own.upto (k+1)))).symm
 |fix=>rfl
theorem zms {g g':Own}{i:Int}(h:vw g i=some g') (h0:0<=i):g'.fl i.toNat=1/\∀ j,j≠i.toNat->g'.fl j=g.fl j:=by
 cases g with
 |all=>cases h;exact ⟨rfl,fun _ _=>rfl⟩
 |out j=>
  obtain ⟨e,h2⟩:=zb h;have e:=Us e;subst e;cases h2;exact ⟨rfl,fun j hj=>by simp [Own.fl,hj]⟩
 |fix=>cases h
 |upto k=>
  obtain ⟨e,h2⟩:=zb h;have e:=Us e;subst e;cases h2;refine ⟨?_,fun j hj=>?_⟩
  ·show (if i.toNat < (i+1).toNat then 1 else 0)=1;grind
  ·show (if j < (i+1).toNat then 1 else 0)=(if j < i.toNat then 1 else 0);grind
theorem zdW {g g':Own}{i:Int}(h:vw g i=some g'):g'.isFix=false:=by
 cases g with
 |all=>cases h;rfl
 |out j=>obtain ⟨_,h2⟩:=zb h;cases h2;rfl
 |fix=>cases h
 |upto k=>obtain ⟨_,h2⟩:=zb h;cases h2;rfl
section
variable {C:Cod}{Z:FS}{ν:Val}
theorem zjk {D:Nat->Type}{A B:AV D}(h:leA A B) (hb:A.base=true):B=A:=by
 rcases h with h | ⟨T,s,c,rfl,rfl⟩ | ⟨T,c,rfl,rfl⟩
 ·exact h.symm
 ·have:c=false:=by simpa [AV.base] using hb
  rw [this]
 ·cases hb
theorem zbm {D:Nat->Type}:∀ {as bs:List (AV D)},zd4 as bs->∀ {j:Nat}{B:AV D},bs[j]?=some B->∃ A,as[j]?=some A/\leA A B
 |[],[],_,j,B,h=>by simp at h
 |a::as,b::bs,⟨h,k⟩,0,B,e=>by grind
 |a::as,b::bs,⟨h,k⟩,j+1,B,e=>by simpa using zbm k (j:=j) (by simpa using e)
 |[],_::_,h,_,_,_=>h.elim
 |_::_,[],h,_,_,_=>h.elim
theorem ze3 {T:Nat}{cs:List (AV C.D)}{q:C.D T}(h:C.imp T cs=some q) {j:Nat}{A:AV C.D}(hj:cs[j]?=some A) (hb:A.base=true):(C.emb T q)[j]?=some A:=by
 have hl:=C.imp_ok T cs q h;have hlen:=ziR hl;have hjl:j < (C.emb T q).length:=by grind
 obtain ⟨A',e1,e2⟩:=zbm hl (GI hjl);rw [hj] at e1;cases e1;rw [GI hjl,zjk e2 hb]
def Wc {D:Nat->Type}(off:Nat) (cs us:List (AV D)):List (AV D):=cs.take off++us++cs.drop (off+us.length)
theorem zek {D:Nat->Type}{cur us:List (AV D)}{o:Nat}(ho:o+us.length<=cur.length) (j:Nat):(Wc o cur us)[j]?=if o<=j/\j < o+us.length then us[j - o]? else cur[j]?:=by
 have htl:(cur.take o).length=o:=by simp;omega
 unfold Wc;by_cases h1:j < o
 ·grind
 ·by_cases h2:j < o+us.length
  ·rw [jr ⟨by omega,h2⟩,Ub,Uc (by omega),htl,Ud (by omega)]
  ·rw [js (by omega),Uc (by grind),Uh];grind
theorem zg4 {T off:Nat}{g:zc}{cs us:List Value}{q q':C.D T}{f:Nat}{v0:Value}{cells cells':List (AV C.D)}(r:yP C T Z g cs (q,f,v0)) (hus:VRs C Z ν us cells) (hone:∀ u∈us,u.oneCell'=true) (hlen:cells'.length=cells.length) (hoff:off+us.length<=C.size T)
    (hq:C.imp T (Wc off (C.emb T q) cells')=some q') (hc:∀ (j:Nat) A,cells'[j]?=some A->off+j≠C.nst T->cells[j]?=some A) :
    (cs.take off++us++cs.drop (off+us.length)).length=C.size T/\(∀ u∈cs.take off++us++cs.drop (off+us.length),u.oneCell'=true)/\
    ∀ (j:Nat) A,(C.emb T q')[j]?=some A->j≠C.nst T->∃ u,(cs.take off++us++cs.drop (off+us.length))[j]?=some u/\Rv C Z u A:=by
  have hcl:=r.1;refine ⟨by grind,fun u hu=>?_,fun j A hj hn=>?_⟩
  · rcases G5.1 hu with hu | hu
    · rcases G5.1 hu with hu | hu
      ·exact r.2.1 u (List.mem_of_mem_take hu)
      grind
    ·exact r.2.1 u (List.mem_of_mem_drop hu)
  · obtain ⟨B,e1,e2⟩:=zbm (C.imp_ok T _ q' hq) hj;have hb:=C.base T q' A (GS hj);rw [Y6 (by omega) rfl];have hel:(C.emb T q).length=C.size T:=C.len T q;have hul:=hus.len;rw [zek (by omega)] at e1;rw [hlen,<- hul] at e1;split
    ·rename_i hin;rw [jr hin] at e1;have:=hc _ _ e1 (by omega);obtain ⟨u,hu1,hu2⟩:=hus.get _ _ this;exact ⟨u,hu1,(zeO hu2 e2).rv hb⟩
    ·rename_i hin;rw [js hin] at e1;obtain ⟨u,hu1,hu2⟩:=r.2.2.1 j B e1 hn;refine ⟨u,hu1,?_⟩;rw [zjk e2 (C.base T q B (GS e1))];exact hu2
theorem zqu {T off:Nat}{g k:zc}{cs us:List Value}{q q':C.D T}{f:Nat}{v0:Value}{cells:List (AV C.D)}(r:yP C T Z g cs (q,f,v0)) (hus:VRs C Z ν us cells) (hone:∀ u∈us,u.oneCell'=true) (hoff:off+us.length<=C.size T)
    (hq:C.imp T (Wc off (C.emb T q) cells)=some q') (ho:C.nst T < off\/off+us.length<=C.nst T) (hk:g.le k):yP C T Z k (cs.take off++us++cs.drop (off+us.length)) (q',f,v0):=by
  obtain ⟨h1,h2,h3⟩:=zg4 r hus hone rfl hoff hq fun j A h _=>h
  have hcl:=r.1;have hel:(C.emb T q).length=C.size T:=C.len T q;have hul:=hus.len;have hn:=r.nlt;have h4:Z1 C T q'=Z1 C T q:=by
    unfold Z1;have:(C.emb T q)[C.nst T]?=some ((C.emb T q)[C.nst T]'(by omega)):=GI (by omega);rw [this];have e:(Wc off (C.emb T q) cells)[C.nst T]?=some ((C.emb T q)[C.nst T]'(by omega)):=by
      rw [zek (by omega),js (by omega)];exact this
    rw [ze3 hq e (C.base T q _ (GS this))]
  refine ⟨h1,h2,h3,?_,fun e=>?_,fun e=>?_⟩
  ·rw [Y6 (by omega) rfl,js (by omega)];exact r.2.2.2.1
  ·show Rv C Z v0 (Z1 C T q');rw [h4];exact r.2.2.2.2.1 e
  ·obtain ⟨U,s,k1,k2⟩:=r.2.2.2.2.2 e;exact ⟨U,s,by grind,k2.mono (.refl _) hk⟩
theorem zg5 {T off U:Nat}{g gA k:zc}{cs us:List Value}{q q':C.D T}{f:Nat}{v0 v:Value}{cells:List (AV C.D)}{u:Sl (C.D U)}(r:yP C T Z g cs (q,f,v0)) (hus:VRs C Z ν us cells) (hone:∀ u∈us,u.oneCell'=true) (hoff:off+us.length<=C.size T)
    (hq:C.imp T (Wc off (C.emb T q) (cells.set (C.nst T - off) (.sl U u false)))=some q') (ho:off<=C.nst T/\C.nst T < off+us.length) (hv:us[C.nst T - off]?=some v) (hrow:zo (zE C U).o U v u Z gA) (hk:gA.le k) :
    yP C T Z k (cs.take off++us++cs.drop (off+us.length)) (q',1,v):=by
  have hul:=hus.len;obtain ⟨h1,h2,h3⟩:=zg4 (cells':=cells.set (C.nst T - off) (.sl U u false)) r hus hone (by simp) hoff hq fun j A h hn=>by
    grind
  have hcl:=r.1;have hel:(C.emb T q).length=C.size T:=C.len T q;refine ⟨h1,h2,h3,?_,fun e=>(by cases e),fun _=>⟨U,u,?_,hrow.mono (.refl _) hk⟩⟩
  ·grind
  · show Z1 C T q'=_;unfold Z1;have e:(Wc off (C.emb T q) (cells.set (C.nst T - off) (.sl U u false)))[C.nst T]?=some (.sl U u false):=by
      rw [zek (by grind),jr (by grind),GH,jr rfl,jr (by omega)]
    rw [ze3 hq e rfl];rfl
end
section
variable {κ:Kp}{C:Cod}{S:St C}{ν:Val}{vs:Nat->List Value}{ids:List Nat}{L:List (Nat×Value)}{b:Nat->Value}{Z:FS}{PV:List Priv}{P:Program}{ρ:Type}
variable {t t' ty:TypeId}{x y z:Operand}{d id:Nat}{pv:Priv}{ps:String}{af:Array Edge}{g:G3 (Nat×Bool)}{A:AV C.D}{n:Nat}{w0:Start}{σ0:FS}{o:Oper}{X:G3 (Out C)}
def XU (S:St C) (id T:Nat) (s:Sl (C.D T)) (g:Own) (i:Int) (off:Nat) (cells:List (AV C.D)) (K:Out C->G3 ρ):G3 ρ:=match cells[C.nst T - off]? with
  |some (.row id2)=>(match S.heap id2 with
    |some (.row U u)=>chk (!Nat.beq id id2) ((zd s i).bind fun q=>zej g i fun g'=>(C.imp T (Wc off (C.emb T q) (cells.set (C.nst T - off) (.sl U u false)))).bind fun q'=>
        K (.go ((S.sub id2 .und).owk id (.orow T (s.set i q') g'))))
    |_=>none)
  |some .nils=>(zd s i).bind fun q=>(match Z1 C T q with
    | .sl U _ _=>zej g i fun g'=>(C.imp T (Wc off (C.emb T q) (cells.set (C.nst T - off) (.sl U ⟨[],false⟩ false)))).bind fun q'=>K (.go (S.owk id (.orow T (s.set i q') g')))
    |_=>none)
  |_=>none
def vV (S:St C) (ti:TypeInfo) (y:Operand) (off N:Nat):Bool:=Yw (S.op y) && (Nat.beq ti.size (zq (S.op y)).length && (Nat.ble (off+(zq (S.op y)).length) N && Nat.blt 0 (zq (S.op y)).length))
def xI (off n k:Nat):Bool:=Nat.ble off k && Nat.blt k (off+n)
def Xe (P:Program) (S:St C) (t:TypeId) (x y:Operand) (K:Out C->G3 ρ):G3 ρ:=
  match P.info? t,S.op x with
  |some ti,.pr id T i off=>(match S.heap id with
    |some (.orow T' s g)=>chk (Nat.beq T T' && vV S ti y off (C.size T'))
        (bif xI off (zq (S.op y)).length (C.nst T') then XU S id T' s g i off (zq (S.op y)) K
        else (zd s i).bind fun q=>(C.imp T' (Wc off (C.emb T' q) (zq (S.op y)))).bind fun q'=>K (.go {S with heap:=upd S.heap id (some (.orow T' (s.set i q') g))}))
    |some (.row T' s)=>chk (Nat.beq T T' && (vV S ti y off (C.size T') && xI off (zq (S.op y)).length (C.nst T'))) (XU S id T' s (.upto 0) i off (zq (S.op y)) K)
    |_=>none)
  |some ti,.nx id T i (.elem U k off)=>(match S.heap id with
    |some (.orow T' s .all)=>chk (Nat.beq T T' && vV S ti y off (C.size U)) ((zd s i).bind fun q=>(match Z1 C T' q with
      | .sl U' u _=>chk (Nat.beq U U') ((zd u k).bind fun y0=>(C.imp U' (Wc off (C.emb U' y0) (zq (S.op y)))).bind fun y1=>
          (C.imp T' ((C.emb T' q).set (C.nst T') (.sl U' (u.set k y1) false))).bind fun q'=>K (.go {S with heap:=upd S.heap id (some (.orow T' (s.set i q') .all))}))
      |_=>none))
    |_=>none)
  |_,_=>none
def xu (P:Program) (S:St C) (t:TypeId) (x y:Operand):G3 (Out C):=Xe P S t x y some
theorem zjl {id T:Nat}{s:Sl (C.D T)}{g:Own}{i:Int}{off:Nat}{cells:List (AV C.D)}{K:Out C->G3 ρ}:XU S id T s g i off cells K=(XU S id T s g i off cells some).bind K:=by
 unfold XU;simp only [Wz];split
 ·split
  ·simp only [zw,ga,jf]
  ·rfl
 ·rw [ga];congr 1;funext q;split
  all_goals grind
 ·rfl
theorem zjm {K:Out C->G3 ρ}:Xe P S t x y K=(xu P S t x y).bind K:=by
 unfold xu Xe;split
 ·split
  ·rw [zw];congr 1;cases xI _ _ _ with
   |true=>exact zjl
   |false=>grind
  ·rw [zw,<- zjl]
  ·rfl
 ·split
  ·rw [zw,ga];congr 1;congr 1;funext q;split
   ·simp only [zw,ga,jf]
   ·rfl
  ·rfl
 ·rfl
theorem zaA {ti:TypeInfo}{off N:Nat}(h:vV S ti y off N=true):Yw (S.op y)=true/\ti.size=(zq (S.op y)).length/\off+(zq (S.op y)).length<=N/\0 < (zq (S.op y)).length:=by
 simp only [vV,g9] at h;exact ⟨h.1,jz h.2.1,Uf h.2.2.1,by simpa [GZ] using h.2.2.2⟩
theorem zg6 {off n k:Nat}(h:xI off n k=true):off<=k/\k < off+n:=by
 simp only [xI,g9] at h;exact ⟨Uf h.1,by simpa [GZ] using h.2⟩
theorem zmt {off n k:Nat}(h:xI off n k=false):k < off\/off+n<=k:=by
 by_cases h1:off<=k/\k < off+n
 ·exfalso;have:xI off n k=true:=by
   simp only [xI,g9];exact ⟨Nat.ble_eq_true_of_le h1.1,by rw [GZ];exact h1.2⟩
  grind
 ·omega
theorem ztT {T:Nat}{v:Value}{s:Sl (C.D T)}{h:zc}(hn:C.nst T < C.size T) (r:zo (zE C T).o T v s Z h):∃ sub,zo (Zh C T) T v (hpl C T sub s (.upto 0)) Z h:=by
 rcases r with ⟨rfl,rfl⟩ | ⟨a,rfl,rfl⟩ | ⟨q,cap,cur,hb,gg,rfl,r2,r3,r4,r5,r0,r6,r7,r8,r9,r10⟩
 ·exact ⟨fun _ =>.slice none 0 0,.inl ⟨rfl,rfl⟩⟩
 ·exact ⟨fun _ =>.slice none 0 0,.inr (.inl ⟨a,rfl,rfl⟩)⟩
 ·have hr:(zE C T).rels Z (cur.take (s.xs.length * C.size T)) s.xs:=Ty.rels_o.1 r10;have r5:cap * C.size T<=cur.length:=r5;refine ⟨fun j=>((cur.take (s.xs.length * C.size T))[j * C.size T+C.nst T]?).getD default,.inr (.inr ⟨q,cap,cur,hb,gg,by rw [wY],r2,by rw [wY];exact r3,r4,r5,r0,r6,r7,r8,r9,?_⟩)⟩;rw [wY];show (Zh C T).rels Z gg (cur.take (s.xs.length * C.size T)) _;generalize cur.take (s.xs.length * C.size T)=cells at hr |-
  have hl:cells.length=s.xs.length * C.size T:=(zE C T).rels_len hr;refine ⟨by rw [wY];exact hl,fun _=>zc.none,fun j p hp=>?_,fun _ _ _=>zc.none_disj _,fun _=>zc.none_le _⟩;simp only [hpl,Ur] at hp;cases hx:s.xs[j]? with
  |none=>grind
  |some x=>
   rw [hx] at hp;cases hp;have h1:(zE C T).rel Z ((cells.drop (j * C.size T)).take (C.size T)) x:=(zE C T).rels_get j hr hx;have hone:∀ u∈(cells.drop (j * C.size T)).take (C.size T),u.oneCell'=true:=(zE C T).one h1
   obtain ⟨k1,k2⟩:=h1;have hcell:((cells.drop (j * C.size T)).take (C.size T))[C.nst T]?=cells[j * C.size T+C.nst T]?:=by
    grind
   have hlt:C.nst T < ((cells.drop (j * C.size T)).take (C.size T)).length:=by grind
   have hv:=GI hlt;refine ⟨k1,hone,fun m A hA _=>k2 m A hA,?_,fun _=>?_,fun e=>by simp [Own.fl] at e⟩
   ·show ((cells.drop (j * C.size T)).take (C.size T))[C.nst T]?=some ((cells[j * C.size T+C.nst T]?).getD default);grind
   ·show Rv C Z ((cells[j * C.size T+C.nst T]?).getD default) (Z1 C T x);have hel:C.nst T < (C.emb T x).length:=by rw [C.len];exact hn
    obtain ⟨u,e1,e2⟩:=k2 _ _ (GI hel);rw [<- hcell,e1];unfold Z1;grind
theorem zle {T:Nat}{v:Value}{s:Sl (C.D T)}{w:World}(hn:C.nst T < C.size T) (hi:Inv w0 σ0 Z (.row (zE C T).o T v s::PV) w):∃ sub,Inv w0 σ0 Z (.row (Zh C T) T v (hpl C T sub s (.upto 0))::PV) w:=by
 obtain ⟨h,hs,hg⟩:=hi.own;obtain ⟨h1,h2,k1,k2,k3,k4,k5⟩:=hs.uncons;obtain ⟨sub,hr⟩:=ztT hn (k1:zo (zE C T).o T v s Z h1);exact ⟨sub,hi.sub,hi.le,hi.fresh,⟨h,.cons hr k2 k3 k4 k5,hg⟩,hi.ext⟩
theorem OpA.of3 (h:wq P n w0 σ0 o X L b Z PV fun p' L' Z' PV'=>∀ r,p'=some r->∃ S' PV'',r = .go S'/\zz κ S' L' b Z' PV''/\∀ w,Inv w0 σ0 Z' PV' w->Inv w0 σ0 Z' PV'' w):OpA κ P n w0 σ0 o X L b Z PV:=by
 intro out hX a w hi hf K Q hK hP;refine h out hX a w hi hf K Q ?_;intro p' L' Z' PV' a' w' hp hi' hf' hH;grind
section
variable {id2 T U off:Nat}{s:Sl (C.D T)}{gw g':Own}{i:Int}{q q':C.D T}{u:Sl (C.D U)}{ti:TypeInfo}{sub:Nat->Value}{e:Ent C}
theorem zlf {v:Value}(h0:0<=i) (hg:vw gw i=some g'):(hpl C T sub s gw).set i (q',1,v)=hpl C T (upd sub i.toNat v) (s.set i q') g':=by
 obtain ⟨e1,e2⟩:=zms hg h0;rw [<- zcZ (sub:=sub) (sub':=upd sub i.toNat v) (g:=gw) (g':=g') (q':=q') fun j _ hne=>⟨e2 j hne,zm hne⟩,e1,zl]
theorem zqv (h:AbsL κ S ν vs (id::id2::ids) L b Z (pv :: .row (zE C U).o U (ν.hdr id2) u::PV)) (he:S.heap id=some e) (hne:id≠id2) (hx:opv L b x = .pointer (some (zh (ν.hdr id) (i.toNat * C.size T+off)))) (hi':P.info? t=some ti) (hok:vV S ti y off (C.size T)=true)
    (hin:off<=C.nst T/\C.nst T < off+(zq (S.op y)).length) (hc:(zq (S.op y))[C.nst T - off]?=some (.row id2)) (hq:zd s i=some q) (hg:vw gw i=some g') (hq':C.imp T (Wc off (C.emb T q) ((zq (S.op y)).set (C.nst T - off) (.sl U u false)))=some q') :
    OpA κ P n w0 σ0 ⟨none,.store t x y,ty,ps,af,g⟩ (some (.go ((S.sub id2 .und).owk id (.orow T (s.set i q') g')))) L b Z (.row (Zh C T) T (ν.hdr id) (hpl C T sub s gw) :: .row (zE C U).o U (ν.hdr id2) u::PV):=by
  obtain ⟨k1,k2,k3,k4⟩:=zaA hok;obtain ⟨hu,hone⟩:=Zy (h.op y) k1 h.one;have hlen:=hu.len;have h0:=(yB.1 hq).1;obtain ⟨v2,hv1,hv2⟩:=hu.get _ _ hc;have hv2:v2=ν.hdr id2:=hv2;subst hv2;refine OpA.of (Wb (T:=Zh C T) (q:=(q,gw.fl i.toNat,sub i.toNat)) (q':=(q',1,ν.hdr id2)) (us:=(opv L b y).cells.toList) [.row (zE C U).o U (ν.hdr id2) u] PV hi' hx rfl (by rw [k2,hlen]) (by grind) hone (wZ hq) (by rw [hlen];exact k3) (fun g gA k cs r sA dd l1 l2=>?_) fun r hr=>⟨_,(Option.some.inj hr).symm,?_⟩)
  ·exact zg5 (v:=ν.hdr id2) r hu hone (by grind) hq' (by grind) hv1 (sA.one_of:zo (zE C U).o U (ν.hdr id2) u Z gA) l2
  · rw [zlf h0 hg];have h1:=h.sub (id:=id2) (m:=1) (R :=.und) rfl (FS.le.refl Z) trivial trivial rfl;have he1:(S.sub id2 .und).heap id=some (Ent.sub id2 .und e):=by
      show (bif Nat.beq id id2 then none else (S.heap id).map _)=_;cases hb:Nat.beq id id2 with
      |true=>exact absurd (jz hb) hne
      |false=>rw [he];rfl
    exact ⟨_,_,_,AbsL.setO (S:=S.sub id2 .und) h1 he1 (zdW hg)⟩
theorem zqw (h:AbsL κ S ν vs (id::ids) L b Z (pv::PV)) (he:S.heap id=some e) (hx:opv L b x = .pointer (some (zh (ν.hdr id) (i.toNat * C.size T+off)))) (hi':P.info? t=some ti) (hok:vV S ti y off (C.size T)=true)
    (hin:off<=C.nst T/\C.nst T < off+(zq (S.op y)).length) (hc:(zq (S.op y))[C.nst T - off]?=some .nils) (hq:zd s i=some q) (hg:vw gw i=some g') (hq':C.imp T (Wc off (C.emb T q) ((zq (S.op y)).set (C.nst T - off) (.sl U ⟨[],false⟩ false)))=some q') :
    OpA κ P n w0 σ0 ⟨none,.store t x y,ty,ps,af,g⟩ (some (.go (S.owk id (.orow T (s.set i q') g')))) L b Z (.row (Zh C T) T (ν.hdr id) (hpl C T sub s gw)::PV):=by
  obtain ⟨k1,k2,k3,k4⟩:=zaA hok;obtain ⟨hu,hone⟩:=Zy (h.op y) k1 h.one;have hlen:=hu.len;have h0:=(yB.1 hq).1;obtain ⟨v2,hv1,hv2⟩:=hu.get _ _ hc;have hv2:v2 = .slice none 0 0:=hv2;subst hv2;refine OpA.of (Wb (T:=Zh C T) (q:=(q,gw.fl i.toNat,sub i.toNat)) (q':=(q',1,.slice none 0 0)) (us:=(opv L b y).cells.toList) [] PV hi' hx rfl (by rw [k2,hlen]) (by grind) hone (wZ hq) (by rw [hlen];exact k3) (fun g gA k cs r sA dd l1 l2=>?_) fun r hr=>⟨_,(Option.some.inj hr).symm,?_⟩)
  ·exact zg5 (U:=U) (u:=⟨[],false⟩) (v :=.slice none 0 0) (gA:=zc.none) r hu hone (by grind) hq' (by grind) hv1 (.inl ⟨rfl,rfl⟩) (zc.none_le _)
  ·rw [zlf h0 hg];exact ⟨_,_,_,h.setO he (zdW hg)⟩
theorem zjn {out:Out C}(h:AbsL κ S ν vs ids L b Z PV) (he:S.heap id=some e) (hcv:∀ PV' w,Inv w0 σ0 Z (zG C ν vs id (some e)::PV') w->∃ sub,Inv w0 σ0 Z (.row (Zh C T) T (ν.hdr id) (hpl C T sub s gw)::PV') w)
    (hx:opv L b x = .pointer (some (zh (ν.hdr id) (i.toNat * C.size T+off)))) (hi':P.info? t=some ti) (hok:vV S ti y off (C.size T)=true) (hin:off<=C.nst T/\C.nst T < off+(zq (S.op y)).length)
    (hX:XU S id T s gw i off (zq (S.op y)) some=some out):OpA κ P n w0 σ0 ⟨none,.store t x y,ty,ps,af,g⟩ (some out) L b Z PV:=by
  unfold XU at hX;simp only [Wz] at hX;split at hX
  · rename_i id2 hc;split at hX
    · rename_i U u h2;obtain ⟨hne,hX⟩:=zb hX;have hne:id≠id2:=fun e=>by subst e;simp at hne
      obtain ⟨q,hq,hX⟩:=jy hX;obtain ⟨g',hg,hX⟩:=jy hX;obtain ⟨q',hq',hX⟩:=jy hX;cases hX;obtain ⟨ids',PV',hf,hinv⟩:=h.front2 (w0:=w0) (σ0:=σ0) hne he h2;intro out hX a w hi hf2 K Q hK hP;obtain ⟨sub,hi2⟩:=hcv _ w (hinv w hi);exact zqv (sub:=sub) hf he hne hx hi' hok hin hc hq hg hq' out hX a w hi2 hf2 K Q hK hP
    ·cases hX
  · rename_i hc;obtain ⟨q,hq,hX⟩:=jy hX;split at hX
    ·rename_i U u0 c0 hu0;obtain ⟨g',hg,hX⟩:=jy hX;obtain ⟨q',hq',hX⟩:=jy hX;cases hX;obtain ⟨ids',PV',hf,hinv⟩:=h.front1 (w0:=w0) (σ0:=σ0) he;intro out hX a w hi hf2 K Q hK hP;obtain ⟨sub,hi2⟩:=hcv _ w (hinv w hi);exact zqw (U:=U) (sub:=sub) hf he hx hi' hok hin hc hq hg hq' out hX a w hi2 hf2 K Q hK hP
    ·cases hX
  ·cases hX
end
theorem zkM (h:AbsL κ S ν vs ids L b Z PV):OpA κ P n w0 σ0 ⟨none,.store t x y,ty,ps,af,g⟩ (xu P S t x y) L b Z PV:=by
 intro out hX;unfold xu Xe at hX;split at hX
 ·rename_i ti id T i off hi' ex;have hx:=h.op x;rw [ex] at hx;have hx:opv L b x = .pointer (some (zh (ν.hdr id) (i.toNat * C.size T+off))):=hx;split at hX
  ·rename_i T' s gw hs;obtain ⟨hc,hX⟩:=zb hX;simp only [g9] at hc;obtain rfl:=jz hc.1;obtain ⟨k1,k2,k3,k4⟩:=zaA hc.2;cases hin:xI off (zq (S.op y)).length (C.nst T) with
   |true=>
    rw [hin,Uv] at hX;exact zjn h hs (fun PV' w hi=>⟨(ν.adr id).sub,hi⟩) hx hi' hc.2 (zg6 hin) hX out rfl
   |false=>
    rw [hin,G8] at hX;obtain ⟨q,hq,hX⟩:=jy hX;obtain ⟨q',hq',hX⟩:=jy hX;obtain ⟨hu,hone⟩:=Zy (h.op y) k1 h.one;have hlen:=hu.len;obtain ⟨ids',PV',hf,hinv⟩:=h.front1 (w0:=w0) (σ0:=σ0) hs;refine OpA.pv hinv ?_ out hX;refine OpA.of (Wb (T:=Zh C T) (q:=(q,gw.fl i.toNat,(ν.adr id).sub i.toNat)) (q':=(q',gw.fl i.toNat,(ν.adr id).sub i.toNat)) (us:=(opv L b y).cells.toList) [] PV' hi' hx rfl (by rw [k2,hlen]) (by grind) hone (wZ hq) (by rw [hlen];exact k3) (fun g gA k cs r sA dd l1 l2=>?_) fun r hr=>⟨_,(Option.some.inj hr).symm,?_⟩)
    ·exact zqu r hu hone (by grind) hq' (by rw [hlen];exact zmt hin) l1
    ·rw [zcZ (sub:=(ν.adr id).sub) (sub':=(ν.adr id).sub) (g:=gw) (g':=gw) fun j _ _=>⟨rfl,rfl⟩];exact ⟨_,_,_,hf.setO0 (e' :=.orow T (s.set i q') gw) hs (fun cs e=>by cases e)⟩
  ·rename_i T' s hs;obtain ⟨hc,hX⟩:=zb hX;simp only [g9] at hc;obtain rfl:=jz hc.1;obtain ⟨k1,k2,k3,k4⟩:=zaA hc.2.1;have hin:=zg6 hc.2.2;exact zjn h hs (fun PV' w hi=>zle (by omega) hi) hx hi' hc.2.1 hin hX out rfl
  ·cases hX
 ·rename_i ti id T i U k off hi' ex;have hx:=h.op x;rw [ex] at hx;have hx:opv L b x = .pointer (some (zh ((ν.adr id).sub i.toNat) (k.toNat * C.size U+off))):=hx.1;split at hX
  ·rename_i T' s hs;obtain ⟨hc,hX⟩:=zb hX;simp only [g9] at hc;obtain rfl:=jz hc.1;obtain ⟨k1,k2,k3,k4⟩:=zaA hc.2;obtain ⟨q,hq,hX⟩:=jy hX;split at hX
   ·rename_i U' u c hu;obtain ⟨hU,hX⟩:=zb hX;obtain rfl:=jz hU;obtain ⟨y0,hy0,hX⟩:=jy hX;obtain ⟨y1,hy1,hX⟩:=jy hX;obtain ⟨q',hq',hX⟩:=jy hX;obtain ⟨hus,hone⟩:=Zy (h.op y) k1 h.one;have hlen:=hus.len;obtain ⟨ids',PV',hf,hinv⟩:=h.front1 (w0:=w0) (σ0:=σ0) hs;have hopen:∀ w,Inv w0 σ0 Z PV w->Inv w0 σ0 Z (.row (zE C U).o U ((ν.adr id).sub i.toNat) u :: .row (Zh C T) T (ν.hdr id) (hpl C T (ν.adr id).sub s (.out i))::PV') w:=fun w hi=>(hinv w hi).sub_own fun gg kk=>by
     obtain ⟨h1,h2,m1,m2,n1,n2,dd⟩:=kk.uncons;exact Sep.append (A:=[_,_]) (zjj (m1:zo (Zh C T) T (ν.hdr id) (hpl C T (ν.adr id).sub s .all) Z h1) hq hu) m2 n1 n2 dd
    have hlq:(C.emb T q).length=C.size T:=C.len T q;have hnlt:C.nst T < C.size T:=by
     have hh:Z1 C T q ≠.und:=by grind
     unfold Z1 at hh;cases hg:(C.emb T q)[C.nst T]? with
     |none=>grind
     |some A=>grind
    have hbq:∀ A∈(C.emb T q).set (C.nst T) (.sl U (u.set k y1) false),A.base=true:=fun A hA=>by
     rcases List.mem_or_eq_of_mem_set hA with z | z
     ·exact C.base T q A z
     ·rw [z];rfl
    have heq:∀ (j:Nat),(C.emb T q')[j]?=((C.emb T q).set (C.nst T) (.sl U (u.set k y1) false))[j]?:=fun j=>by
     cases hj:((C.emb T q).set (C.nst T) (.sl U (u.set k y1) false))[j]? with
     |none=>
      rw [List.getElem?_eq_none_iff] at hj |-
      rw [List.length_set,C.len] at hj;rw [C.len];exact hj
     |some A=>exact ze3 hq' hj (hbq A (GS hj))
    refine OpA.pv hopen ?_ out hX;refine OpA.of3 (zaq (T:=zE C U) (q:=y0) (q':=y1) (us:=(opv L b y).cells.toList) 0 rfl hi' hx rfl (by rw [k2,hlen]) (by grind) hone hy0 (by rw [hlen];exact k3) (fun cs hcs=>?_) fun r hr=>⟨_,_,(Option.some.inj hr).symm,⟨ν,vs,id::ids',hf.setO0 (e' :=.orow T (s.set i q') .all) hs (fun cs e=>by cases e)⟩,fun w hi=>hi.sub_own fun gg kk=>?_⟩)
    ·have hcv:=zaT (ν:=ν) hcs;have hnew:=((hcv.take off).append hus).append (hcv.drop (off+(opv L b y).cells.toList.length));have e:(C.emb U y0).drop (off+(opv L b y).cells.toList.length)=(C.emb U y0).drop (off+(zq (S.op y)).length):=by rw [hlen]
     rw [e] at hnew;exact zar hnew hy1
    ·obtain ⟨h1,h2,m1,m2,n1,n2,dd⟩:=Sep.split (A:=[_,_]) kk;refine .cons (h1:=h1) (zo8 m1 hq ?_ fun j hj=>?_) m2 n1 n2 dd
     ·unfold Z1;grind
     grind
   ·cases hX
  ·cases hX
 ·cases hX
end
end
section
variable [Dfr]
inductive Sh where
 |int (k:IntKind)
 |bool
 |str
 |val (T:Nat)
 |sl (T:Nat)
 |row (k:Nat)
 |pc (k off:Nat)
 |pr (k T off:Nat)
 |nx (k T:Nat)
 |nxe (k T U off:Nat)
 |nxp (k T U:Nat)
 |orow (T:Nat)
 |pz (T off:Nat)
 |pnil
 |nils
 |nilf
 |nili
 |und
 |clo (f:Nat) (l:List Sh)
 |agg (l:List Sh)
 |tup (l:List Sh)
 |ifc (t:Nat) (s:Sh)
mutual
def Sh.unit:Sh->Bool
 | .row _=>true
 | .pc _ _=>true
 | .pnil=>true
 | .nils=>true
 | .nilf=>true
 | .nili=>true
 | .und=>true
 | .clo _ l=>Sh.units l
 | .agg l=>Sh.units l
 | .tup l=>Sh.units l
 | .ifc _ s=>s.unit
 |_=>false
def Sh.units:List Sh->Bool
 |[]=>true
 |s::l=>s.unit && Sh.units l
end
def Pty (u v:Bool) (A B:Type):Type:=match u,v with
 |true,_=>B
 |false,true=>A
 |false,false=>A×B
def Pty.mk {u v:Bool}{A B:Type}(x:A) (y:B):Pty u v A B:=match u,v with
 |true,_=>y
 |false,true=>x
 |false,false=>(x,y)
def Pty.fst {u v:Bool}{A B:Type}(d:u=true->A) (p:Pty u v A B):A:=match u,v,d,p with
 |true,_,d,_=>d rfl
 |false,true,_,x=>x
 |false,false,_,x=>x.1
def Pty.snd {u v:Bool}{A B:Type}(d:v=true->B) (p:Pty u v A B):B:=match u,v,d,p with
 |true,_,_,y=>y
 |false,true,d,_=>d rfl
 |false,false,_,x=>x.2
theorem Pty.fst_mk {u v:Bool}{A B:Type}{d:u=true->A} {x:A}{y:B}(h:∀ e,d e=x):Pty.fst d (Pty.mk (u:=u) (v:=v) x y)=x:=by
 cases u <;> cases v <;> first | exact h rfl | rfl
theorem Pty.snd_mk {u v:Bool}{A B:Type}{d:v=true->B} {x:A}{y:B}(h:∀ e,d e=y):Pty.snd d (Pty.mk (u:=u) (v:=v) x y)=y:=by
 cases u <;> cases v <;> first | exact h rfl | rfl
mutual
def Sh.ty (C:Cod):Sh->Type
 | .int _=>Int
 | .bool=>Bool
 | .str=>ByteArray
 | .val T=>C.D T
 | .sl T=>Sl (C.D T)
 | .pr _ _ _=>Int
 | .nx _ _=>Int
 | .nxe _ _ _ _=>Int×Int
 | .nxp _ _ _=>Int×Int×Int
 | .orow T=>Sl (C.D T)
 | .pz T _=>C.D T
 | .clo _ l=>Sh.tys C l
 | .agg l=>Sh.tys C l
 | .tup l=>Sh.tys C l
 | .ifc _ s=>s.ty C
 | .row _=>Unit
 | .pc _ _=>Unit
 | .pnil=>Unit
 | .nils=>Unit
 | .nilf=>Unit
 | .nili=>Unit
 | .und=>Unit
def Sh.tys (C:Cod):List Sh->Type
 |[]=>Unit
 |s::l=>Pty s.unit (Sh.units l) (s.ty C) (Sh.tys C l)
end
mutual
def Sh.dflt (C:Cod):(s:Sh)->s.unit=true->s.ty C
 | .row _,_=>()
 | .pc _ _,_=>()
 | .pnil,_=>()
 | .nils,_=>()
 | .nilf,_=>()
 | .nili,_=>()
 | .und,_=>()
 | .clo _ l,h=>Sh.dflts C l h
 | .agg l,h=>Sh.dflts C l h
 | .tup l,h=>Sh.dflts C l h
 | .ifc _ s,h=>s.dflt C h
def Sh.dflts (C:Cod):(l:List Sh)->Sh.units l=true->Sh.tys C l
 |[],_=>()
 |s::l,h=>Pty.mk (s.dflt C (Bool.and_eq_true_iff.1 h).1) (Sh.dflts C l (Bool.and_eq_true_iff.1 h).2)
end
section
variable {C:Cod}
theorem Pty.unique {u v:Bool}{A B:Type}(hu:u=true) (hB:v=true->∀ x y:B,x=y) (hv:v=true):∀ x y:Pty u v A B,x=y:=by
 subst hu;subst hv;exact hB rfl
omit [Dfr] in
mutual
theorem Sh.unique:∀ (s:Sh),s.unit=true->∀ x y:s.ty C,x=y
 | .row _,_=>fun _ _=>rfl
 | .pc _ _,_=>fun _ _=>rfl
 | .pnil,_=>fun _ _=>rfl
 | .nils,_=>fun _ _=>rfl
 | .nilf,_=>fun _ _=>rfl
 | .nili,_=>fun _ _=>rfl
 | .und,_=>fun _ _=>rfl
 | .clo _ l,h=>Sh.uniques l h
 | .agg l,h=>Sh.uniques l h
 | .tup l,h=>Sh.uniques l h
 | .ifc _ s,h=>s.unique h
theorem Sh.uniques:∀ (l:List Sh),Sh.units l=true->∀ x y:Sh.tys C l,x=y
 |[],_=>fun _ _=>rfl
 |s::l,h=>Pty.unique (Bool.and_eq_true_iff.1 h).1 (fun hv=>Sh.uniques l hv) (Bool.and_eq_true_iff.1 h).2
end
abbrev Sh.hd {s:Sh}{l:List Sh}(p:Sh.tys C (s::l)):s.ty C:=Pty.fst (s.dflt C) p
abbrev Sh.tl {s:Sh}{l:List Sh}(p:Sh.tys C (s::l)):Sh.tys C l:=Pty.snd (Sh.dflts C l) p
abbrev Sh.pk {s:Sh}{l:List Sh}(x:s.ty C) (y:Sh.tys C l):Sh.tys C (s::l):=Pty.mk x y
theorem Sh.hd_pk {s:Sh}{l:List Sh}{x:s.ty C}{y:Sh.tys C l}:Sh.hd (Sh.pk x y:Sh.tys C (s::l))=x:=Pty.fst_mk fun e=>s.unique e _ _
theorem Sh.tl_pk {s:Sh}{l:List Sh}{x:s.ty C}{y:Sh.tys C l}:Sh.tl (Sh.pk x y:Sh.tys C (s::l))=y:=Pty.snd_mk fun e=>Sh.uniques l e _ _
def zo9 {D:Nat->Type}:AV D->Bool
 | .agg _=>true
 |_=>false
def xW {T T':Nat}(s:Sl (C.D T')):G3 (Sl (C.D T)):=if h:T'=T then some (h ▸ s) else none
def zhv {T T':Nat}(s:C.D T'):G3 (C.D T):=if h:T'=T then some (h ▸ s) else none
def vW:G3 Nat->Nat->Bool
 |some a,b=>Nat.beq a b
 |none,_=>false
def Sh.isVal:Sh->G3 Nat
 | .val T=>some T
 |_=>none
def zwR (s:Sh) {T:Nat}(z:C.D T):G3 (s.ty C):=match s with
 | .val T'=>zhv z
 |_=>none
def Sh.vcells {C:Cod}(s:Sh) (x:s.ty C):List (AV C.D):=match s,x with
 | .val T,x=>C.emb T x
 |_,_=>[]
mutual
def Sh.get (B:Nat->G3 Nat):(s:Sh)->AV C.D->G3 (s.ty C)
 | .int k,A=>(match A with
  | .int k' n=>chk (decide (k=k')) (some n)
  |_=>none)
 | .bool,A=>(match A with
  | .bool b=>some b
  |_=>none)
 | .str,A=>(match A with
  | .str s=>some s
  |_=>none)
 | .val T,A=>chk (Yw A && (zo9 A == C.agg T)) (C.imp T (zq A))
 | .sl T,A=>(match A with
  | .sl _ s _=>xW s
  | .nils=>some ⟨[],false⟩
  |_=>none)
 | .pr k T off,A=>(match A with
  | .pr id T' i off'=>chk (vW (B k) id && (Nat.beq T T' && Nat.beq off off')) (some i)
  |_=>none)
 | .nx k T,A=>(match A with
  | .nx id T' i .whole=>chk (vW (B k) id && Nat.beq T T') (some i)
  |_=>none)
 | .nxe k T U off,A=>(match A with
  | .nx id T' i (.elem U' j off')=>chk (vW (B k) id && (Nat.beq T T' && (Nat.beq U U' && Nat.beq off off'))) (some (i,j))
  |_=>none)
 | .nxp k T U,A=>(match A with
  | .nx id T' i (.part U' lo hi)=>chk (vW (B k) id && (Nat.beq T T' && Nat.beq U U')) (some (i,lo,hi))
  |_=>none)
 | .orow T,A=>(match A with
  | .clo 0 [.sl _ s _]=>xW s
  | .clo 1 [.int _ k,.sl _ s _]=>chk (decide (s.len<=k)) (xW s)
  |_=>none)
 | .pz T off,A=>(match A with
  | .pz _ x off'=>chk (Nat.beq off off') (zhv x)
  |_=>none)
 | .row k,A=>(match A with
  | .row id=>chk (vW (B k) id) (some ())
  |_=>none)
 | .pc k off,A=>(match A with
  | .pc id off'=>chk (vW (B k) id && Nat.beq off off') (some ())
  |_=>none)
 | .pnil,A=>(match A with
  | .pnil=>some ()
  |_=>none)
 | .nils,A=>(match A with
  | .nils=>some ()
  |_=>none)
 | .nilf,A=>(match A with
  | .nilf=>some ()
  |_=>none)
 | .nili,A=>(match A with
  | .nili=>some ()
  |_=>none)
 | .und,_=>some ()
 | .clo f l,A=>(match A with
  | .clo f' cs=>chk (Nat.beq f f') (Sh.gets B l cs)
  |_=>none)
 | .agg l,A=>(match A with
  | .agg cs=>Sh.getc B l cs
  |_=>none)
 | .tup l,A=>(match A with
  | .tup cs=>Sh.gets B l cs
  |_=>none)
 | .ifc t s,A=>(match A with
  | .ifc t' A=>chk (Nat.beq t t') (Sh.get B s A)
  |_=>none)
def Sh.gets (B:Nat->G3 Nat):(l:List Sh)->List (AV C.D)->G3 (Sh.tys C l)
 |[],As=>(match As with
  |[]=>some ()
  |_::_=>none)
 |s::l,As=>(match As with
  |A::As=>(Sh.get B s A).bind fun x=>(Sh.gets B l As).bind fun y=>some (Sh.pk x y)
  |[]=>none)
def Sh.getc (B:Nat->G3 Nat):(l:List Sh)->List (AV C.D)->G3 (Sh.tys C l)
 |[],As=>(match As with
  |[]=>some ()
  |_::_=>none)
 |s::l,As=>(match Sh.isVal s with
  |some T=>(C.imp T (As.take (C.size T))).bind fun z=>(zwR s z).bind fun x=>(Sh.getc B l (As.drop (C.size T))).bind fun y=>some (Sh.pk x y)
  |none=>(match As with
   |A::As=>(Sh.get B s A).bind fun x=>(Sh.getc B l As).bind fun y=>some (Sh.pk x y)
   |[]=>none))
end
mutual
def Sh.put (ρ:Nat->Nat):(s:Sh)->s.ty C->AV C.D
 | .int k,n =>.int k n
 | .bool,b =>.bool b
 | .str,s =>.str s
 | .val T,x=>zaQ (C.agg T) (C.emb T x)
 | .sl T,s =>.sl T s false
 | .pr k T off,i =>.pr (ρ k) T i off
 | .nx k T,i =>.nx (ρ k) T i .whole
 | .nxe k T U off,i =>.nx (ρ k) T i.1 (.elem U i.2 off)
 | .nxp k T U,i =>.nx (ρ k) T i.1 (.part U i.2.1 i.2.2)
 | .orow _,_ =>.und
 | .pz T off,x =>.pz T x off
 | .row k,_ =>.row (ρ k)
 | .pc k off,_ =>.pc (ρ k) off
 | .pnil,_ =>.pnil
 | .nils,_ =>.nils
 | .nilf,_ =>.nilf
 | .nili,_ =>.nili
 | .und,_ =>.und
 | .clo f l,x =>.clo f (Sh.puts ρ l x)
 | .agg l,x =>.agg (Sh.putc ρ l x)
 | .tup l,x =>.tup (Sh.puts ρ l x)
 | .ifc t s,x =>.ifc t (Sh.put ρ s x)
def Sh.puts (ρ:Nat->Nat):(l:List Sh)->Sh.tys C l->List (AV C.D)
 |[],_=>[]
 |s::l,x=>Sh.put ρ s (Sh.hd x)::Sh.puts ρ l (Sh.tl x)
def Sh.putc (ρ:Nat->Nat):(l:List Sh)->Sh.tys C l->List (AV C.D)
 |[],_=>[]
 |s::l,x=>match Sh.isVal s with
  |some _=>Sh.vcells s (Sh.hd x)++Sh.putc ρ l (Sh.tl x)
  |none=>Sh.put ρ s (Sh.hd x)::Sh.putc ρ l (Sh.tl x)
end
end
end
section
variable [Dfr]
section
variable {C:Cod}{Z:FS}{ν ν':Val}{B:Nat->G3 Nat}{ρ:Nat->Nat}
theorem yx {T T':Nat}{s:Sl (C.D T')}{s':Sl (C.D T)}(h:xW s=some s'):∃ e:T'=T,e ▸ s=s':=by
 unfold xW at h;grind
theorem ze4 {T T':Nat}{s:C.D T'}{s':C.D T}(h:zhv s=some s'):∃ e:T'=T,e ▸ s=s':=by
 unfold zhv at h;grind
theorem yp {x:G3 Nat}{a:Nat}(h:vW x a=true):x=some a:=by
 cases x with
 |none=>cases h
 |some b=>rw [jz h]
theorem zg7 {us:List Value}{cs ds:List (AV C.D)}(h:VRs C Z ν us cs) (l:zd4 cs ds) (hb:∀ A∈ds,A.base=true):VRs C Z ν' us ds:=
 .of (by rw [(zaZ h l).len]) fun j u A h1 h2=>((zaZ h l).rel h1 h2 |>.rv (hb A (GS h2))).vr
structure Rn (B:Nat->G3 Nat) (ρ:Nat->Nat) (ν ν':Val):Prop where
 eq:∀ k id,B k=some id->ν'.hdr (ρ k)=ν.hdr id/\ν'.adr (ρ k)=ν.adr id
 one:∀ i,(ν.hdr i).oneCell'=true
omit [Dfr] in
mutual
theorem Sh.get_put (hν:Rn B ρ ν ν'):∀ (s:Sh) {A:AV C.D}{x:s.ty C},Sh.get B s A=some x->∀ {v:Value},VR C Z ν v A->VR C Z ν' v (Sh.put ρ s x)
 | .int k,A,x,h,v,r=>by
  cases A <;> first | (cases h;done) | skip
  obtain ⟨hk,h⟩:=zb h;cases h;obtain rfl:=Us hk;exact (r:Rv C Z v _)
 | .bool,A,x,h,v,r=>by
  cases A <;> first | (cases h;done) | skip
  cases h;exact (r:Rv C Z v _)
 | .str,A,x,h,v,r=>by
  cases A <;> first | (cases h;done) | skip
  cases h;exact (r:Rv C Z v _)
 | .val T,A,x,h,v,r=>by
  obtain ⟨hc,h⟩:=zb h;simp only [g9,beq_iff_eq] at hc;obtain ⟨hr,_⟩:=Zy r hc.1 hν.one;have h2:VRs C Z ν' v.cells.toList (C.emb T x):=zg7 hr (C.imp_ok T _ x h) (C.base T x);have hv:v=yu (C.agg T) v.cells.toList:=by
   rcases zcd hc.1 with hl | ⟨cs,rfl,_⟩
   ·have h1:=r.one hl hν.one;have:zo9 A=false:=by cases A <;> first | rfl | cases hl
    rw [<- hc.2,this];cases v <;> simp_all [Value.oneCell',Value.cells,yu]
   ·obtain ⟨vs,rfl,_⟩:=r;rw [<- hc.2];rfl
  rw [hv];exact h2.val
 | .sl T,A,x,h,v,r=>by
  cases A <;> first | (cases h;done) | skip
  ·obtain ⟨e,rfl⟩:=yx h;subst e;exact (Rv.of_vrel (r.sl_vrel)).vr
  ·cases h;exact zeO (A :=.nils) r (.inr (.inr ⟨T,false,rfl,rfl⟩))
 | .pr k T off,A,x,h,v,r=>by
  cases A <;> first | (cases h;done) | skip
  obtain ⟨hc,h⟩:=zb h;simp only [g9] at hc;cases h;obtain rfl:=jz hc.2.1;obtain rfl:=jz hc.2.2;show v = .pointer (some (zh (ν'.hdr (ρ k)) _));rw [(hν.eq k _ (yp hc.1)).1];exact r
 | .nx k T,A,x,h,v,r=>by
  cases A <;> first | (cases h;done) | skip
  rename_i id T' i nx;cases nx <;> first | (cases h;done) | skip
  obtain ⟨hc,h⟩:=zb h;simp only [g9] at hc;cases h;obtain rfl:=jz hc.2;refine ⟨?_,r.2⟩;rw [(hν.eq k _ (yp hc.1)).2];exact r.1
 | .nxe k T U off,A,x,h,v,r=>by
  cases A <;> first | (cases h;done) | skip
  rename_i id T' i nx;cases nx <;> first | (cases h;done) | skip
  obtain ⟨hc,h⟩:=zb h;simp only [g9] at hc;cases h;obtain rfl:=jz hc.2.1;obtain rfl:=jz hc.2.2.1;obtain rfl:=jz hc.2.2.2;refine ⟨?_,r.2⟩;rw [(hν.eq k _ (yp hc.1)).2];exact r.1
 | .nxp k T U,A,x,h,v,r=>by
  cases A <;> first | (cases h;done) | skip
  rename_i id T' i nx;cases nx <;> first | (cases h;done) | skip
  obtain ⟨hc,h⟩:=zb h;simp only [g9] at hc;cases h;obtain rfl:=jz hc.2.1;obtain rfl:=jz hc.2.2;refine ⟨?_,r.2⟩;rw [(hν.eq k _ (yp hc.1)).2];exact r.1
 | .orow T,A,x,h,v,r=>trivial
 | .pz T off,A,x,h,v,r=>by
  cases A <;> first | (cases h;done) | skip
  obtain ⟨hc,h2⟩:=zb h;obtain rfl:=jz hc;obtain ⟨e,rfl⟩:=ze4 h2;subst e;exact (r:Rv C Z v _)
 | .row k,A,x,h,v,r=>by
  cases A <;> first | (cases h;done) | skip
  obtain ⟨hc,h⟩:=zb h;show v=ν'.hdr (ρ k);rw [(hν.eq k _ (yp hc)).1];exact r
 | .pc k off,A,x,h,v,r=>by
  cases A <;> first | (cases h;done) | skip
  obtain ⟨hc,h⟩:=zb h;simp only [g9] at hc;obtain rfl:=jz hc.2;show v = .pointer (some ((ν'.adr (ρ k)).add _));rw [(hν.eq k _ (yp hc.1)).2];exact r
 | .pnil,A,x,h,v,r=>by
  cases A <;> first | (cases h;done) | exact (r:Rv C Z v _)
 | .nils,A,x,h,v,r=>by
  cases A <;> first | (cases h;done) | exact r
 | .nilf,A,x,h,v,r=>by
  cases A <;> first | (cases h;done) | exact (r:Rv C Z v _)
 | .nili,A,x,h,v,r=>by
  cases A <;> first | (cases h;done) | exact (r:Rv C Z v _)
 | .und,A,x,h,v,r=>trivial
 | .clo f l,A,x,h,v,r=>by
  cases A <;> first | (cases h;done) | skip
  obtain ⟨hc,h2⟩:=zb h;obtain rfl:=jz hc;obtain ⟨vs,e,r⟩:=r;exact ⟨vs,e,Sh.gets_puts hν l h2 r⟩
 | .agg l,A,x,h,v,r=>by
  cases A <;> first | (cases h;done) | skip
  obtain ⟨vs,e,r⟩:=r;exact ⟨vs,e,Sh.getc_putc hν l h r⟩
 | .tup l,A,x,h,v,r=>by
  cases A <;> first | (cases h;done) | skip
  obtain ⟨vs,e,r⟩:=r;exact ⟨vs,e,Sh.gets_puts hν l h r⟩
 | .ifc t s,A,x,h,v,r=>by
  cases A <;> first | (cases h;done) | skip
  obtain ⟨hc,h2⟩:=zb h;obtain rfl:=jz hc;obtain ⟨u,e,r⟩:=r;exact ⟨u,e,Sh.get_put hν s h2 r⟩
theorem Sh.gets_puts (hν:Rn B ρ ν ν'):∀ (l:List Sh) {As:List (AV C.D)}{x:Sh.tys C l},Sh.gets B l As=some x->∀ {vs:List Value},VRs C Z ν vs As->VRs C Z ν' vs (Sh.puts ρ l x)
 |[],[],x,h,[],r=>trivial
 |s::l,A::As,x,h,v::vs,r=>by
  obtain ⟨y,hy,h⟩:=jy h;obtain ⟨z,hz,h⟩:=jy h;cases h;simp only [Sh.puts,Sh.hd_pk,Sh.tl_pk];exact ⟨Sh.get_put hν s hy r.1,Sh.gets_puts hν l hz r.2⟩
 |[],_::_,x,h,_,r=>by cases h
 |_::_,[],x,h,_,r=>by cases h
 |[],[],x,h,_::_,r=>r.elim
 |_::_,_::_,x,h,[],r=>r.elim
theorem Sh.getc_putc (hν:Rn B ρ ν ν'):∀ (l:List Sh) {As:List (AV C.D)}{x:Sh.tys C l},Sh.getc B l As=some x->∀ {vs:List Value},VRs C Z ν vs As->VRs C Z ν' vs (Sh.putc ρ l x)
 |[],As,x,h,vs,r=>by
  cases As with
  |nil=>cases vs with
   |nil=>trivial
   |cons=>exact r.elim
  |cons=>cases h
 |s::l,As,x,h,vs,r=>by
  have gen:∀ {A:AV C.D} {As:List (AV C.D)},((Sh.get B s A).bind fun x=>(Sh.getc B l As).bind fun y=>some (Sh.pk x y))=some x->VRs C Z ν vs (A::As)->VRs C Z ν' vs (Sh.put ρ s (Sh.hd x)::Sh.putc ρ l (Sh.tl x)):=by
   intro A As h r;obtain ⟨y,hy,h⟩:=jy h;obtain ⟨z,hz,h⟩:=jy h;cases h;cases vs with
   |nil=>exact r.elim
   |cons v vs=>
    simp only [Sh.hd_pk,Sh.tl_pk];exact ⟨Sh.get_put hν s hy r.1,Sh.getc_putc hν l hz r.2⟩
  unfold Sh.getc at h;unfold Sh.putc;cases hs:Sh.isVal s with
  |some T=>
   obtain rfl:s = .val T:=by cases s <;> first | cases hs;rfl | cases hs
   simp only [hs] at h |-
   obtain ⟨w,hw,h⟩:=jy h;obtain ⟨y,hy,h⟩:=jy h;obtain ⟨z,hz,h⟩:=jy h;obtain ⟨e,rfl⟩:=ze4 hy;cases h;rw [show Sh.hd (s :=.val T) (l:=l) (Sh.pk (s :=.val T) w z)=w from Sh.hd_pk,show Sh.tl (s :=.val T) (l:=l) (Sh.pk (s :=.val T) w z)=z from Sh.tl_pk];rw [<- List.take_append_drop (C.size T) vs];exact (zg7 (r.take _) (C.imp_ok T _ w hw) (C.base T w)).append (Sh.getc_putc hν l hz (r.drop _))
  |none=>
   grind
end
def InB (B:Nat->G3 Nat) (ρ:Nat->Nat) (j:Nat):Prop:=∃ k id,B k=some id/\j=ρ k
omit [Dfr] in
mutual
theorem Sh.put_ok:∀ (s:Sh) {A:AV C.D}{x:s.ty C},Sh.get B s A=some x->(Sh.put ρ s x).ok (InB B ρ)
 | .int k,A,x,h=>trivial
 | .bool,A,x,h=>trivial
 | .str,A,x,h=>trivial
 | .val T,A,x,h=>zkU zas
 | .sl T,A,x,h=>trivial
 | .pr k T off,A,x,h=>by
  cases A <;> first | (cases h;done) | skip
  obtain ⟨hc,h⟩:=zb h;simp only [g9] at hc;exact ⟨k,_,yp hc.1,rfl⟩
 | .nx k T,A,x,h=>by
  cases A <;> first | (cases h;done) | skip
  rename_i id T' i nx;cases nx <;> first | (cases h;done) | skip
  obtain ⟨hc,h⟩:=zb h;simp only [g9] at hc;exact ⟨k,_,yp hc.1,rfl⟩
 | .nxe k T U off,A,x,h=>by
  cases A <;> first | (cases h;done) | skip
  rename_i id T' i nx;cases nx <;> first | (cases h;done) | skip
  obtain ⟨hc,h⟩:=zb h;simp only [g9] at hc;exact ⟨k,_,yp hc.1,rfl⟩
 | .nxp k T U,A,x,h=>by
  cases A <;> first | (cases h;done) | skip
  rename_i id T' i nx;cases nx <;> first | (cases h;done) | skip
  obtain ⟨hc,h⟩:=zb h;simp only [g9] at hc;exact ⟨k,_,yp hc.1,rfl⟩
 | .orow T,A,x,h=>trivial
 | .pz T off,A,x,h=>trivial
 | .row k,A,x,h=>by
  cases A <;> first | (cases h;done) | skip
  obtain ⟨hc,h⟩:=zb h;exact ⟨k,_,yp hc,rfl⟩
 | .pc k off,A,x,h=>by
  cases A <;> first | (cases h;done) | skip
  obtain ⟨hc,h⟩:=zb h;simp only [g9] at hc;exact ⟨k,_,yp hc.1,rfl⟩
 | .pnil,A,x,h=>trivial
 | .nils,A,x,h=>trivial
 | .nilf,A,x,h=>trivial
 | .nili,A,x,h=>trivial
 | .und,A,x,h=>trivial
 | .clo f l,A,x,h=>by
  cases A <;> first | (cases h;done) | skip
  obtain ⟨hc,h⟩:=zb h;exact Sh.puts_ok l h
 | .agg l,A,x,h=>by
  cases A <;> first | (cases h;done) | skip
  exact Sh.putc_ok l h
 | .tup l,A,x,h=>by
  cases A <;> first | (cases h;done) | skip
  exact Sh.puts_ok l h
 | .ifc t s,A,x,h=>by
  cases A <;> first | (cases h;done) | skip
  obtain ⟨hc,h⟩:=zb h;exact Sh.put_ok s h
theorem Sh.puts_ok:∀ (l:List Sh) {As:List (AV C.D)}{x:Sh.tys C l},Sh.gets B l As=some x->AV.oks (InB B ρ) (Sh.puts ρ l x)
 |[],_,_,_=>trivial
 |s::l,[],x,h=>by cases h
 |s::l,A::As,x,h=>by
  obtain ⟨y,hy,h⟩:=jy h;obtain ⟨z,hz,h⟩:=jy h;cases h;simp only [Sh.puts,Sh.hd_pk,Sh.tl_pk];exact ⟨Sh.put_ok s hy,Sh.puts_ok l hz⟩
theorem Sh.putc_ok:∀ (l:List Sh) {As:List (AV C.D)}{x:Sh.tys C l},Sh.getc B l As=some x->AV.oks (InB B ρ) (Sh.putc ρ l x)
 |[],_,_,_=>trivial
 |s::l,As,x,h=>by
  have gen:∀ {A:AV C.D} {As:List (AV C.D)},((Sh.get B s A).bind fun x=>(Sh.getc B l As).bind fun y=>some (Sh.pk x y))=some x->AV.oks (InB B ρ) (Sh.put ρ s (Sh.hd x)::Sh.putc ρ l (Sh.tl x)):=by
   intro A As h;obtain ⟨y,hy,h⟩:=jy h;obtain ⟨z,hz,h⟩:=jy h;cases h;simp only [Sh.hd_pk,Sh.tl_pk];exact ⟨Sh.put_ok s hy,Sh.putc_ok l hz⟩
  unfold Sh.getc at h;unfold Sh.putc;cases hs:Sh.isVal s with
  |some T=>
   obtain rfl:s = .val T:=by cases s <;> first | cases hs;rfl | cases hs
   simp only [hs] at h |-
   obtain ⟨w,hw,h⟩:=jy h;obtain ⟨y,hy,h⟩:=jy h;obtain ⟨z,hz,h⟩:=jy h;cases h;simp only [Sh.hd_pk,Sh.tl_pk];exact AV.oks_append zas (Sh.putc_ok l hz)
  |none=>
   simp only [hs] at h |-
   cases As with
   |nil=>cases h
   |cons A As=>exact gen h
end
end
variable [Dfr]
inductive ESh where
 |cell (l:List Sh)
 |row (T:Nat)
 |obj (k T:Nat)
 |orow (T:Nat)
 |xrow (T:Nat)
 |forow (T:Nat)
 |gone
def ESh.sh:ESh->Sh
 | .cell l =>.agg l
 | .row T =>.sl T
 | .obj k T =>.ifc k (.tup [.str,.sl T])
 | .orow T =>.orow T
 | .xrow T =>.clo 1 [.int .i64,.sl T]
 | .forow T =>.orow T
 | .gone =>.und
def ESh.isGone:ESh->Bool
 | .gone=>true
 |_=>false
structure Sig where
 ts:List (Nat×Sh)
 es:List ESh
def Sig.shs (g:Sig):List Sh:=g.ts.map (·.2)++g.es.map ESh.sh
abbrev Sig.ty (C:Cod) (g:Sig):Type:=Sh.tys C g.shs
section
variable {C:Cod}
def Wd (ρ:Nat->Nat):(ts:List (Nat×Sh))->(rest:List Sh)->Sh.tys C (ts.map (·.2)++rest)->Nat->AV C.D
 |[],_,_=>fun _ =>.und
 |(t,s)::ts,rest,x=>fun i=>bif Nat.beq i t then Sh.put ρ s (Sh.hd (s:=s) (l:=ts.map (·.2)++rest) x) else Wd ρ ts rest (Sh.tl (s:=s) (l:=ts.map (·.2)++rest) x) i
def We:(ts:List (Nat×Sh))->(rest:List Sh)->Sh.tys C (ts.map (·.2)++rest)->Sh.tys C rest
 |[],_,x=>x
 |(t,s)::ts,rest,x=>We ts rest (Sh.tl (s:=s) (l:=ts.map (·.2)++rest) x)
def ESh.ent (ρ:Nat->Nat):(e:ESh)->e.sh.ty C->G3 (Ent C)
 | .cell l,x=>some (.cell (Sh.putc ρ l x))
 | .row T,s=>some (.row T s)
 | .obj k T,x=>some (.obj k T (Sh.hd (s :=.str) (l:=[.sl T]) x) (Sh.hd (s :=.sl T) (l:=[]) (Sh.tl (s :=.str) (l:=[.sl T]) x)))
 | .orow T,s=>some (.orow T s .all)
 | .xrow T,x=>some (.orow T (Sh.hd (s :=.sl T) (l:=[]) (Sh.tl (s :=.int .i64) (l:=[.sl T]) x)) (.upto (Sh.hd (s :=.int .i64) (l:=[.sl T]) x)))
 | .forow T,s=>some (.orow T s .fix)
 | .gone,_=>none
def ZI (ρ:Nat->Nat):(es:List ESh)->Nat->Sh.tys C (es.map ESh.sh)->Nat->G3 (Ent C)
 |[],_,_=>fun _=>none
 |e::es,k,x=>fun i=>bif Nat.beq i (ρ k) then e.ent ρ (Sh.hd (s:=e.sh) (l:=es.map ESh.sh) x) else ZI ρ es (k+1) (Sh.tl (s:=e.sh) (l:=es.map ESh.sh) x) i
def Sig.open (g:Sig) (x:g.ty C):St C:=
 {env:=Wd (fun k=>k) g.ts (g.es.map ESh.sh) x,heap:=ZI (fun k=>k) g.es 0 (We g.ts (g.es.map ESh.sh) x)}
def zhw:G3 (Ent C)->AV C.D
 |some (.cell cs) =>.agg cs
 |some (.row T s) =>.sl T s false
 |some (.obj k T b s) =>.ifc k (.tup [.str b,.sl T s false])
 |some (.orow T s .all) =>.clo 0 [.sl T s false]
 |some (.orow T s .fix) =>.clo 0 [.sl T s false]
 |some (.orow T s (.upto k)) =>.clo 1 [.int .i64 k,.sl T s false]
 |some (.orow _ _ (.out _)) =>.und
 |none =>.und
abbrev Bl:=List (G3 Nat)
def Bl.fn (bl:Bl) (k:Nat):G3 Nat:=(bl[k]?).join
def WL (S:St C) (bl:Bl) (k:Nat):AV C.D:=match Bl.fn bl k with
 |some id=>zhw (S.heap id)
 |none =>.und
def zgh (bl:Bl) (k id:Nat):Bl:=match Bl.fn bl k with
 |some _=>bl
 |none=>bl.set k (some id)
mutual
def zhx:Sh->AV C.D->Bl->Bl
 | .row k,A,bl=>(match A with
  | .row id=>zgh bl k id
  |_=>bl)
 | .pc k _,A,bl=>(match A with
  | .pc id _=>zgh bl k id
  |_=>bl)
 | .pr k _ _,A,bl=>(match A with
  | .pr id _ _ _=>zgh bl k id
  |_=>bl)
 | .nx k _,A,bl=>(match A with
  | .nx id _ _ _=>zgh bl k id
  |_=>bl)
 | .nxe k _ _ _,A,bl=>(match A with
  | .nx id _ _ _=>zgh bl k id
  |_=>bl)
 | .nxp k _ _,A,bl=>(match A with
  | .nx id _ _ _=>zgh bl k id
  |_=>bl)
 | .clo _ l,A,bl=>(match A with
  | .clo _ cs=>ze5 l cs bl
  |_=>bl)
 | .agg l,A,bl=>(match A with
  | .agg cs=>ze5 l cs bl
  |_=>bl)
 | .tup l,A,bl=>(match A with
  | .tup cs=>ze5 l cs bl
  |_=>bl)
 | .ifc _ s,A,bl=>(match A with
  | .ifc _ A=>zhx s A bl
  |_=>bl)
 |_,_,bl=>bl
def ze5:List Sh->List (AV C.D)->Bl->Bl
 |[],_,bl=>bl
 |s::l,As,bl=>(match Sh.isVal s with
  |some T=>ze5 l (As.drop (C.size T)) bl
  |none=>(match As with
   |A::As=>ze5 l As (zhx s A bl)
   |[]=>bl))
end
def ze6 (S:St C):List (Nat×Sh)->Bl->Bl
 |[],bl=>bl
 |(t,s)::ts,bl=>ze6 S ts (zhx s (S.env t) bl)
def ze7 (S:St C):List ESh->Nat->Bl->Bl
 |[],_,bl=>bl
 |e::es,k,bl=>ze7 S es (k+1) (zhx e.sh (WL S bl k) bl)
def zpa:List ESh->Nat->Nat->Bl
 |[],_,_=>[]
 |e::es,k,m=>(bif e.isGone then none else bif Nat.blt k m then some k else none)::zpa es (k+1) m
def Zu (g:Sig) (m:Nat) (S:St C):Bl:=ze7 S g.es 0 (ze6 S g.ts (zpa g.es 0 m))
def Z5 (id:Nat):Bl->Bool
 |[]=>false
 |some a::r=>Nat.beq a id || Z5 id r
 |none::r=>Z5 id r
def zjo (m:Nat):List ESh->Bl->Nat->Bool
 |[],[],_=>true
 |e::es,b::bl,k=>(match b with
  |some id=> !e.isGone && (!Z5 id bl && (!Nat.blt k m || Nat.beq k id))
  |none=>e.isGone) && zjo m es bl (k+1)
 |_,_,_=>false
def zel (S:St C) (m:Nat):List ESh->Nat->Bool
 |[],_=>true
 |e::es,k=>(match e with
  | .forow _=> !Nat.blt k m || ZT (S.heap k)
  |_=>true) && zel S m es (k+1)
def YC (g:Sig) (m:Nat) (S:St C) (bl:Bl):G3 (g.ty C):=
 chk (zjo m g.es bl 0 && zel S m g.es 0) (Sh.gets (Bl.fn bl) g.shs (g.ts.map (fun t=>S.env t.1)++(List.range g.es.length).map (WL S bl)))
mutual
def fzS:Sh->AV C.D->List Nat
 | .sl _,A=>AV.rows A
 | .val _,A=>AV.rows A
 | .clo _ l,A=>(match A with
  | .clo _ cs=>fzL l cs
  |_=>[])
 | .agg l,A=>(match A with
  | .agg cs=>fzL l cs
  |_=>[])
 | .tup l,A=>(match A with
  | .tup cs=>fzL l cs
  |_=>[])
 | .ifc _ s,A=>(match A with
  | .ifc _ A=>fzS s A
  |_=>[])
 |_,_=>[]
def fzL:List Sh->List (AV C.D)->List Nat
 |[],_=>[]
 |s::l,As=>(match Sh.isVal s with
  |some T=>AV.rowss (As.take (C.size T))++fzL l (As.drop (C.size T))
  |none=>(match As with
   |A::As=>fzS s A++fzL l As
   |[]=>[]))
end
def fzT (S:St C):List (Nat×Sh)->List Nat
 |[]=>[]
 |(t,s)::ts=>fzS s (S.env t)++fzT S ts
def fzE (S:St C) (bl:Bl):List ESh->Nat->List Nat
 |[],_=>[]
 |e::es,k=>(match e with
  | .cell l=>(match WL S bl k with
   | .agg cs=>fzL l cs
   |_=>[])
  |_=>[])++fzE S bl es (k+1)
def ze8 (C:Cod) (es:List ESh) (k:Nat):G3 (Ent C):=match es[k]? with
 |some (.row T)=>some (.row T ⟨[],false⟩)
 |some (.orow T)=>some (.orow T ⟨[],false⟩ .all)
 |some (.forow T)=>some (.orow T ⟨[],false⟩ .all)
 |_=>none
def zuU (C:Cod) (s:Sh):Nat:=match Sh.isVal s with | some T=>C.size T | none=>1
def nilA1 (es:List ESh) (t:Nat) (s:Sh) (p:Nat) (S:St C):St C:=match s,S.env t with
 | .row k,.agg cs=>(match cs[p]?,ze8 C es k with
  |some .nils,some e=>bif isNone (S.heap (1048576+k)) then {env:=upd S.env t (.agg (cs.set p (.row (1048576+k)))),heap:=upd S.heap (1048576+k) (some e)} else S
  |_,_=>S)
 |_,_=>S
def nilA (es:List ESh) (t:Nat):List Sh->Nat->St C->St C
 |[],_,S=>S
 |s::l,p,S=>nilA es t l (p+zuU C s) (nilA1 es t s p S)
def nilT (es:List ESh):List (Nat×Sh)->St C->St C
 |[],S=>S
 |(t,s)::ts,S=>nilT es ts (match s,S.env t with
  | .row k,.nils=>(match ze8 C es k with
   |some e=>bif isNone (S.heap (1048576+k)) then {env:=upd S.env t (.row (1048576+k)),heap:=upd S.heap (1048576+k) (some e)} else S
   |none=>S)
  | .agg l,.agg _=>nilA es t l 0 S
  |_,_=>S)
def nil1 (es:List ESh) (id:Nat) (s:Sh) (p:Nat) (S:St C):St C:=match s,S.heap id with
 | .row k,some (.cell cs)=>(match cs[p]?,ze8 C es k with
  |some .nils,some e=>bif isNone (S.heap (1048576+k)) then {S with heap:=upd (upd S.heap (1048576+k) (some e)) id (some (.cell (cs.set p (.row (1048576+k)))))} else S
  |_,_=>S)
 |_,_=>S
def nilC (es:List ESh) (id:Nat):List Sh->Nat->St C->St C
 |[],_,S=>S
 |s::l,p,S=>nilC es id l (p+zuU C s) (nil1 es id s p S)
def ze9 (all:List ESh) (bl:Bl) (e:ESh) (k:Nat) (S:St C):St C:=match e,Bl.fn bl k with
 | .cell l,some id=>nilC all id l 0 S
 |_,_=>S
def nilE (all:List ESh) (bl:Bl):List ESh->Nat->St C->St C
 |[],_,S=>S
 |e::es,k,S=>nilE all bl es (k+1) (ze9 all bl e k S)
def Sig.prep (g:Sig) (m:Nat) (S:St C):St C:=
 let S1:=nilT g.es g.ts (S.frz (fzT S g.ts))
 let S2:=nilE g.es (Zu g m S1) g.es 0 S1
 S2.frz (fzE S2 (Zu g m S2) g.es 0)
def zqx (bl:Bl) (e:ESh) (k:Nat) (S:St C):St C:=match e,Bl.fn bl k with
 | .xrow _,some id=>(match S.heap id with
  |some (.row T s)=>bif Nat.blt (C.nst T) (C.size T) then S.owk id (.orow T s (.upto 0)) else S
  |_=>S)
 |_,_=>S
def zqy (bl:Bl):List ESh->Nat->St C->St C
 |[],_,S=>S
 |e::es,k,S=>zqy bl es (k+1) (zqx bl e k S)
def Sig.close (g:Sig) (m:Nat) (S:St C):G3 (g.ty C):=
 let S1:=g.prep m S
 let S2:=zqy (Zu g m S1) g.es 0 S1
 YC g m S2 (Zu g m S2)
end
section
variable {κ:Kp}{C:Cod}{S:St C}{ν:Val}{vs:Nat->List Value}{ids:List Nat}{L:List (Nat×Value)}{b:Nat->Value}{Z:FS}{PV:List Priv}
variable {n:Nat}{w0:Start}{σ0:FS}
theorem zbn {B:Nat->G3 Nat}:∀ (ts:List (Nat×Sh)) (rest:List Sh) {avs ravs:List (AV C.D)}{x:Sh.tys C (ts.map (·.2)++rest)},avs.length=ts.length->Sh.gets B (ts.map (·.2)++rest) (avs++ravs)=some x->Sh.gets B rest ravs=some (We ts rest x)
 |[],rest,avs,ravs,x,hl,h=>by
  have:avs=[]:=GP hl;subst this;exact h
 |(t,s)::ts,rest,A::avs,ravs,x,hl,h=>by
  obtain ⟨y,hy,h⟩:=jy h;obtain ⟨z,hz,h⟩:=jy h;cases h;show Sh.gets B rest ravs=some (We ts rest (Sh.tl (s:=s) (l:=ts.map (·.2)++rest) (Sh.pk y z)));rw [Sh.tl_pk];exact zbn ts rest (by simpa using hl) hz
 |_::_,_,[],_,_,hl,_=>by simp at hl
theorem zbo {B:Nat->G3 Nat}{ρ:Nat->Nat}{ν':Val}(hν:Rn B ρ ν ν') (rest:List Sh) {ravs:List (AV C.D)}(hv:∀ t,VR C Z ν (look L b t) (S.env t)):∀ (ts:List (Nat×Sh)) {x:Sh.tys C (ts.map (·.2)++rest)},
    Sh.gets B (ts.map (·.2)++rest) (ts.map (fun t=>S.env t.1)++ravs)=some x->∀ t,VR C Z ν' (look L b t) (Wd ρ ts rest x t)/\(Wd ρ ts rest x t).ok (InB B ρ)
  |[],x,h,t=>⟨trivial,trivial⟩
  |(t0,s)::ts,x,h,t=>by
    obtain ⟨y,hy,h⟩:=jy h;obtain ⟨z,hz,h⟩:=jy h;cases h;have ih:=zbo hν rest hv ts hz t;unfold Wd;rw [show Sh.hd (s:=s) (l:=ts.map (·.2)++rest) (Sh.pk y z)=y from Sh.hd_pk,show Sh.tl (s:=s) (l:=ts.map (·.2)++rest) (Sh.pk y z)=z from Sh.tl_pk];cases e:Nat.beq t t0 with
    |true=>
      have:=jz e;subst this;exact ⟨Sh.get_put hν s hy (hv t),Sh.put_ok s hy⟩
    |false=>exact ih
theorem zag {B:Nat->G3 Nat}{ρ:Nat->Nat}{ν':Val}(hν:Rn B ρ ν ν') {N:Nat}(hρ:∀ i j,i < N->j < N->ρ i=ρ j->i=j) (hc:∀ id cs,S.heap id=some (.cell cs)->VRs C Z ν (vs id) cs):∀ (es:List ESh) (k0:Nat) {x:Sh.tys C (es.map ESh.sh)},
    k0+es.length<=N->Sh.gets B (es.map ESh.sh) ((List.range' k0 es.length).map fun k=>match B k with | some id=>zhw (S.heap id) | none =>.und)=some x->
    (∀ k e,es[k]?=some e->(e.isGone=true↔B (k0+k)=none))->∀ k id,B k=some id->k0<=k->k < k0+es.length->
      (∃ cs cs',S.heap id=some (.cell cs)/\ZI ρ es k0 x (ρ k)=some (.cell cs')/\VRs C Z ν' (vs id) cs'/\AV.oks (InB B ρ) cs')\/(∃ T s,S.heap id=some (.row T s)/\ZI ρ es k0 x (ρ k)=some (.row T s))\/(∃ q T b s,S.heap id=some (.obj q T b s)/\ZI ρ es k0 x (ρ k)=some (.obj q T b s))\/∃ T s g g',S.heap id=some (.orow T s g)/\ZI ρ es k0 x (ρ k)=some (.orow T s g')/\∀ j,j < s.xs.length->g.fl j=g'.fl j
  |[],k0,x,hN,h,hg,k,id,hB,h1,h2=>by grind
  |e::es,k0,x,hN,h,hg,k,id,hB,h1,h2=>by
    simp only [ju] at hN h2;simp only [ju,List.range'_succ,GE] at h;obtain ⟨y,hy,h⟩:=jy h;obtain ⟨z,hz,h⟩:=jy h;cases h;have ih:=zag hν hρ hc es (k0+1) (x:=z) (by omega) hz (fun j e' he=>by have:=hg (j+1) e' (by simpa using he);grind) k id hB;unfold ZI;rw [show Sh.hd (s:=e.sh) (l:=es.map ESh.sh) (Sh.pk y z)=y from Sh.hd_pk,show Sh.tl (s:=e.sh) (l:=es.map ESh.sh) (Sh.pk y z)=z from Sh.tl_pk];by_cases hk:k=k0
    · subst hk;simp only [Nat.beq_refl,Uv];rw [hB] at hy;simp only at hy;have hng:e.isGone=false:=by
        cases hh:e.isGone with
        |false=>rfl
        |true=>have:=(hg 0 e rfl).1 hh;grind
      cases e with
      |gone=>cases hng
      |cell l=>
        left;cases hs:S.heap id with
        |none=>rw [hs] at hy;cases hy
        |some en=>
          rw [hs] at hy;cases en with
          |row T s=>cases hy
          |obj q T b s=>cases hy
          |orow T s g=>cases g <;> cases hy
          |cell cs=>
            have hy:Sh.getc B l cs=some y:=hy;exact ⟨cs,_,rfl,rfl,Sh.getc_putc hν l hy (hc id cs hs),Sh.putc_ok l hy⟩
      |row T=>
        right;left;cases hs:S.heap id with
        |none=>rw [hs] at hy;cases hy
        |some en=>
          rw [hs] at hy;cases en with
          |cell cs=>cases hy
          |obj q T b s=>cases hy
          |orow T s g=>cases g <;> cases hy
          |row T' s=>
            obtain ⟨e,he⟩:=yx (show xW s=some y from hy);subst e;subst he;exact ⟨_,_,rfl,rfl⟩
      |obj q T=>
        right;right;left;cases hs:S.heap id with
        |none=>rw [hs] at hy;cases hy
        |some en=>
          rw [hs] at hy;cases en with
          |cell cs=>cases hy
          |row T' s=>cases hy
          |orow T s g=>cases g <;> cases hy
          |obj q' T' b s=>
            obtain ⟨hq,hy2⟩:=zb (show chk (Nat.beq q q') (Sh.gets B [.str,.sl T] [.str b,.sl T' s false])=some y from hy);have hq:=jz hq;obtain ⟨s',hs',hy4⟩:=jy (show (Sh.gets B [.sl T] [.sl T' s false]).bind (fun z=>some (Sh.pk (s :=.str) (l:=[.sl T]) b z))=some y from hy2);obtain ⟨s2,hs2,hs3⟩:=jy (show (xW s).bind (fun z=>some (Sh.pk (s :=.sl T) (l:=[]) z ()))=some s' from hs');cases hs3;cases hy4;subst hq;obtain ⟨e,he⟩:=yx hs2;subst e;subst he;refine ⟨_,_,b,_,rfl,?_⟩;show some (Ent.obj q T' (Sh.hd (s :=.str) (l:=[.sl T']) (Sh.pk (s :=.str) (l:=[.sl T']) b (Sh.pk (s :=.sl T') (l:=[]) s ()))) (Sh.hd (s :=.sl T') (l:=[]) (Sh.tl (s :=.str) (l:=[.sl T']) (Sh.pk (s :=.str) (l:=[.sl T']) b (Sh.pk (s :=.sl T') (l:=[]) s ())))))=_;rw [show Sh.hd (s :=.str) (l:=[.sl T']) (Sh.pk (s :=.str) (l:=[.sl T']) b (Sh.pk (s :=.sl T') (l:=[]) s ()))=b from Sh.hd_pk,show Sh.tl (s :=.str) (l:=[.sl T']) (Sh.pk (s :=.str) (l:=[.sl T']) b (Sh.pk (s :=.sl T') (l:=[]) s ()))=_ from Sh.tl_pk,show Sh.hd (s :=.sl T') (l:=[]) (Sh.pk (s :=.sl T') (l:=[]) s ())=s from Sh.hd_pk]
      |orow T=>
        right;right;right;cases hs:S.heap id with
        |none=>rw [hs] at hy;cases hy
        |some en=>
          rw [hs] at hy;cases en with
          |cell cs=>cases hy
          |row T' s=>cases hy
          |obj q' T' b s=>cases hy
          |orow T' s g=>
            cases g with
            |out i=>cases hy
            |all=>
              obtain ⟨e,he⟩:=yx (show xW s=some y from hy);subst e;subst he;exact ⟨_,_,.all,.all,rfl,rfl,fun _ _=>rfl⟩
            |fix=>
              obtain ⟨e,he⟩:=yx (show xW s=some y from hy);subst e;subst he;exact ⟨_,_,.fix,.all,rfl,rfl,fun _ _=>rfl⟩
            |upto k=>
              obtain ⟨hc,hy⟩:=zb (show chk (decide (s.len<=k)) (xW s)=some y from hy);have hc:=Us hc;obtain ⟨e,he⟩:=yx hy;subst e;subst he;refine ⟨_,_,.upto k,.all,rfl,rfl,fun j hj=>?_⟩;show (if j < k.toNat then 1 else 0)=1;rw [jr (by unfold Sl.len at hc;omega)]
      |forow T=>
        right;right;right;cases hs:S.heap id with
        |none=>rw [hs] at hy;cases hy
        |some en=>
          rw [hs] at hy;cases en with
          |cell cs=>cases hy
          |row T' s=>cases hy
          |obj q' T' b s=>cases hy
          |orow T' s g=>
            cases g with
            |out i=>cases hy
            |all=>
              obtain ⟨e,he⟩:=yx (show xW s=some y from hy);subst e;subst he;exact ⟨_,_,.all,.fix,rfl,rfl,fun _ _=>rfl⟩
            |fix=>
              obtain ⟨e,he⟩:=yx (show xW s=some y from hy);subst e;subst he;exact ⟨_,_,.fix,.fix,rfl,rfl,fun _ _=>rfl⟩
            |upto k=>
              obtain ⟨hc,hy⟩:=zb (show chk (decide (s.len<=k)) (xW s)=some y from hy);have hc:=Us hc;obtain ⟨e,he⟩:=yx hy;subst e;subst he;refine ⟨_,_,.upto k,.fix,rfl,rfl,fun j hj=>?_⟩;show (if j < k.toNat then 1 else 0)=1;rw [jr (by unfold Sl.len at hc;omega)]
      |xrow T=>
        right;right;right;cases hs:S.heap id with
        |none=>rw [hs] at hy;cases hy
        |some en=>
          rw [hs] at hy;cases en with
          |cell cs=>cases hy
          |row T' s=>cases hy
          |obj q' T' b s=>cases hy
          |orow T' s g=>
            cases g with
            |out i=>cases hy
            |all=>cases hy
            |fix=>cases hy
            |upto k=>
              obtain ⟨k',hk',hy⟩:=jy (show (Sh.get B (.int .i64) (.int .i64 k)).bind (fun x=>(Sh.gets B [.sl T] [.sl T' s false]).bind fun z=>some (Sh.pk (s :=.int .i64) (l:=[.sl T]) x z))=some y from hy);obtain ⟨z',hz',hy⟩:=jy hy;obtain ⟨s2,hs2,hs3⟩:=jy (show (xW s).bind (fun z=>some (Sh.pk (s :=.sl T) (l:=[]) z ()))=some z' from hz');cases hs3;cases hy;obtain ⟨_,hk'⟩:=zb hk';cases hk';obtain ⟨e,he⟩:=yx hs2;subst e;subst he;refine ⟨_,_,.upto k,.upto k,rfl,?_,fun _ _=>rfl⟩;show some (Ent.orow T' (Sh.hd (s :=.sl T') (l:=[]) (Sh.tl (s :=.int .i64) (l:=[.sl T']) (Sh.pk (s :=.int .i64) (l:=[.sl T']) k (Sh.pk (s :=.sl T') (l:=[]) s ())))) (.upto (Sh.hd (s :=.int .i64) (l:=[.sl T']) (Sh.pk (s :=.int .i64) (l:=[.sl T']) k (Sh.pk (s :=.sl T') (l:=[]) s ())))))=_;rw [show Sh.hd (s :=.int .i64) (l:=[.sl T']) (Sh.pk (s :=.int .i64) (l:=[.sl T']) k (Sh.pk (s :=.sl T') (l:=[]) s ()))=k from Sh.hd_pk,show Sh.tl (s :=.int .i64) (l:=[.sl T']) (Sh.pk (s :=.int .i64) (l:=[.sl T']) k (Sh.pk (s :=.sl T') (l:=[]) s ()))=_ from Sh.tl_pk,show Sh.hd (s :=.sl T') (l:=[]) (Sh.pk (s :=.sl T') (l:=[]) s ())=s from Sh.hd_pk]
    · have hne:Nat.beq (ρ k) (ρ k0)=false:=by
        cases e':Nat.beq (ρ k) (ρ k0) with
        |false=>rfl
        |true=>
          exfalso;have e2:=jz e';grind
      grind
end
variable [Dfr]
section
variable {κ:Kp}{C:Cod}{S:St C}{ν:Val}{vs:Nat->List Value}{ids:List Nat}{L:List (Nat×Value)}{b:Nat->Value}{Z:FS}{PV:List Priv}
variable {n:Nat}{w0:Start}{σ0:FS}
theorem xQ {id:Nat}:∀ {bl:Bl}{k:Nat},Bl.fn bl k=some id->Z5 id bl=true
 |[],k,h=>by simp [Bl.fn] at h
 |none::r,0,h=>by simp [Bl.fn] at h
 |some a::r,0,h=>by
  have:a=id:=by simpa [Bl.fn] using h
  subst this;simp [Z5]
 |none::r,k+1,h=>by
  have:Bl.fn r k=some id:=by simpa [Bl.fn] using h
  simp [Z5,xQ this]
 |some a::r,k+1,h=>by
  have:Bl.fn r k=some id:=by simpa [Bl.fn] using h
  simp [Z5,xQ this]
structure BdOK (m:Nat) (es:List ESh) (B:Nat->G3 Nat):Prop where
 gone:∀ k e,es[k]?=some e->(e.isGone=true↔B k=none)
 lt:∀ k id,B k=some id->k < es.length
 inj:∀ i j id,B i=some id->B j=some id->i=j
 same:∀ k id,k < m->B k=some id->k=id
theorem zlg {m:Nat}:∀ {es:List ESh}{bl:Bl}{k0:Nat},zjo m es bl k0=true->(∀ k e,es[k]?=some e->(e.isGone=true↔Bl.fn bl k=none))/\(∀ k id,Bl.fn bl k=some id->k < es.length)/\(∀ i j id,Bl.fn bl i=some id->Bl.fn bl j=some id->i=j)/\(∀ k id,k0+k < m->Bl.fn bl k=some id->k0+k=id)
 |[],[],k0,h=>⟨fun k e he=>by simp at he,fun k id he=>by simp [Bl.fn] at he,fun i j id he=>by simp [Bl.fn] at he,fun k id _ he=>by simp [Bl.fn] at he⟩
 |[],_::_,k0,h=>by cases h
 |_::_,[],k0,h=>by cases h
 |e::es,b::bl,k0,h=>by
  simp only [zjo,g9] at h;obtain ⟨h1,h2⟩:=h;obtain ⟨i1,i2,i3,i4⟩:=zlg h2;have hs:∀ k,Bl.fn (b::bl) (k+1)=Bl.fn bl k:=fun k=>by simp [Bl.fn]
  have h0:Bl.fn (b::bl) 0=b:=by simp [Bl.fn]
  refine ⟨fun k e' he=>?_,fun k id he=>?_,fun i j id hi hj=>?_,fun k id hk he=>?_⟩
  ·cases k with
   |zero=>
    simp at he;grind
   |succ k=>grind
  ·cases k with
   |zero=>simp
   |succ k=>grind
  ·cases i with
   |zero=>
    cases j with
    |zero=>rfl
    |succ j=>
     rw [h0] at hi;subst hi;rw [hs] at hj;simp only [g9,Ut] at h1;rw [xQ hj] at h1;simp at h1
   |succ i=>
    cases j with
    |zero=>
     rw [h0] at hj;subst hj;rw [hs] at hi;simp only [g9,Ut] at h1;rw [xQ hi] at h1;simp at h1
    |succ j=>grind
  ·cases k with
   |zero=>
    rw [h0] at he;subst he;simp only [g9,GO,Ut] at h1;rcases h1.2.2 with q | q
    ·have:¬ Nat.blt k0 m=true:=by rw [q];simp
     rw [GZ] at this;omega
    ·have:=jz q;omega
   |succ k=>
    grind
omit [Dfr] in
theorem BdOK.of {m:Nat}{es:List ESh}{bl:Bl}(h:zjo m es bl 0=true):BdOK m es (Bl.fn bl):=by
 obtain ⟨h1,h2,h3,h4⟩:=zlg h;exact ⟨h1,h2,h3,fun k id hk hb=>by grind⟩
theorem WX {ρ:Nat->Nat}:∀ (es:List ESh) (k0:Nat) {x:Sh.tys C (es.map ESh.sh)}{i:Nat},(∀ k e,es[k]?=some e->i=ρ (k0+k)->e.isGone=true)->ZI ρ es k0 x i=none
 |[],_,_,_,_=>rfl
 |e::es,k0,x,i,h=>by
  unfold ZI;cases e':Nat.beq i (ρ k0) with
  |true=>
   have:=h 0 e rfl (jz e');cases e with
   |gone=>rfl
   |cell=>cases this
   |row=>cases this
   |obj=>cases this
   |orow=>cases this
   |xrow=>cases this
   |forow=>cases this
  |false=>exact WX es (k0+1) fun k e he hi=>h (k+1) e (by simpa using he) (by grind)
theorem zcC {ρ:Nat->Nat}:∀ (es:List ESh) (k0:Nat) {x:Sh.tys C (es.map ESh.sh)}{i:Nat},ZT (ZI ρ es k0 x i)=true->∃ k T,es[k]?=some (.forow T)/\i=ρ (k0+k)
 |[],_,_,_,h=>by cases h
 |e::es,k0,x,i,h=>by
  unfold ZI at h;cases e':Nat.beq i (ρ k0) with
  |true=>
   rw [e',Uv] at h;cases e with
   |forow T=>exact ⟨0,T,rfl,jz e'⟩
   |gone=>cases h
   |cell=>cases h
   |row=>cases h
   |obj=>cases h
   |orow=>cases h
   |xrow=>cases h
  |false=>
   rw [e',G8] at h;obtain ⟨k,T,h1,h2⟩:=zcC es (k0+1) h;exact ⟨k+1,T,by simpa using h1,by grind⟩
theorem zlh {m:Nat}:∀ {es:List ESh}{k0:Nat},zel S m es k0=true->∀ {k T:Nat},es[k]?=some (.forow T)->k0+k < m->ZT (S.heap (k0+k))=true
 |[],_,_,k,T,h,_=>by simp at h
 |e::es,k0,h,k,T,hk,hm=>by
  unfold zel at h;simp only [g9] at h;cases k with
  |zero=>
   simp at hk;subst hk;have h1:=h.1;simp only [GO,Ut] at h1;rcases h1 with q | q
   ·have:Nat.blt k0 m=true:=by rw [GZ];omega
    grind
   ·exact q
  |succ k=>
   have:=zlh h.2 (k:=k) (T:=T) (by simpa using hk) (by omega);grind
theorem AbsL.rename (h:AbsL κ S ν vs ids L b Z PV) {g:Sig}{bl:Bl}{x:g.ty C}(hg:YC g κ.m S bl=some x) :
    ∃ ν' vs' ids' PV',AbsL κ (g.open x) ν' vs' ids' L b Z PV'/\∀ w,Inv w0 σ0 Z PV w->Inv w0 σ0 Z PV' w:=by
  obtain ⟨hb,hg⟩:=zb hg;obtain ⟨hb,hfx⟩:=(g9 _ _).mp hb;have hB:=BdOK.of hb
  let B:=Bl.fn bl
  let ν':Val:={hdr:=fun k=>match B k with | some id=>ν.hdr id | none =>.slice none 0 0,adr:=fun k=>match B k with | some id=>ν.adr id | none=>default}
  let vs':Nat->List Value:=fun k=>match B k with | some id=>vs id | none=>[]
  have hν:Rn B (fun k=>k) ν ν':=⟨fun k id e=>by simp [ν',e],h.one⟩;have hsplit:=zbn g.ts (g.es.map ESh.sh) (avs:=g.ts.map fun t=>S.env t.1) (by simp) hg;have hsl:(List.range g.es.length).map (WL S bl)=(List.range' 0 g.es.length).map fun k=>match B k with | some id=>zhw (S.heap id) | none =>.und:=by
    rw [<- List.range_eq_range'];rfl
  rw [hsl] at hsplit;have hheap:=fun k id (e:B k=some id)=>zag (N:=g.es.length) hν (fun i j _ _ e=>e) h.cell g.es 0 (by omega) hsplit (fun k e he=>by rw [GY];exact hB.gone k e he) k id e (GL _) (by have:=hB.lt k id e;omega)
  have hnone:∀ k,B k=none->(g.open x).heap k=none:=fun k e=>by
    refine WX g.es 0 fun j e' he hj=>?_
    have hj:k=j:=by simpa using hj
    subst hj;exact (hB.gone k e' he).2 e
  have hsome:∀ k,((g.open x).heap k).isSome=true↔(B k).isSome=true:=fun k=>by
    cases e:B k with
    |none=>grind
    |some id=>
      rcases hheap k id e with ⟨cs,cs',_,h2,_⟩ | ⟨T,s,_,h2⟩ | ⟨q,T,b2,s,_,h2⟩ | ⟨T,s,g1,g2,_,h2,_⟩
      all_goals rw [show (g.open x).heap k=_ from h2];simp
  have henv:=zbo (L:=L) (b:=b) (Z:=Z) hν (g.es.map ESh.sh) h.env g.ts hg
  let ids':=(List.range g.es.length).filter fun k=>(B k).isSome
  have hmem:∀ k,k∈ids'↔(B k).isSome=true:=fun k=>by
    simp only [ids',U2,U3];refine ⟨fun h=>h.2,fun h=>⟨?_,h⟩⟩;obtain ⟨id,e⟩:=GN.1 h;exact hB.lt k id e
  have hpos:∀ k,k∈ids'->∃ (id m:Nat),B k=some id/\ids[m]?=some id/\PV[m]?=some (zG C ν' vs' k ((g.open x).heap k)):=fun k hk=>by
    obtain ⟨id,e⟩:=GN.1 ((hmem k).1 hk);rcases hheap k id e with ⟨cs,cs',h1,h2,_⟩ | ⟨T,s,h1,h2⟩ | ⟨q,T,b2,s,h1,h2⟩ | ⟨T,s,g1,g2,h1,h2,h3⟩
    ·obtain ⟨m,hm,hid⟩:=h.at h1;refine ⟨id,m,e,hid,?_⟩;rw [hm,show (g.open x).heap k=_ from h2];simp [zG,ν',vs',e]
    ·obtain ⟨m,hm,hid⟩:=h.at h1;refine ⟨id,m,e,hid,?_⟩;rw [hm,show (g.open x).heap k=_ from h2];simp [zG,ν',e]
    ·obtain ⟨m,hm,hid⟩:=h.at h1;refine ⟨id,m,e,hid,?_⟩;rw [hm,show (g.open x).heap k=_ from h2];simp [zG,ν',e]
    ·obtain ⟨m,hm,hid⟩:=h.at h1;refine ⟨id,m,e,hid,?_⟩;rw [hm,show (g.open x).heap k=_ from h2];simp only [zG,ν',e];rw [zb9 fun j hj=>⟨h3 j hj,rfl⟩]
  classical
  let pos:Nat->Nat:=fun k=>if hk:k∈ids' then (hpos k hk).choose_spec.choose else 0
  have hposk:∀ k (hk:k∈ids'),B k=some (hpos k hk).choose/\ids[pos k]?=some (hpos k hk).choose/\PV[pos k]?=some (zG C ν' vs' k ((g.open x).heap k)):=fun k hk=>by
    have:=(hpos k hk).choose_spec.choose_spec;grind
  have hnd:ids'.Nodup:=List.Nodup.sublist List.filter_sublist List.nodup_range;refine ⟨ν',vs',ids',ids'.map fun k=>zG C ν' vs' k ((g.open x).heap k),⟨⟨hnd,fun k=>by grind,rfl,fun k cs hk=>?_,fun t=>(henv t).1,fun i=>?_⟩,fun t=>?_,fun k cs hk=>?_,fun k hk hs=>?_⟩,fun w hi=>hi.sub_own fun gg ks=>?_⟩
  · have hB1:=(hsome k).1 (by rw [hk];rfl);obtain ⟨id,e⟩:=GN.1 hB1;rcases hheap k id e with ⟨c,c',h1,h2,h3,_⟩ | ⟨T,s,h1,h2⟩ | ⟨q,T,b2,s,h1,h2⟩ | ⟨T,s,g1,g2,h1,h2,_⟩
    ·rw [show (g.open x).heap k=_ from h2] at hk;grind
    ·rw [show (g.open x).heap k=_ from h2] at hk;cases hk
    ·rw [show (g.open x).heap k=_ from h2] at hk;cases hk
    ·rw [show (g.open x).heap k=_ from h2] at hk;cases hk
  · simp only [ν'];cases B i with
    |none=>rfl
    |some id=>exact h.one id
  ·refine AV.ok_mono (fun j hj=>?_) (henv t).2;obtain ⟨k2,id2,e2,e3⟩:=hj;grind
  · have hB1:=(hsome k).1 (by rw [hk];rfl);obtain ⟨id,e⟩:=GN.1 hB1;rcases hheap k id e with ⟨c,c',h1,h2,_,h4⟩ | ⟨T,s,h1,h2⟩ | ⟨q,T,b2,s,h1,h2⟩ | ⟨T,s,g1,g2,h1,h2,_⟩
    ·rw [show (g.open x).heap k=_ from h2] at hk;cases hk;refine AV.oks_mono (fun j hj=>?_) h4;obtain ⟨k2,id2,e2,e3⟩:=hj;grind
    ·rw [show (g.open x).heap k=_ from h2] at hk;cases hk
    ·rw [show (g.open x).heap k=_ from h2] at hk;cases hk
    ·rw [show (g.open x).heap k=_ from h2] at hk;cases hk
  · obtain ⟨id,e⟩:=GN.1 ((hsome k).1 hs);have:=hB.same k id hk e;subst this;have hS:(S.heap k).isSome=true:=by
      rcases hheap k k e with ⟨c,c',h1,_⟩ | ⟨T,s,h1,_⟩ | ⟨q,T,b2,s,h1,_⟩ | ⟨T,s,g1,g2,h1,_⟩ <;> rw [h1] <;> rfl
    have:=h.keep k hk hS;refine ⟨by simpa [ν',e] using this.1,by simpa [ν',e] using this.2.1,fun hf=>?_⟩;obtain ⟨j,T,h1,h2⟩:=zcC g.es 0 (show ZT (ZI (fun k=>k) g.es 0 (We g.ts (g.es.map ESh.sh) x) k)=true from hf);have h2:k=j:=by simpa using h2
    subst h2;have:=this.2.2 (by have:=zlh hfx h1 (by omega);rwa [GY] at this);simpa [ν',e] using this
  · refine ks.select (ids'.map pos) ?_ ?_
    ·rw [GD,List.pairwise_map];refine List.Pairwise.imp_of_mem ?_ (GD.1 hnd);intro i j hi hj hne e;obtain ⟨e1,e2,_⟩:=hposk i hi;obtain ⟨e3,e4,_⟩:=hposk j hj;rw [e] at e2;rw [e2] at e4;rw [<- Option.some.inj e4] at e3;exact hne (hB.inj i j _ e1 e3)
    ·rw [List.map_map,List.map_map];exact Ux fun k hk=>(hposk k hk).2.2
end
variable [Dfr]
section
variable {κ:Kp}{C:Cod}{S:St C}{ν:Val}{vs:Nat->List Value}{ids:List Nat}{L:List (Nat×Value)}{b:Nat->Value}{Z:FS}{PV:List Priv}
variable {n:Nat}{w0:Start}{σ0:FS}
theorem zqz {t:Nat}{v:Value}(h:look L b t=v):∀ i,look ((t,v)::L) b i=look L b i:=fun i=>by
 show (bif Nat.beq i t then v else look L b i)=_;cases e:Nat.beq i t with
 |true=>rw [jz e];exact h.symm
 |false=>rfl
theorem zz.unput {t:Nat}{v:Value}(h:zz κ S ((t,v)::L) b Z PV) (hv:look L b t=v):zz κ S L b Z PV:=by
 obtain ⟨ν,vs,ids,h⟩:=h;exact ⟨ν,vs,ids,⟨⟨h.nd,h.dom,h.pv,h.cell,fun t=>by have:=h.env t;rw [zqz hv] at this;exact this,h.one⟩,h.live,h.livec,h.keep⟩⟩
theorem zbp {es:List ESh}{k:Nat}{e:Ent C}(h:ze8 C es k=some e):(∃ T,e = .row T ⟨[],false⟩)\/∃ T,e = .orow T ⟨[],false⟩ .all:=by
 unfold ze8 at h;grind
theorem zli {T:Nat}{sub:Nat->Value}{g:Own}:hpl C T sub ⟨[],false⟩ g=⟨[],false⟩:=by simp [hpl]
theorem AbsL.pvEq {PV':List Priv}(h:AbsL κ S ν vs ids L b Z PV) (e:PV=PV'):AbsL κ S ν vs ids L b Z PV':=e ▸ h
theorem AbsL.addRow (h:AbsL κ S ν vs ids L b Z PV) {id:Nat}{e:Ent C}(he:(∃ T,e = .row T ⟨[],false⟩)\/∃ T,e = .orow T ⟨[],false⟩ .all) (h0:S.heap id=none) (h64:κ.m<=id) :
    ∃ ν' pv,AbsL κ {S with heap:=upd S.heap id (some e)} ν' (upd vs id []) (id::ids) L b Z (pv::PV)/\ν'.hdr id = .slice none 0 0/\(∀ j,(S.heap j).isSome=true->ν.hdr j=ν'.hdr j/\ν.adr j=ν'.adr j)/\∀ {w0:Start} {σ0:FS} {w:World},Inv w0 σ0 Z PV w->Inv w0 σ0 Z (pv::PV) w:=by
  let ν':Val:={hdr:=upd ν.hdr id (.slice none 0 0),adr:=upd ν.adr id default}
  have hec:∀ cs,e ≠.cell cs:=fun cs ee=>by grind
  have hvs:zG C ν' (upd vs id []) id (some e)=zG C ν' (upd vs id []) id (some e):=rfl;have hne:∀ j,(S.heap j).isSome=true->j≠id:=fun j hj e=>by grind
  have hag:∀ j,(S.heap j).isSome=true->ν.hdr j=ν'.hdr j/\ν.adr j=ν'.adr j:=fun j hj=>⟨(zm (hne j hj)).symm,(zm (hne j hj)).symm⟩
  have hlv:∀ j,(S.heap j).isSome=true->(upd S.heap id (some e) j).isSome=true:=fun j hj=>by rw [zm (hne j hj)];exact hj
  have hid:id ∉ ids:=fun hm=>by have:=(h.dom id).1 hm;grind
  refine ⟨ν',zG C ν' (upd vs id []) id (some e),⟨⟨List.nodup_cons.2 ⟨hid,h.nd⟩,fun j=>?_,?_,fun j cs hj=>?_,fun t=>(h.env t).congr hag (h.live t),fun i=>?_⟩,fun t=>AV.ok_mono hlv (h.live t),fun j cs hj=>?_,fun k hk hs=>?_⟩,zl,hag,fun {w0 σ0 w} hi=>?_⟩
  · by_cases e':j=id
    ·subst e';show _↔(upd S.heap j (some e) j).isSome=true;rw [zl];simp
    ·show _↔(upd S.heap id (some e) j).isSome=true;rw [zm e',Ua,h.dom];grind
  · rw [GE,h.pv];refine List.cons_eq_cons.2 ⟨?_,Ux fun j hj=>?_⟩
    ·show _=zG C ν' _ id (upd S.heap id (some e) id);rw [zl]
    · have hj':=hne j ((h.dom j).1 hj);show zG C ν vs j (S.heap j)=zG C ν' (upd vs id []) j (upd S.heap id (some e) j);rw [zm hj'];cases S.heap j with
      |none=>rfl
      |some en=>cases en <;> simp [zG,ν',zm hj']
  · by_cases e':j=id
    ·subst e';have hj:upd S.heap j (some e) j=_:=hj;rw [zl] at hj;grind
    ·have hj:upd S.heap id (some e) j=_:=hj;rw [zm e'] at hj;show VRs C Z ν' (upd vs id [] j) cs;rw [zm e'];exact (h.cell j cs hj).congr hag (h.livec j cs hj)
  · by_cases e':i=id
    ·subst e';show (upd ν.hdr i _ i).oneCell'=true;rw [zl];rfl
    ·show (upd ν.hdr id _ i).oneCell'=true;rw [zm e'];exact h.one i
  · by_cases e':j=id
    ·subst e';have hj:upd S.heap j (some e) j=_:=hj;rw [zl] at hj;grind
    ·have hj:upd S.heap id (some e) j=_:=hj;rw [zm e'] at hj;exact AV.oks_mono hlv (h.livec j cs hj)
  · have hne':k≠id:=by omega
    have hs:(upd S.heap id (some e) k).isSome=true:=hs;rw [zm hne'] at hs;have:=hag k hs;have h2:=h.keep k hk hs;refine ⟨this.1.symm.trans h2.1,(congrArg Loc.a this.2).symm.trans h2.2.1,fun hf=>(congrArg Loc.sub this.2).symm.trans (h2.2.2 ?_)⟩;have hf:ZT (upd S.heap id (some e) k)=true:=hf;rw [zm hne'] at hf;exact hf
  · refine hi.sub_own fun gg k =>.cons (h1:=zc.none) ?_ k (zc.none_le _) (.refl _) (zc.none_disj _)
    rcases he with ⟨T,rfl⟩ | ⟨T,rfl⟩
    ·show (Priv.row (zE C T).o T (upd ν.hdr id (.slice none 0 0) id) ⟨[],false⟩).holds Z zc.none;rw [zl];exact .inl ⟨rfl,rfl⟩
    ·show (Priv.row (Zh C T) T (upd ν.hdr id (.slice none 0 0) id) (hpl C T _ ⟨[],false⟩ .all)).holds Z zc.none;rw [zl];exact .inl ⟨rfl,zli⟩
omit [Dfr] in
theorem VRs.set {ν:Val}:∀ {vs:List Value}{cs:List (AV C.D)}{p:Nat}{A:AV C.D},VRs C Z ν vs cs->(∀ v,vs[p]?=some v->VR C Z ν v A)->VRs C Z ν vs (cs.set p A)
 |[],[],p,A,h,k=>h
 |v::vs,c::cs,0,A,h,k=>⟨k v rfl,h.2⟩
 |v::vs,c::cs,p+1,A,h,k=>⟨h.1,VRs.set h.2 fun u hu=>k u (by simpa using hu)⟩
 |[],_::_,p,A,h,k=>h.elim
 |_::_,[],p,A,h,k=>h.elim
theorem zgi {D:Nat->Type}{q:Nat->Prop}{A:AV D}(hA:A.ok q):∀ {cs:List (AV D)}{p:Nat},AV.oks q cs->AV.oks q (cs.set p A)
 |[],p,h=>h
 |c::cs,0,h=>⟨hA,h.2⟩
 |c::cs,p+1,h=>⟨h.1,zgi hA h.2⟩
theorem zpb {es:List ESh}{t:Nat}{w:World}{s:Sh}{p:Nat}{S:St C}{PV:List Priv}(h:zz κ S L b Z PV) (hi:Inv w0 σ0 Z PV w):∃ PV',Inv w0 σ0 Z PV' w/\zz κ (nilA1 es t s p S) L b Z PV':=by
 unfold nilA1;split
 ·rename_i k cs hc;split
  ·rename_i en hp hT;cases h0:isNone (S.heap (1048576+k)) with
   |false=>grind
   |true=>
    simp only [Uv];obtain ⟨ν,vs,ids,h⟩:=h;obtain ⟨ν',pv,h',e1,e2,e3⟩:=h.addRow (zbp hT) (Zi h0) (by have:=κ.le;omega);refine ⟨pv::PV,e3 hi,ν',_,_,⟨h'.nd,h'.dom,h'.pv,h'.cell,fun t'=>?_,h'.one⟩,fun t'=>?_,h'.livec,h'.keep⟩
    ·have hv:=h'.env t';show VR C Z ν' (look L b t') (upd S.env t _ t');by_cases e:t'=t
     ·subst e;rw [zl];have hv:VR C Z ν' (look L b t') (S.env t'):=hv;rw [hc] at hv;obtain ⟨us,hu,hr⟩:=hv;refine ⟨us,hu,hr.set fun v hv=>?_⟩;obtain ⟨u,hu1,hu2⟩:=hr.get p .nils hp;have e:=Option.some.inj (hu1.symm.trans hv);rw [<- e];show u=ν'.hdr _;rw [e1];exact hu2
     ·rw [zm e];exact hv
    ·have hl:=h'.live t';show (upd S.env t _ t').ok _;by_cases e:t'=t
     ·subst e;rw [zl];have hl:(S.env t').ok _:=hl;rw [hc] at hl
      exact zgi (by
       show ((upd S.heap (1048576+k) (some en)) (1048576+k)).isSome=true
       rw [zl];rfl) hl
     ·rw [zm e];exact hl
  grind
 grind
theorem zjp {es:List ESh}{t:Nat}{w:World}:∀ (l:List Sh) (p:Nat) {S:St C}{PV:List Priv},zz κ S L b Z PV->Inv w0 σ0 Z PV w->∃ PV',Inv w0 σ0 Z PV' w/\zz κ (nilA es t l p S) L b Z PV'
 |[],_,S,PV,h,hi=>⟨PV,hi,h⟩
 |s::l,p,S,PV,h,hi=>by
  obtain ⟨PV1,hi1,h1⟩:=zpb (es:=es) (t:=t) (s:=s) (p:=p) h hi;exact zjp l _ h1 hi1
theorem X2 {es:List ESh}{w:World}:∀ (ts:List (Nat×Sh)) {S:St C}{PV:List Priv},zz κ S L b Z PV->Inv w0 σ0 Z PV w->∃ PV',Inv w0 σ0 Z PV' w/\zz κ (nilT es ts S) L b Z PV'
 |[],S,PV,h,hi=>⟨PV,hi,h⟩
 |(t,s)::ts,S,PV,h,hi=>by
  unfold nilT;split
  ·rename_i k e;split
   ·rename_i en hT;cases h0:isNone (S.heap (1048576+k)) with
    |false=>simp only [G8];exact X2 ts h hi
    |true=>
     simp only [Uv];obtain ⟨ν,vs,ids,h⟩:=h;have hv:=h.env t;rw [e] at hv;have hv:look L b t = .slice none 0 0:=hv;rcases zbp hT with ⟨T,rfl⟩ | ⟨T,rfl⟩
     ·refine X2 (PV :=.row (zE C T).o T (.slice none 0 0) ⟨[],false⟩::PV) ts ?_ (hi.sub_own fun gg k =>.cons (h1:=zc.none) (.inl ⟨rfl,rfl⟩) k (zc.none_le _) (.refl _) (zc.none_disj _));exact (h.newRow (d:=t) (s:=⟨[],false⟩) (Zi h0) (by have:=κ.le;omega) (v :=.slice none 0 0) rfl).unput hv
     ·refine X2 (PV :=.row (Zh C T) T (.slice none 0 0) (hpl C T (default:Loc).sub ⟨[],false⟩ .all)::PV) ts ?_ (hi.sub_own fun gg k =>.cons (h1:=zc.none) (.inl ⟨rfl,zli⟩) k (zc.none_le _) (.refl _) (zc.none_disj _));exact (h.new (d:=t) (e :=.orow T ⟨[],false⟩ .all) (v :=.slice none 0 0) (a:=default) (us:=[]) (A :=.row (1048576+k)) (Zi h0) (by have:=κ.le;omega) (fun ν' h1 h2=>⟨by show _=ν'.hdr _;rw [h1];rfl,by show _=_;rfl⟩) rfl rfl (fun cs hc=>by cases hc) rfl).unput hv
   ·exact X2 ts h hi
  ·obtain ⟨PV',hi',h'⟩:=zjp (es:=es) (t:=t) _ 0 h hi;exact X2 ts h' hi'
  ·exact X2 ts h hi
theorem zqA {es:List ESh}{id:Nat}{w:World}{s:Sh}{p:Nat}{S:St C}{PV:List Priv}(h:zz κ S L b Z PV) (hi:Inv w0 σ0 Z PV w):∃ PV',Inv w0 σ0 Z PV' w/\zz κ (nil1 es id s p S) L b Z PV':=by
 unfold nil1;split
 ·rename_i k cs hc;split
  ·rename_i en hp hT;cases h0:isNone (S.heap (1048576+k)) with
   |false=>grind
   |true=>
    simp only [Uv];obtain ⟨ν,vs,ids,h⟩:=h;have hne:id≠1048576+k:=fun e=>by rw [e,Zi h0] at hc;cases hc
    obtain ⟨ν',pv,h',e1,e2,e3⟩:=h.addRow (zbp hT) (Zi h0) (by have:=κ.le;omega);have hc':(upd S.heap (1048576+k) (some en)) id=some (.cell cs):=by rw [zm hne];exact hc
    have hin:id∈ids:=(h.dom id).2 (by rw [hc];rfl);obtain ⟨m,hm⟩:=List.mem_iff_getElem?.1 hin;have hvs:=h'.cell id cs hc';have hlc:=h'.livec id cs hc';have hm':((1048576+k)::ids)[m+1]?=some id:=by simpa using hm
    have hs:=h'.setCell (m:=m+1) (cs':=cs.set p (.row (1048576+k))) (us:=upd vs (1048576+k) [] id) hc' hm' (hvs.set fun v hv=>by
     obtain ⟨u,hu1,hu2⟩:=hvs.get p .nils hp;have e:=Option.some.inj (hu1.symm.trans hv);rw [<- e];show u=ν'.hdr _
     rw [e1];exact hu2) (zgi (by
      show ((upd S.heap (1048576+k) (some en)) (1048576+k)).isSome=true
      rw [zl];rfl) hlc)
    refine ⟨pv::PV,e3 hi,_,_,_,hs.pvEq ?_⟩;have hpv:=h'.pv;refine GG fun j=>?_
    rw [GH];by_cases e:m+1=j
    ·subst e;have hm2:=congrArg (fun l=>l[m+1]?) hpv;simp only [GA,hm',GB] at hm2;rw [jr rfl,hm2,jr (GC.1 hm2).1];rw [hc'];rfl
    grind
  grind
 grind
theorem zjq {es:List ESh}{id:Nat}{w:World}:∀ (l:List Sh) (p:Nat) {S:St C}{PV:List Priv},zz κ S L b Z PV->Inv w0 σ0 Z PV w->∃ PV',Inv w0 σ0 Z PV' w/\zz κ (nilC es id l p S) L b Z PV'
 |[],p,S,PV,h,hi=>⟨PV,hi,h⟩
 |s::l,p,S,PV,h,hi=>by
  obtain ⟨PV1,hi1,h1⟩:=zqA (es:=es) (id:=id) (s:=s) (p:=p) h hi;exact zjq l _ h1 hi1
theorem zjr {all:List ESh}{bl:Bl}{w:World}:∀ (es:List ESh) (k:Nat) {S:St C}{PV:List Priv},zz κ S L b Z PV->Inv w0 σ0 Z PV w->∃ PV',Inv w0 σ0 Z PV' w/\zz κ (nilE all bl es k S) L b Z PV'
 |[],k,S,PV,h,hi=>⟨PV,hi,h⟩
 |e::es,k,S,PV,h,hi=>by
  have:∃ PV',Inv w0 σ0 Z PV' w/\zz κ (ze9 all bl e k S) L b Z PV':=by
   unfold ze9;split
   ·exact zjq _ 0 h hi
   grind
  obtain ⟨PV1,hi1,h1⟩:=this;exact zjr es _ h1 hi1
theorem zbq {g:Sig}{m:Nat}(h:zz κ S L b Z PV) {w:World}(hi:Inv w0 σ0 Z PV w):∃ Z' PV',Inv w0 σ0 Z' PV' w/\zz κ (g.prep m S) L b Z' PV':=by
 obtain ⟨σ1,PV1,hi1,h1⟩:=zc5 (fzT S g.ts) h hi;obtain ⟨PV2,hi2,h2⟩:=X2 (es:=g.es) g.ts h1 hi1;obtain ⟨PV3,hi3,h3⟩:=zjr (all:=g.es) g.es 0 h2 hi2;exact zc5 _ h3 hi3
theorem zqB {bl:Bl}{e:ESh}{k:Nat}{w:World}{S:St C}{PV:List Priv}(h:zz κ S L b Z PV) (hi:Inv w0 σ0 Z PV w):∃ PV',Inv w0 σ0 Z PV' w/\zz κ (zqx bl e k S) L b Z PV':=by
 unfold zqx;split
 ·rename_i id _;split
  ·rename_i T s hs;cases hn:Nat.blt (C.nst T) (C.size T) with
   |false=>grind
   |true=>
    simp only [Uv];obtain ⟨ν,vs,ids,h⟩:=h;obtain ⟨ids1,PV1,h1,hi1⟩:=h.front1 (w0:=w0) (σ0:=σ0) hs;obtain ⟨sub,hi2⟩:=zle (GZ ▸ hn) (hi1 w hi);exact ⟨_,hi2,_,_,_,h1.setO hs rfl⟩
  grind
 grind
theorem zjs {bl:Bl}{w:World}:∀ (es:List ESh) (k:Nat) {S:St C}{PV:List Priv},zz κ S L b Z PV->Inv w0 σ0 Z PV w->∃ PV',Inv w0 σ0 Z PV' w/\zz κ (zqy bl es k S) L b Z PV'
 |[],k,S,PV,h,hi=>⟨PV,hi,h⟩
 |e::es,k,S,PV,h,hi=>by
  obtain ⟨PV1,hi1,h1⟩:=zqB (bl:=bl) (e:=e) (k:=k) h hi;exact zjs es _ h1 hi1
theorem zcD {g:Sig}{x:g.ty C}(hc:g.close κ.m S=some x) (h:zz κ S L b Z PV) {w:World}(hi:Inv w0 σ0 Z PV w):∃ Z' PV',Inv w0 σ0 Z' PV' w/\zz κ (g.open x) L b Z' PV':=by
 obtain ⟨σ1,PV0,hi0,h0⟩:=zbq (g:=g) (m:=κ.m) h hi;obtain ⟨PV1,hi1,ν,vs,ids,h1⟩:=zjs (bl:=Zu g κ.m (g.prep κ.m S)) g.es 0 h0 hi0;obtain ⟨ν',vs',ids',PV',h2,h3⟩:=h1.rename (w0:=w0) (σ0:=σ0) hc;exact ⟨σ1,PV',h3 w hi1,ν',vs',ids',h2⟩
end
inductive XE (C:Cod) where
 |normal
 |exit (i:Nat)
 |ret
 |pan (v:AV C.D)
inductive XK where
 |normal
 |exit (i:Nat)
 |ret
 |pan (s:Sh)
inductive Hint where
 |loop (g:Sig) (outs:List (XK×Sig))
 |cut (outs:List (XK×Sig))
 |draw (ord:List (Nat×Bool)) (outs:List (XK×Sig))
def XK.shs:XK->Sig->List Sh
 | .pan s,g=>s::g.shs
 |_,g=>g.shs
abbrev XK.ty (C:Cod) (k:XK) (g:Sig):Type:=Sh.tys C (k.shs g)
def XK.is {C:Cod}:XK->XE C->Bool
 | .normal,.normal=>true
 | .exit i,.exit j=>Nat.beq i j
 | .ret,.ret=>true
 | .pan _,.pan _=>true
 |_,_=>false
def zi (C:Cod):List (XK×Sig)->Type
 |[]=>Empty
 |[o]=>XK.ty C o.1 o.2
 |o::o2::r=>XK.ty C o.1 o.2⊕zi C (o2::r)
section
variable {C:Cod}
def zfa (m:Nat) (k:XK) (g:Sig) (e:XE C) (S:St C):G3 (XK.ty C k g):=match k,e with
 | .pan s,.pan v=>(Sh.get (fun _=>none) s v).bind fun y=>(g.close m S).bind fun x=>some (Sh.pk (s:=s) (l:=g.shs) y x)
 | .normal,.normal=>g.close m S
 | .exit i,.exit j=>chk (Nat.beq i j) (g.close m S)
 | .ret,.ret=>g.close m S
 |_,_=>none
def yQ {α:Type}(k:XK) (g:Sig) (y:XK.ty C k g) (K:XE C->St C->α):α:=match k,y with
 | .pan s,y=>K (.pan (Sh.put (fun k=>k) s (Sh.hd (s:=s) (l:=g.shs) y))) (g.open (Sh.tl (s:=s) (l:=g.shs) y))
 | .normal,y=>K .normal (g.open y)
 | .exit i,y=>K (.exit i) (g.open y)
 | .ret,y=>K .ret (g.open y)
def zR (m:Nat):(outs:List (XK×Sig))->XE C->St C->G3 (zi C outs)
  |[],_,_=>none
  |[o],e,S=>zfa m o.1 o.2 e S
  |o :: o2::r,e,S=>bif XK.is o.1 e then (match zfa m o.1 o.2 e S with
     |some y=>some (.inl y)
     |none=>(zR m (o2::r) e S).map .inr) else (zR m (o2::r) e S).map .inr
def zQ {α:Type}:(outs:List (XK×Sig))->zi C outs->(XE C->St C->α)->α
 |[],y,_=>y.elim
 |[o],y,K=>yQ o.1 o.2 y K
 |o::o2::r,y,K=>match (y:XK.ty C o.1 o.2⊕zi C (o2::r)) with
  | .inl a=>yQ o.1 o.2 a K
  | .inr y=>zQ (o2::r) y K
end
abbrev yC (C:Cod):=Oper->St C->(ρ:Type)->(Out C->G3 ρ)->G3 ρ
abbrev Yh (C:Cod):=Array Oper->List (Nat×Bool)->(ρ:Type)->St C->(XE C->St C->G3 ρ)->G3 ρ
abbrev ZP:=∀ {s β:Type},(s->G3 (Step s β))->s->G3 β
def xv:Code->Nat
 | .seq a b=>xv a+xv b+1
 | .cond _ a b=>xv a+xv b+1
 | .block _ a=>xv a+1
 | .loop a=>xv a+1
 | .scope a=>xv a+1
 |_=>1
section
variable {C:Cod}{ρ:Type}
def ZD (stp:yC C) (n:Nat) (ops:Array Oper):List Oper->St C->(XE C->St C->G3 ρ)->G3 ρ
 |[],S,K=>K .normal S
 |o::r,S,K=>match o.guard with
  |none=>stp o S _ fun out=>match out with
   | .go S'=>ZD stp n ops r S' K
   | .pan v S'=>K (.pan v) S'
  |some (j,want)=>match (ops[j]?).bind (·.dst) with
   |none=>none
   |some dg=>match S.env dg with
    | .bool q=>if q=true then go o r (S.put dg (.bool true)) want K (fun S K=>ZD stp n ops r S K) else go o r (S.put dg (.bool false)) (!want) K (fun S K=>ZD stp n ops r S K)
    | .tup []=>skip o S K (fun S K=>ZD stp n ops r S K)
    |_=>none
where
 skip (o:Oper) (S:St C) (K:XE C->St C->G3 ρ) (next:St C->(XE C->St C->G3 ρ)->G3 ρ):G3 ρ:=match o.dst with
  |some d=>chk (Nat.blt d n) (next (S.put d (.tup [])) K)
  |none=>next S K
 go (o:Oper) (r:List Oper) (S:St C) (run:Bool) (K:XE C->St C->G3 ρ) (next:St C->(XE C->St C->G3 ρ)->G3 ρ):G3 ρ:=
  bif run then stp o S _ fun out=>match out with
   | .go S'=>next S' K
   | .pan v S'=>K (.pan v) S'
  else skip o S K next
def Zx {C:Cod}(stp:yC C) (dr:Yh C) (lp:ZP) (n m:Nat) (hs:Nat->G3 Hint):Code->Nat->(ρ:Type)->St C->(XE C->St C->G3 ρ)->G3 ρ
  | .skip,i,_,S,K=>wrap i S K fun _ S K=>K .normal S
  | .ret,i,_,S,K=>wrap i S K fun _ S K=>K .ret S
  | .exit j,i,_,S,K=>wrap i S K fun _ S K=>K (.exit j) S
  | .seq a b,i,_,S,K=>wrap i S K fun _ S K=>Zx stp dr lp n m hs a (i+1) _ S fun e S'=>match e with
    | .normal=>Zx stp dr lp n m hs b (i+1+xv a) _ S' K
    |e=>K e S'
  | .cond c a b,i,_,S,K=>wrap i S K fun _ S K=>match S.op c with
    | .bool q=>if q=true then Zx stp dr lp n m hs a (i+1) _ S K else Zx stp dr lp n m hs b (i+1+xv a) _ S K
    |_=>none
  | .block j a,i,_,S,K=>wrap i S K fun _ S K=>Zx stp dr lp n m hs a (i+1) _ S fun e S'=>match e with
    | .exit j'=>bif Nat.beq j' j then K .normal S' else K (.exit j') S'
    |e=>K e S'
  | .loop a,i,_,S,K=>match hs i with
    |some (.loop g outs)=>(g.close m S).bind fun x0=>
        (lp (fun x=>Zx stp dr lp n m hs a (i+1) _ (g.open x) fun e S'=>match e with
          | .normal=>(g.close m S').bind fun x'=>some (Step.next x')
          |e=>(zR m outs e S').bind fun y=>some (Step.done y)) x0).bind fun y=>zQ outs y K
    |_=>none
  | .scope a,i,_,S,K=>wrap i S K fun _ S K=>Zx stp dr lp n m hs a (i+1) _ S K
  | .label _,i,_,S,K=>wrap i S K fun _ S K=>K .normal S
  | .region _ ops false,i,_,S,K=>wrap i S K fun _ S K=>ZD stp n ops ops.toList S K
  | .region _ ops true,i,_,S,K=>match hs i with
    |some (.draw ord [])=>dr ops ord _ S K
    |some (.draw ord (o::outs))=>(dr ops ord _ S fun e S'=>zR m (o::outs) e S').bind fun y=>zQ (o::outs) y K
    |_=>none
  |_,_,_,_,_=>none
where
 wrap {ρ:Type} (i:Nat) (S:St C) (K:XE C->St C->G3 ρ) (raw:(ρ:Type)->St C->(XE C->St C->G3 ρ)->G3 ρ):G3 ρ:=match hs i with
  |some (.cut outs)=>(raw _ S fun e S'=>zR m outs e S').bind fun y=>zQ outs y K
  |_=>raw _ S K
end
variable [Dfr]
section
variable {κ:Kp}{C:Cod}{S:St C}{ν:Val}{vs:Nat->List Value}{ids:List Nat}{L:List (Nat×Value)}{b:Nat->Value}{Z:FS}{PV:List Priv}{P:Program}{ρ:Type}
variable {t t' ty:TypeId}{x y z:Operand}{d id:Nat}{pv:Priv}{ps:String}{af:Array Edge}{g:G3 (Nat×Bool)}{A:AV C.D}{n:Nat}{w0:Start}{σ0:FS}{o:Oper}{X:G3 (Out C)}
def wF {α:Type}(S:St C) (tx id T:Nat) (i:Int) (gid:Nat) (K:St C->G3 α):G3 α:=match S.heap id with
 |some (.orow T' s .all)=>chk (Nat.beq T T' && isNone (S.heap gid)) ((zd s i).bind fun q=>match Z1 C T' q with
  | .sl U u _=>K {env:=upd S.env tx (.row gid),heap:=upd (upd S.heap id (some (.orow T' s (.out i)))) gid (some (.row U u))}
  |_=>none)
 |_=>none
theorem zmu {α β:Type}{tx id T:Nat}{i:Int}{gid:Nat}{K:St C->G3 α}{k:α->G3 β}:(wF S tx id T i gid K).bind k=wF S tx id T i gid fun S'=>(K S').bind k:=by
 unfold wF;split
 ·rw [zw,ga];grind
 ·rfl
theorem zqC {α:Type}(h:AbsL κ S ν vs ids L b Z PV) {tx id T:Nat}{i:Int}{gid:Nat}{K:St C->G3 α}{r:α}(he:S.env tx = .nx id T i .whole) (h64:κ.m<=gid) (hX:wF S tx id T i gid K=some r) :
    ∃ S1 PV1,K S1=some r/\zz κ S1 L b Z PV1/\∀ w,Inv w0 σ0 Z PV w->Inv w0 σ0 Z PV1 w:=by
  unfold wF at hX;split at hX
  · rename_i T' s hs;obtain ⟨hc,hX⟩:=zb hX;simp only [g9] at hc;obtain rfl:=jz hc.1;have h0:=Zi hc.2;obtain ⟨q,hq,hX⟩:=jy hX;split at hX
    · rename_i U u c hu;have hv:=h.env tx;rw [he] at hv;have hv1:look L b tx=(ν.adr id).sub i.toNat:=hv.1;have hv2:(look L b tx).oneCell'=true:=hv.2;have hne:gid≠id:=fun e=>by grind
      obtain ⟨ids',PV',hf,hinv⟩:=h.front1 (w0:=w0) (σ0:=σ0) hs;have h1:=hf.setO0 (e' :=.orow T s (.out i)) hs (fun cs e=>by cases e);have h2:=h1.newRow (d:=tx) (id:=gid) (T:=U) (s:=u) (v:=(ν.adr id).sub i.toNat) (by show upd S.heap id _ gid=none;rw [zm hne];exact h0) h64 (by grind);refine ⟨_,_,hX,h2.unput hv1,fun w hi=>(hinv w hi).sub_own fun gg kk=>?_⟩;obtain ⟨f1,f2,m1,m2,n1,n2,dd⟩:=kk.uncons;exact Sep.append (A:=[_,_]) (zjj (m1:zo (Zh C T) T (ν.hdr id) (hpl C T (ν.adr id).sub s .all) Z f1) hq hu) m2 n1 n2 dd
    ·cases hX
  ·cases hX
theorem OpA.via {S1:St C}{PV1:List Priv}(hA:zz κ S1 L b Z PV1) (hi:∀ w,Inv w0 σ0 Z PV w->Inv w0 σ0 Z PV1 w) (k:∀ ν vs ids,AbsL κ S1 ν vs ids L b Z PV1->OpA κ P n w0 σ0 o X L b Z PV1):OpA κ P n w0 σ0 o X L b Z PV:=by
 obtain ⟨ν,vs,ids,h⟩:=hA;exact OpA.pv hi (k ν vs ids h)
def wG (P:Program) (S:St C) (d:Nat) (t:TypeId) (x y:Operand):G3 (Out C):=match x with
 | .tmp tx=>(match S.env tx with
  | .nx id T i .whole=>wF S tx id T i (nid d 1) fun S1=>yJ P S1 d t x y
  |_=>none)
 |_=>none
theorem zpc (h:AbsL κ S ν vs ids L b Z PV) (hn:Nat.blt d n=true):OpA κ P n w0 σ0 ⟨some d,.call {callee :=.builtin .append,args:= #[x,y],argTypes:= #[t,t]},ty,ps,af,g⟩ (wG P S d t x y) L b Z PV:=by
 intro out hX;unfold wG at hX;split at hX
 ·rename_i tx;split at hX
  ·rename_i id T i he;obtain ⟨S1,PV1,h1,h2,h3⟩:=zqC (w0:=w0) (σ0:=σ0) h he (Yx κ d 1) hX;exact OpA.via h2 h3 (fun ν vs ids h=>zdK h hn) out h1
  ·cases hX
 ·cases hX
theorem AbsL.newO (h:AbsL κ S ν vs ids L b Z PV) {id T:Nat}(h0:S.heap id=none) (h64:κ.m<=id) {s:Sl (C.D T)}{gw:Own}{v:Value}{sub:Nat->Value}(hone:v.oneCell'=true) :
    zz κ {env:=upd S.env d (.row id),heap:=upd S.heap id (some (.orow T s gw))} ((d,v)::L) b Z (.row (Zh C T) T v (hpl C T sub s gw)::PV):=
  h.new h0 h64 (e :=.orow T s gw) (v:=v) (a:=⟨default,sub⟩) (us:=[]) (A :=.row id) (fun ν' h1 h2=>⟨by show v=ν'.hdr id;rw [h1];rfl,by show id=id;rfl⟩) hone rfl (fun cs hc=>by cases hc) rfl
theorem vX {α:Type}{T:OTy α}{e:TypeId}{s:Sl α}{v:Value}{PV:List Priv}{w:World}(hi:Inv w0 σ0 Z (.row T e v s::PV) w):v.oneCell'=true:=by
 obtain ⟨hh,hr,_⟩:=hi.held.get (m:=0) rfl;obtain ⟨q,c,rfl,_⟩:=zo.form hr;rfl
def Xf (P:Program) (S:St C) (d:Nat) (t:TypeId) (y:Operand) (K:Out C->G3 ρ):G3 ρ:=match P.underlying t with
 |some (.slice e)=>(match P.info? e with
  |some ti=>(match ti.zero with
   |some zv=>chk (Nat.beq ti.size (C.size e) && (Nat.blt 0 (C.size e) && (Nat.ble (C.size e) 16777216 && (isNone (S.heap (nid d 0)) && (Yw (S.op y) && Nat.beq (zq (S.op y)).length (C.size e))))))
    (match (zq (S.op y))[C.nst e]? with
    |some (.row id2)=>(match S.heap id2 with
     |some (.row U u)=>(C.imp e ((zq (S.op y)).set (C.nst e) (.sl U u false))).bind fun q=>K (.go {env:=upd (S.sub id2 .und).env d (.row (nid d 0)),heap:=upd (S.sub id2 .und).heap (nid d 0) (some (.orow e ⟨[q],true⟩ .all))})
     |_=>none)
    |_=>none)
   |none=>none)
  |none=>none)
 |_=>none
def xw (P:Program) (S:St C) (d:Nat) (t:TypeId) (y:Operand):G3 (Out C):=Xf P S d t y some
theorem zjt {K:Out C->G3 ρ}:Xf P S d t y K=(xw P S d t y).bind K:=by
 unfold xw Xf;split
 ·split
  ·split
   ·rw [zw];congr 1;grind
   ·rfl
  ·rfl
 ·rfl
theorem zqD {T U:Nat}{gA:zc}{us:List Value}{q:C.D T}{v:Value}{cells:List (AV C.D)}{u:Sl (C.D U)}(hus:VRs C Z ν us cells) (hone:∀ u∈us,u.oneCell'=true) (hl:us.length=C.size T)
    (hq:C.imp T (cells.set (C.nst T) (.sl U u false))=some q) (hv:us[C.nst T]?=some v) (hrow:zo (zE C U).o U v u Z gA):yP C T Z gA us (q,1,v):=by
  have hlen:=hus.len;have hlt:=(GC.1 hv).1;refine ⟨hl,hone,fun j A hj hn=>?_,hv,fun e=>(by cases e),fun _=>⟨U,u,?_,hrow⟩⟩
  ·obtain ⟨B,e1,e2⟩:=zbm (C.imp_ok T _ q hq) hj;rw [GH,js (fun e=>hn e.symm)] at e1;obtain ⟨w,k1,k2⟩:=hus.get _ _ e1;exact ⟨w,k1,(zeO k2 e2).rv (C.base T q A (GS hj))⟩
  ·show Z1 C T q=_;unfold Z1;rw [ze3 hq (j:=C.nst T) (A :=.sl U u false) (by grind) rfl];rfl
theorem zkN (h:AbsL κ S ν vs ids L b Z PV) (hn:Nat.blt d n=true) {parts:Array (Nat×Operand)}(hp:parts.toList=[(0,y)]):OpA κ P n w0 σ0 ⟨some d,.buildSlice t 1 parts,ty,ps,af,g⟩ (xw P S d t y) L b Z PV:=by
 intro out hX;unfold xw Xf at hX;split at hX
 ·rename_i e hu;split at hX
  ·rename_i ti hi;split at hX
   ·rename_i zv hz;obtain ⟨hc,hX2⟩:=zb hX;simp only [g9] at hc;obtain ⟨c1,c2,c3,c4,c5,c6⟩:=hc;have h0:=Zi c4;have c6:=jz c6;split at hX2
    ·rename_i id2 hid2;split at hX2
     ·rename_i U u h2;obtain ⟨q,hq,hX3⟩:=jy hX2;obtain ⟨hus,hone⟩:=Zy (h.op y) c5 h.one;have hlen:=hus.len;obtain ⟨v2,hv1,hv2⟩:=hus.get _ _ hid2;have hv2:v2=ν.hdr id2:=hv2;subst hv2;obtain ⟨ids',PV',hf,hinv⟩:=h.front1 (w0:=w0) (σ0:=σ0) h2;refine OpA.pv hinv ?_ out hX3;refine OpA.of2 (WR (T:=Zh C e) (vs:=[opv L b y]) (xs:=[(q,1,ν.hdr id2)]) [.row (zE C U).o U (ν.hdr id2) u] PV' hn hu hi hz (jz c1) (by rw [Nat.one_mul];exact c3) c2 (by rw [hp];rfl) rfl (fun hh sA=>?_) fun v hw r hr=>⟨_,(Option.some.inj hr).symm,?_⟩)
      ·refine ⟨hh,.refl _,?_,rfl,fun w hw=>?_⟩
       ·have hr:=zqD (T:=e) hus hone (by rw [hlen,c6]) hq hv1 (sA.one_of:zo (zE C U).o U (ν.hdr id2) u Z hh);have:yN [opv L b y]=(opv L b y).cells.toList:=by simp [yN]
        rw [this];exact OTy.rels_single (T:=Zh C e) hr
       ·rw [Uw.1 hw];show (opv L b y).cells.size=C.size e;grind
      ·obtain ⟨w,hw⟩:=hw;have h1:=hf.sub (id:=id2) (m:=0) (R :=.und) rfl (FS.le.refl Z) trivial trivial rfl
       exact AbsL.newO (S:=S.sub id2 .und) (T:=e) (s:=⟨[q],true⟩) (gw :=.all) (sub:=fun _=>ν.hdr id2) h1 (by
        show (bif Nat.beq (nid d 0) id2 then none else (S.heap (nid d 0)).map _)=none
        grind) (Yx κ d 0) (vX hw)
     ·cases hX2
    ·cases hX2
   ·cases hX
  ·cases hX
 ·cases hX
theorem ztU {T:Nat}{s1 s2:Sl (C.D T)}{sub1 sub2:Nat->Value}{nn:Bool}:(⟨(hpl C T sub1 s1 .all).xs++(hpl C T sub2 s2 .all).xs,nn⟩:Sl (C.D T×Nat×Value))=hpl C T (fun j=>if j < s1.xs.length then sub1 j else sub2 (j - s1.xs.length)) ⟨s1.xs++s2.xs,nn⟩ .all:=by
 unfold hpl;congr 1;apply GG;intro j;rw [Ur];by_cases hj:j < s1.xs.length
 ·rw [Ud (by simpa using hj),Ud hj,Ur];grind
 ·rw [Uc (by simpa using hj),Uc (by omega),Ur];simp only [List.length_mapIdx];cases s2.xs[j - s1.xs.length]? with
  |none=>rfl
  |some a=>simp [hj,Own.fl]
theorem zju {T bytes:Nat}{s1 s2 s':Sl (C.D T)}{sub1 sub2:Nat->Value}(h:zp bytes s1 s2.xs=some s'):∃ sub,zp bytes (hpl C T sub1 s1 .all) (hpl C T sub2 s2 .all).xs=some (hpl C T sub s' .all):=by
 obtain ⟨h1,h2,rfl⟩:=zgF h;refine ⟨fun j=>if j < s1.xs.length then sub1 j else sub2 (j - s1.xs.length),?_⟩;unfold zp;rw [jr (by simp only [wY];grind)];rw [show (hpl C T sub1 s1 .all).nn=s1.nn from rfl,show (hpl C T sub2 s2 .all).xs.isEmpty=s2.xs.isEmpty by cases h:s2.xs <;> simp [hpl,h]];rw [ztU]
def Wf (P:Program) (S:St C) (d:Nat) (t:TypeId) (x y:Operand) (K:Out C->G3 ρ):G3 ρ:=match P.underlying t with
 |some (.slice e)=>(match P.info? e with
  |some ti=>(match ti.zero with
   |some zv=>chk (Nat.beq ti.size (C.size e) && (Nat.blt 0 (C.size e) && (Nat.beq zv.cells.size (C.size e) && isNone (S.heap (nid d 0)))))
    (match S.op y with
    | .row id2=>(match S.heap id2 with
     |some (.orow T2 s2 .all)=>(match S.op x with
      | .row id=>(match S.heap id with
       |some (.orow T s .all)=>chk (Nat.beq T e && !Nat.beq id id2) ((WI s2).bind fun ts=>(zp ti.bytes s ts).bind fun s'=>K (.go {env:=upd ((S.sub id .und).sub id2 .und).env d (.row (nid d 0)),heap:=upd ((S.sub id .und).sub id2 .und).heap (nid d 0) (some (.orow T s' .all))}))
       |_=>none)
      | .nils=>(WI (T:=e) s2).bind fun ts=>(zp ti.bytes ⟨[],false⟩ ts).bind fun s'=>K (.go {env:=upd (S.sub id2 .und).env d (.row (nid d 0)),heap:=upd (S.sub id2 .und).heap (nid d 0) (some (.orow e s' .all))})
      |_=>none)
     |_=>none)
    |_=>none)
   |none=>none)
  |none=>none)
 |_=>none
def wH (P:Program) (S:St C) (d:Nat) (t:TypeId) (x y:Operand):G3 (Out C):=Wf P S d t x y some
theorem zmv {K:Out C->G3 ρ}:Wf P S d t x y K=(wH P S d t x y).bind K:=by
 unfold wH Wf;split
 ·split
  ·split
   ·rw [zw];congr 1;split
    ·split
     ·split
      ·split
       ·simp only [zw,ga,jf]
       ·rfl
      all_goals grind
     ·rfl
    ·rfl
   ·rfl
  ·rfl
 ·rfl
theorem zem {id j:Nat}{R:AV C.D}(h:S.heap j=none):(S.sub id R).heap j=none:=by
 show (bif Nat.beq j id then none else (S.heap j).map _)=none;grind
theorem zpd (h:AbsL κ S ν vs ids L b Z PV) (hn:Nat.blt d n=true):OpA κ P n w0 σ0 ⟨some d,.call {callee :=.builtin .append,args:= #[x,y],argTypes:= #[t,t]},ty,ps,af,g⟩ (wH P S d t x y) L b Z PV:=by
 intro out hX;unfold wH Wf at hX;split at hX
 ·rename_i e hu;split at hX
  ·rename_i ti hi;split at hX
   ·rename_i zv hz;obtain ⟨hc,hX2⟩:=zb hX;simp only [g9] at hc;obtain ⟨c1,c2,c3,c4⟩:=hc;have h0:=Zi c4;have hx:=h.op x;have hy:=h.op y;split at hX2
    ·rename_i id2 ey;rw [ey] at hy;have hy:opv L b y=ν.hdr id2:=hy;split at hX2
     ·rename_i T2 s2 hs2;split at hX2
      ·rename_i id ex;rw [ex] at hx;have hx:opv L b x=ν.hdr id:=hx;split at hX2
       ·rename_i T s hs;obtain ⟨hc2,hX3⟩:=zb hX2;simp only [g9] at hc2;obtain rfl:=jz hc2.1;have hne:id≠id2:=fun e=>by subst e;simp at hc2
        obtain ⟨ts,hts,hX4⟩:=jy hX3;obtain ⟨s',hs',hX5⟩:=jy hX4;unfold WI at hts;split at hts
        ·rename_i hT;subst hT;cases hts;obtain ⟨ids',PV',hf,hinv⟩:=h.front2 (w0:=w0) (σ0:=σ0) hne hs hs2;obtain ⟨sub',hg⟩:=zju (sub1:=(ν.adr id).sub) (sub2:=(ν.adr id2).sub) hs';refine OpA.pv hinv ?_ out hX5;have key:=Vs (ρ:=Out C) (P:=P) (n:=n) (w0:=w0) (σ0:=σ0) (Z:=Z) (L:=L) (b:=b) (ty:=ty) (ps:=ps) (af:=af) (g:=g) (d:=d) (T:=Zh C T2) (s:=hpl C T2 (ν.adr id).sub s .all) (ts:=(hpl C T2 (ν.adr id2).sub s2 .all).xs) (v:=ν.hdr id) (u:=opv L b y) (kk:=fun _=>some out) (H:=fun p' L' Z' PV'=>(∃ w,Inv w0 σ0 Z' PV' w)->∀ r,p'=some r->∃ S',r = .go S'/\zz κ S' L' b Z' PV') [.row (Zh C T2) T2 (ν.hdr id2) (hpl C T2 (ν.adr id2).sub s2 .all)] PV' hn hu hi hz (jz c3) (jz c1) c2 hx rfl (fun w gg hw sA hgs=>by rw [hy];exact zdI w gg hw sA hgs) fun s'' v' hs'' hw r hr=>?_
         ·rw [hg] at key;have:=OpA.of2 key;rw [hX5];exact this
         ·rw [hg] at hs'';cases hs'';cases hX5;cases hr;obtain ⟨w,hw⟩:=hw;have h1:=hf.sub (id:=id) (m:=0) (R :=.und) rfl (FS.le.refl Z) trivial trivial rfl;have h2:=AbsL.sub (S:=S.sub id .und) h1 (id:=id2) (m:=0) (R :=.und) rfl (FS.le.refl Z) trivial trivial rfl;exact ⟨_,rfl,AbsL.newO (S:=(S.sub id .und).sub id2 .und) (T:=T2) h2 (zem (S:=S.sub id .und) (zem h0)) (Yx κ d 0) (vX hw)⟩
        ·cases hts
       ·cases hX2
      ·rename_i ex;rw [ex] at hx;have hx:opv L b x = .slice none 0 0:=hx;obtain ⟨ts,hts,hX4⟩:=jy hX2;obtain ⟨s',hs',hX5⟩:=jy hX4;unfold WI at hts;split at hts
       ·rename_i hT;subst hT;cases hts;obtain ⟨ids',PV',hf,hinv⟩:=h.front1 (w0:=w0) (σ0:=σ0) hs2;obtain ⟨sub',hg⟩:=zju (s1:=⟨[],false⟩) (sub1:=(ν.adr id2).sub) (sub2:=(ν.adr id2).sub) hs';have hinv2:∀ w,Inv w0 σ0 Z PV w->Inv w0 σ0 Z (.row (Zh C T2) T2 (.slice none 0 0) (hpl C T2 (ν.adr id2).sub ⟨[],false⟩ .all) :: .row (Zh C T2) T2 (ν.hdr id2) (hpl C T2 (ν.adr id2).sub s2 .all)::PV') w:=fun w hi=>(hinv w hi).sub_own fun gg k =>.cons (h1:=zc.none) (.inl ⟨rfl,rfl⟩) k (zc.none_le _) (.refl _) (zc.none_disj _)
        refine OpA.pv hinv2 ?_ out hX5;have key:=Vs (ρ:=Out C) (P:=P) (n:=n) (w0:=w0) (σ0:=σ0) (Z:=Z) (L:=L) (b:=b) (ty:=ty) (ps:=ps) (af:=af) (g:=g) (d:=d) (T:=Zh C T2) (s:=hpl C T2 (ν.adr id2).sub ⟨[],false⟩ .all) (ts:=(hpl C T2 (ν.adr id2).sub s2 .all).xs) (v :=.slice none 0 0) (u:=opv L b y) (kk:=fun _=>some out) (H:=fun p' L' Z' PV'=>(∃ w,Inv w0 σ0 Z' PV' w)->∀ r,p'=some r->∃ S',r = .go S'/\zz κ S' L' b Z' PV') [.row (Zh C T2) T2 (ν.hdr id2) (hpl C T2 (ν.adr id2).sub s2 .all)] PV' hn hu hi hz (jz c3) (jz c1) c2 hx rfl (fun w gg hw sA hgs=>by rw [hy];exact zdI w gg hw sA hgs) fun s'' v' hs'' hw r hr=>?_
        ·rw [hg] at key;have:=OpA.of2 key;grind
        ·rw [hg] at hs'';cases hs'';cases hX5;cases hr;obtain ⟨w,hw⟩:=hw;have h1:=hf.sub (id:=id2) (m:=0) (R :=.und) rfl (FS.le.refl Z) trivial trivial rfl;exact ⟨_,rfl,AbsL.newO (S:=S.sub id2 .und) (T:=T2) h1 (zem h0) (Yx κ d 0) (vX hw)⟩
       ·cases hts
      ·cases hX2
     ·cases hX2
    ·cases hX2
   ·cases hX
  ·cases hX
 ·cases hX
end
variable [Dfr]
section
variable {ρ:Type}{n:Nat}{w0:Start}{σ0 Z:FS}{p:G3 ρ}{L:List (Nat×Value)}{b:Nat->Value}{PV PV':List Priv}{P:Program}
variable {H:G3 ρ->List (Nat×Value)->FS->List Priv->Prop}{d:Nat}{v:Value}{t ty:TypeId}{ps:String}{af:Array Edge}{g:G3 (Nat×Bool)}{x:Operand}
end
section
variable {κ:Kp}{C:Cod}{S:St C}{ν:Val}{vs:Nat->List Value}{ids:List Nat}{L:List (Nat×Value)}{b:Nat->Value}{Z:FS}{PV:List Priv}{P:Program}{ρ:Type}
variable {t t' ty:TypeId}{x y z:Operand}{d id:Nat}{pv:Priv}{ps:String}{af:Array Edge}{g:G3 (Nat×Bool)}{A:AV C.D}{n:Nat}{w0:Start}{σ0:FS}{o:Oper}{X:G3 (Out C)}
def zcE {D:Nat->Type}:List (AV D)->Nat->Bool
 |cs,k=>match cs[k]? with
  |some (.row _)=>true
  |_=>false
def isO (S:St C) (x:Operand):Bool:=match S.op x with
 | .row id=>(match S.heap id with
  |some (.orow _ _ _)=>true
  |_=>false)
 |_=>false
def zen (S:St C) (x:Operand):Bool:=match S.op x with
 | .nx _ _ _ _=>true
 |_=>false
def zeo (S:St C) (x y:Operand):Bool:=match S.op x with
 | .pr id T i off=>(match S.heap id with
  |some (.orow _ _ _)=>true
  |some (.row T' _)=>C.own T' && (Nat.ble off (C.nst T') && zcE (zq (S.op y)) (C.nst T' - off))
  |_=>false)
 | .nx _ _ _ _=>true
 |_=>false
def we (P:Program) (t:TypeId):Nat:=match P.underlying t with
 |some (.slice e)=>e
 |_=>0
inductive KN where
 |st (t:TypeId) (x y:Operand)
 |apn (d:Nat) (t t':TypeId) (x y:Operand)
 |apo (d:Nat) (t t':TypeId) (x y:Operand)
 |bl (d:Nat) (t:TypeId) (i m:Nat) (y:Operand)
def YU (P:Program) (S:St C):G3 Nat->Op->G3 KN
 |none,.store t x y=>bif zeo S x y then some (.st t x y) else none
 |some d,.call ⟨.builtin .append,args,ts⟩=>(match args.toList,ts.toList with
  |[x,y],[t,t']=>bif zen S x then some (.apn d t t' x y) else bif isO S y then some (.apo d t t' x y) else none
  |_,_=>none)
 |some d,.buildSlice t m parts=>(match parts.toList with
  |[(i,y)]=>bif C.own (we P t) && zcE (zq (S.op y)) (C.nst (we P t)) then some (.bl d t i m y) else none
  |_=>none)
 |_,_=>none
def vY (P:Program) (S:St C):KN->G3 (Out C)
 | .st t x y=>xu P S t x y
 | .apn d t t' x y=>chk (Nat.beq t t') (wG P S d t x y)
 | .apo d t t' x y=>chk (Nat.beq t t') (wH P S d t x y)
 | .bl d t i m y=>chk (Nat.beq i 0 && Nat.beq m 1) (xw P S d t y)
theorem zuV (h:AbsL κ S ν vs ids L b Z PV) {dst:G3 Nat}{op:Op}(hn:∀ d,dst=some d->Nat.blt d n=true) {k:KN}(hX:YU P S dst op=some k):OpA κ P n w0 σ0 ⟨dst,op,ty,ps,af,g⟩ (vY P S k) L b Z PV:=by
 unfold YU at hX;split at hX
 ·rename_i t x y;cases hc:zeo S x y with
  |false=>grind
  |true=>rw [hc] at hX;cases hX;exact zkM h
 ·rename_i d args ts;split at hX
  ·rename_i x y t t' e1 e2;cases hc:zen S x with
   |true=>
    rw [hc] at hX;cases hX;intro out hX;obtain ⟨hk,hX2⟩:=zb hX;obtain rfl:=jz hk;rw [zcg e1,zcg e2];exact zpc h (hn d rfl) out hX2
   |false=>
    rw [hc,G8] at hX;cases hc2:isO S y with
    |false=>grind
    |true=>
     rw [hc2] at hX;cases hX;intro out hX;obtain ⟨hk,hX2⟩:=zb hX;obtain rfl:=jz hk;rw [zcg e1,zcg e2];exact zpd h (hn d rfl) out hX2
  ·cases hX
 ·rename_i d t m parts;split at hX
  ·rename_i i y e1;cases hc:(C.own (we P t) && zcE (zq (S.op y)) (C.nst (we P t))) with
   |false=>grind
   |true=>
    rw [hc] at hX;cases hX;intro out hX;obtain ⟨hk,hX2⟩:=zb hX;simp only [g9] at hk;obtain rfl:=jz hk.1;obtain rfl:=jz hk.2;exact zkN h (hn d rfl) e1 out hX2
  ·cases hX
 ·cases hX
end
end
end Go.Px
