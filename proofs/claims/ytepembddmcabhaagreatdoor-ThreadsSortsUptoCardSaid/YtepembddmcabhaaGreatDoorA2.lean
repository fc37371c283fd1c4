/- Part A2: PxC6 PxC7 PxCA PxCB PxCV PxCW. -/
import Derived.Test.YtepembddmcabhaaGreatDoorA1
import Derived.Laws.StructEq
import Derived.Laws.Pointers
namespace Go.Px
set_option linter.unusedSectionVars false
variable [Dfr]
set_option linter.unusedVariables false
omit [Dfr] in
theorem OTy.rels_append {α:Type}{T:OTy α}{σ:FS}{g g2:zd}{cs ds:List Value}{xs ys:List α}(r:T.rels σ g cs xs) (s:T.rels σ g2 ds ys) (dd:g.disj g2):T.rels σ (g.or g2) (cs++ds) (xs++ys):=by
 obtain ⟨h1,hs,h2,h3,h4⟩:=r
 obtain ⟨k1,ks,k2,k3,k4⟩:=s
 refine ⟨by simp [h1,k1,Nat.add_mul],fun i=>if i < xs.length then hs i else ks (i - xs.length),fun i x hx=>?_,fun i j hij=>?_,fun i=>?_⟩
 ·by_cases hi:i < xs.length
  ·rw [List.getElem?_append_left hi] at hx
   have hm:(i+1) * T.size≤xs.length * T.size:=Nat.mul_le_mul_right _ hi
   rw [Nat.add_mul] at hm
   simp only [hi,if_true]
   rw [List.drop_append_of_le_length (by omega),List.take_append_of_le_length (by simp;omega)]
   exact h2 i x hx
  ·rw [List.getElem?_append_right (by omega)] at hx
   simp only [hi,if_false]
   have:=k2 _ x hx
   have he:i * T.size=cs.length+(i - xs.length) * T.size:=by rw [h1,← Nat.add_mul];congr 1;omega
   rw [he,← List.drop_drop,List.drop_left];exact this
 ·show zd.disj (if i < xs.length then hs i else ks (i - xs.length)) (if j < xs.length then hs j else ks (j - xs.length))
  split <;> split
  ·exact h3 i j hij
  ·exact dd.mono (h4 i) (k4 _)
  ·exact (dd.mono (h4 j) (k4 _)).symm
  ·exact k3 _ _ (by omega)
 ·show zd.le (if i < xs.length then hs i else ks (i - xs.length)) _
  split
  ·exact (h4 i).trans (zd.le_or _ _)
  ·exact (k4 _).trans (zd.le_or_right dd)
omit [Dfr] in
theorem OTy.rels_take {α:Type}{T:OTy α}{σ:FS}{g:zd}{cs:List Value}{xs:List α}(m:Nat) (r:T.rels σ g cs xs):T.rels σ g (cs.take (m * T.size)) (xs.take m):=by
  obtain ⟨h1,hs,h2,h3,h4⟩:=r
  refine ⟨by rw [List.length_take,List.length_take,h1];rcases Nat.le_total m xs.length with h | h
             · rw [Nat.min_eq_left h,Nat.min_eq_left (Nat.mul_le_mul_right _ h)]
             · rw [Nat.min_eq_right h,Nat.min_eq_right (Nat.mul_le_mul_right _ h)],hs,fun i x hx=>?_,h3,h4⟩
  rw [List.getElem?_take] at hx
  split at hx
  · rename_i hi
    have hm:(i+1) * T.size≤m * T.size:=Nat.mul_le_mul_right _ hi
    rw [Nat.add_mul] at hm
    rw [List.drop_take,List.take_take,Nat.min_eq_left (by omega)];exact h2 i x hx
  · cases hx
omit [Dfr] in
theorem OTy.rels_replicate {α:Type}{T:OTy α}{σ:FS}{c:List Value}{q:α}(h:T.rel σ zd.none c q) (m:Nat):T.rels σ zd.none ((List.replicate m c).flatten) (List.replicate m q):=by
 have hl:=T.len h
 refine ⟨by simp [hl],fun _=>zd.none,fun i x hx=>?_,fun _ _ _=>zd.none_disj _,fun _ =>.refl _⟩
 obtain ⟨hi,rfl⟩:i < m∧q=x:=by
  rw [List.getElem?_replicate] at hx
  split at hx
  ·cases hx;exact ⟨by assumption,rfl⟩
  ·cases hx
 have:(((List.replicate m c).flatten).drop (i * T.size)).take T.size=c:=by
  obtain ⟨r,rfl⟩:∃ r,m=i+1+r:=⟨m - (i+1),by omega⟩
  have e1:((List.replicate i c).flatten).length=i * T.size:=by simp [hl]
  rw [← List.replicate_append_replicate,← List.replicate_append_replicate,List.flatten_append,List.flatten_append,List.append_assoc,← e1,List.drop_left]
  simp only [List.replicate_one,List.flatten_cons,List.flatten_nil,List.append_nil]
  rw [← hl,List.take_left]
 rw [this];exact h
omit [Dfr] in
theorem znz {w:World}{h:zd}{q:Nat}{e:TypeId}{cur:List Value}(hs:h.sub w) (h0:h q 0=some (.shape e cur.length)) (hc:∀ (j:Nat) (u:Value),cur[j]?=some u→h q (j+1)=some (.cell u)):w.heap[q]?=some (.cells cur.toArray e (0,0)):=by
 obtain ⟨c,h1,_,h3⟩:=hs _ _ _ h0
 have:c=cur.toArray:=by
  apply Array.ext_getElem?
  intro o
  cases hu:cur[o]? with
  |none=>
   have:=List.getElem?_eq_none_iff.1 hu
   rw [Array.getElem?_eq_none (by omega),List.getElem?_toArray,hu]
  |some u=>
   obtain ⟨c',e',o',k1,k2,k3⟩:=hs _ _ _ (hc o u hu)
   rw [h1] at k1;cases k1
   obtain rfl:o=o':=by omega
   rw [k3,List.getElem?_toArray,hu]
 rw [h1,this]
section
variable {ρ:Type}{n:Nat}{w0:Start}{w:World}{σ0 σ:FS}{p:Option ρ}{G:ρ→Act→World→Prop}{L:List (Nat×Value)}{b:Nat→Value}{PV PV':List Priv}
variable {P:Program}{ops:Array Oper}{o:Oper}{rest:List Oper}
variable {H:Option ρ→List (Nat×Value)→FS→List Priv→Prop}{d:Nat}{v:Value}{t t' ty:TypeId}{ps:String}{af:Array Edge}{g:Option (Nat×Bool)}
variable {x y z:Operand}{k:IntKind}{i j:Int}
omit [Dfr] in
theorem Inv.replace {R:World→List Priv→Prop}{A C:List Priv}(hi:Inv w0 σ0 σ (A++C) w)
    (hw:∀ hA,Sep σ A hA→hA.sub w→∃ w' A' hA',R w' A'∧Sep σ A' hA'∧hA'.sub w'∧Ext w hA w'∧∀ b i,(hA' b i).isSome→(hA b i).isSome∨w.heap.size≤b):∃ w' A',R w' A'∧Inv w0 σ0 σ (A'++C) w':=by
  obtain ⟨h,hs,hg⟩:=hi.own
  obtain ⟨h1,h2,s1,s2,e2,e3,e4⟩:=hs.split
  obtain ⟨w',A',h1',hR,f1,f2,f3,f4⟩:=hw h1 s1 (hg.sub.mono e2)
  have hd:h1'.disj h2:=by
    intro b i
    cases hx:h1' b i with
    |none=>exact .inl rfl
    |some x=>
      right
      rcases f4 b i (by simp [hx]) with q | q
      · rcases e4 b i with z | z
        · rw [z] at q;cases q
        · exact z
      · cases hy:h2 b i with
        |none=>rfl
        |some y=>have:=Bit.at_lt (hg.sub b i y (e3 b i y hy));omega
  have g1:=hg.mono e2
  have hmine:∀ b i,b < w0.w.heap.size→(h1 b i).isSome→(w0.h b i).isSome:=fun b i hb hx=>by
    rcases g1.mine b i hx with q | q
    · omega
    · exact q
  refine ⟨w',A',hR,f3.held g1.apart hi.sub,hi.le,hi.fresh,⟨h1'.or h2,f1.append s2 (zd.le_or _ _) (zd.le_or_right hd) hd,zd.or_sub f2 (f3.frag e4 (hg.sub.mono e3)),fun b o hx=>?_,fun b i hx=>?_⟩,hi.ext.trans f3 hmine⟩
  all_goals
    unfold zd.or at hx
  · cases hx1:h1' b (o+1) with
    |some y=>
      rcases f4 b (o+1) (by simp [hx1]) with q | q
      · exact g1.apart b o q
      · cases hy:σ b o with
        |none=>rfl
        |some v=>have:=hi.lt hy;omega
    |none=>rw [hx1] at hx;exact (hg.mono e3).apart b o (by simpa using hx)
  · cases hx1:h1' b i with
    |some y=>
      rcases f4 b i (by simp [hx1]) with q | q
      · exact g1.mine b i q
      · exact .inl (Nat.le_trans hi.ext.size q)
    |none=>rw [hx1] at hx;exact (hg.mono e3).mine b i (by simpa using hx)
omit [Dfr] in
theorem zaF (z:Array Value) (m:Nat) (hz:0 < z.size):(madeCells z (m * z.size)).toList=(List.replicate m z.toList).flatten:=by
 apply List.ext_getElem?
 intro q
 have hl:(List.replicate m z.toList).flatten.length=m * z.size:=by simp
 by_cases hq:q < m * z.size
 ·have h1:(madeCells z (m * z.size)).toList[q]?=some (z[q % z.size]!):=by
   simp [madeCells,hq]
  rw [h1]
  clear h1 hl
  induction m generalizing q with
  |zero=>simp at hq
  |succ m ih=>
   simp only [List.replicate_succ,List.flatten_cons]
   by_cases h:q < z.size
   ·rw [List.getElem?_append_left (by simpa using h),Nat.mod_eq_of_lt h]
    simp [h]
   ·rw [List.getElem?_append_right (by simpa using h)]
    simp only [Array.length_toList]
    rw [← ih (q - z.size) (by rw [Nat.add_mul] at hq;omega)]
    congr 2
    conv=>lhs;rw [show q=(q - z.size)+z.size by omega]
    rw [Nat.add_mod_right]
 ·rw [List.getElem?_eq_none (by simp [size_madeCells];omega),List.getElem?_eq_none (by rw [hl];omega)]
omit [Dfr] in
theorem zei {α:Type}{bytes:Nat}{i:Int}{q:α}{s:Sl α}(h:Wy bytes i q=some s):0≤i∧bytes * i.toNat≤140737488355328∧i≤140737488355328∧s=⟨List.replicate i.toNat q,true⟩:=by
 unfold Wy at h
 split at h
 ·cases h;simp_all
 ·cases h
def YB (vs:List Value):List Value:=(vs.map fun v=>v.cells.toList).flatten
theorem ziY {α:Type}{T:OTy α}{e:TypeId}{q:α}{zv:Value}{ti:TypeInfo}{k':IntKind}{kk:Sl α→Option ρ}(hn:Nat.blt d n=true) (hu:P.underlying t=some (.slice e)) (hi':P.info? e=some ti) (hz:ti.zero=some zv) (hsz:ti.size=T.size)
    (h0:Nat.blt 0 T.size=true) (hx:opv L b x = .int k i) (hy:opv L b y = .int k' i) (hr:∀ σ,T.rel σ zd.none zv.cells.toList q)
    (h:∀ s v,Wy ti.bytes i q=some s→H (kk s) ((d,v)::L) σ (.row T e v s::PV)) :
    Wk P n w0 σ0 ⟨some d,.makeSlice t x y,ty,ps,af,g⟩ ((Wy ti.bytes i q).bind kk) L b σ PV H:=by
  intro r hp a w hi hf K Q hK
  cases hm:Wy ti.bytes i q with
  |none=>rw [hm] at hp;cases hp
  |some s=>
    rw [hm] at hp
    obtain ⟨h1,h2,h3,rfl⟩:=zei hm
    obtain ⟨m,rfl⟩:∃ m:Nat,i=(m:Int):=⟨i.toNat,by omega⟩
    simp only [Int.toNat_natCast] at h2 hm hp
    have hzs:zv.cells.size=T.size:=by simpa using T.len (hr σ)
    have hT:0 < T.size:=by simpa using h0
    have hrun:=run_make (P:=P) w t e ti zv hu hi' hz k k' (m:Int) (m:Int) (by omega) (by omega) (Int.ofNat_le.2 (Nat.le_trans h2 (by decide):ti.bytes * m≤281474976710656)) (by omega)
    simp only [Int.toNat_natCast] at hrun
    have hfl:=zaF zv.cells m (by omega)
    rw [hzs] at hfl
    rw [hsz] at hrun
    unfold Oper.wp
    have hrun':(execOp a.eval ⟨some d,.makeSlice t x y,ty,ps,af,g⟩).run P w = .ok (.value (.slice (some ⟨w.heap.size,0,none⟩) m m)) (w.alloc (.cells (madeCells zv.cells (m * T.size)) e)):=by
      rw [hf.eval];simp [execOp,hx,hy,hrun]
    rw [hrun',Oper.upon_value]
    refine hK _ _ σ _ _ _ hp (hi.cons (p :=.row T e (.slice (some ⟨w.heap.size,0,none⟩) m m) ⟨List.replicate m q,true⟩) (h1:=z7 w.heap.size e (madeCells zv.cells (m * T.size))) ?_ (XO (Ys _ _)) (vC _ _ _ _) fun b i hb=>by rw [(Y0 hb).1];exact Nat.le_refl _) (hf.put (by simpa [Nat.blt_eq] using hn) _) (h _ _ (by rw [hm]))
    have hlen:(madeCells zv.cells (m * T.size)).toList.length=m * T.size:=by rw [hfl];simp [hzs]
    refine .inr <| .inr ⟨w.heap.size,m,(madeCells zv.cells (m * T.size)).toList,_,zd.none,by simp,rfl,by simp,by unfold maxLen;omega,by rw [hlen];exact Nat.le_refl _,.refl _,?_,fun j u hj=>wD hj,zd.none_le _,zd.disj_none _,?_⟩
    · rw [Wz];simp
    · simp only [List.length_replicate]
      rw [List.take_of_length_le (by omega),hfl];exact OTy.rels_replicate (hr σ) m
def zjs {α:Type}(T:OTy α) (σ:FS) (h:zd) (vs:List Value) (xs:List α):Prop:=T.rels σ h (YB vs) xs∧vs.length=xs.length∧∀ v∈vs,v.cells.size=T.size
def zaZ:Nat→List Value→List (Nat×Value)
 |_,[]=>[]
 |m,v::r=>(m,v)::zaZ (m+1) r
omit [Dfr] in
theorem zfO (c:List Value):∀ (cs:Array Value) (off k:Nat),off+k+c.length≤cs.size→
    ((c.zipIdx k).foldl (fun a (q:Value×Nat)=>a.setIfInBounds (off+q.2) q.1) cs).toList=cs.toList.take (off+k)++c++cs.toList.drop (off+k+c.length):=by
  induction c with
  |nil=>intro cs off k h;simp
  |cons u c ih=>
    intro cs off k h
    simp only [List.length_cons] at h
    simp only [List.zipIdx_cons,List.foldl_cons]
    rw [ih _ off (k+1) (by simp;omega)]
    have h2:off+k < cs.toList.length:=by simp;omega
    simp only [Array.toList_setIfInBounds,List.length_cons]
    rw [show off+(k+1)=off+k+1 by omega,List.take_succ_eq_append_getElem (by simp;omega)]
    rw [List.take_set_of_le (by omega),List.drop_set_of_lt (by omega)]
    simp [show off+k+1+c.length=off+k+(c.length+1) by omega]
omit [Dfr] in
theorem zhp (size:Nat):∀ (vs:List Value) (m:Nat) (cs:Array Value),(∀ v∈vs,v.cells.size=size)→(m+vs.length) * size≤cs.size→
    ∃ r:Array Value,Instr.fill (fun i=>some (i * size,size)) cs (zaZ m vs)=some r∧r.toList=cs.toList.take (m * size)++YB vs++cs.toList.drop ((m+vs.length) * size)
  |[],m,cs,_,_=>⟨cs,rfl,by simp [YB]⟩
  |v::vs,m,cs,h,hs=>by
    have hv:=h v (by simp)
    have hvs:(m+(vs.length+1)) * size=m * size+size+vs.length * size:=by simp only [Nat.add_mul,Nat.one_mul];omega
    simp only [List.length_cons] at hs
    have hfit:m * size+v.cells.size≤cs.size:=by rw [hv];omega
    have hfold:=zfO v.cells.toList cs (m * size) 0 (by simp;omega)
    have hmz:(m+1) * size=m * size+size:=by rw [Nat.add_mul];simp
    have hcells:v.cells.toList.length=size:=by simp [hv]
    obtain ⟨r,hr,hrl⟩:=zhp size vs (m+1) ((v.cells.toList.zipIdx 0).foldl (fun a (q:Value×Nat)=>a.setIfInBounds (m * size+q.2) q.1) cs) (fun u hu=>h u (by simp [hu])) (by
      have hsz:((v.cells.toList.zipIdx 0).foldl (fun a (q:Value×Nat)=>a.setIfInBounds (m * size+q.2) q.1) cs).size=cs.size:=by
        rw [← Array.length_toList,hfold];simp;omega
      rw [hsz,Nat.add_mul,hmz];omega)
    refine ⟨r,?_,?_⟩
    · have e0:(v.cells.zipIdx.foldl (fun cs (x:Value×Nat)=>cs.setIfInBounds (m * size+x.2) x.1) cs)=(v.cells.toList.zipIdx 0).foldl (fun a (q:Value×Nat)=>a.setIfInBounds (m * size+q.2) q.1) cs:=by
        rw [← Array.foldl_toList];simp
      simp only [zaZ,Instr.fill]
      rw [if_neg (by simp [hv];omega)]
      rw [← hr]
      exact congrArg (fun q=>Instr.fill _ q _) e0
    · rw [hrl,hfold,hmz]
      simp only [Nat.add_zero,hcells]
      have h1:(cs.toList.take (m * size)++v.cells.toList).length=m * size+size:=by simp [hv];omega
      have h2:(cs.toList.take (m * size)++v.cells.toList++cs.toList.drop (m * size+size)).take (m * size+size)=cs.toList.take (m * size)++v.cells.toList:=by rw [← h1,List.take_left]
      have h3:(cs.toList.take (m * size)++v.cells.toList++cs.toList.drop (m * size+size)).drop ((m+1+vs.length) * size)=cs.toList.drop ((m+(v::vs).length) * size):=by
        rw [show (m+1+vs.length) * size=(m * size+size)+vs.length * size by rw [Nat.add_mul,hmz],← List.drop_drop]
        rw [show (cs.toList.take (m * size)++v.cells.toList++cs.toList.drop (m * size+size)).drop (m * size+size)=cs.toList.drop (m * size+size) by rw [← h1,List.drop_left]]
        rw [List.drop_drop];congr 1;simp only [List.length_cons];omega
      rw [h2,h3]
      simp [YB,List.append_assoc]
theorem vI {α:Type}{T:OTy α}{e:TypeId}{m:Nat}{parts:Array (Nat×Operand)}{vs:List Value}{xs:List α}{ti:TypeInfo}{zv:Value}(A C:List Priv) (hn:Nat.blt d n=true) (hu:P.underlying t=some (.slice e)) (hi':P.info? e=some ti)
    (hz:ti.zero=some zv) (hsz:ti.size=T.size) (h24:Nat.ble (m * T.size) 16777216=true) (h0:Nat.blt 0 T.size=true) (hp:(parts.toList.map fun q=>(q.1,opv L b q.2))=zaZ 0 vs) (hm:vs.length=m)
    (hr:∀ h,Sep σ A h→∃ g,g.le h∧zjs T σ g vs xs)
    (h:∀ v,H p ((d,v)::L) σ (.row T e v ⟨xs,true⟩::C)):Wk P n w0 σ0 ⟨some d,.buildSlice t m parts,ty,ps,af,g⟩ p L b σ (A++C) H:=by
  intro r hpr a w hi hf K Q hK
  have hT:0 < T.size:=by simpa using h0
  have h24':m * T.size≤16777216:=by simpa using h24
  unfold Oper.wp
  refine Exists.elim (hi.replace (R:=fun w' A'=>(execOp a.eval ⟨some d,.buildSlice t m parts,ty,ps,af,g⟩).run P w = .ok (.value (.slice (some ⟨w.heap.size,0,none⟩) m m)) w'∧A'=[Priv.row T e (.slice (some ⟨w.heap.size,0,none⟩) m m) ⟨xs,true⟩]) ?_) ?_
  · intro hA sA subA
    obtain ⟨gA,hgA,hrel,hlen,hsize⟩:=hr hA sA
    have hml:m=xs.length:=by rw [← hm,hlen]
    have hfl:(YB vs).length=m * T.size:=by rw [hrel.1,hml]
    have hnew:∀ b i,(gA b i).isSome→b < w.heap.size:=fun b i hx=>by
      obtain ⟨x,hx⟩:=Option.isSome_iff_exists.1 hx;exact Bit.at_lt (subA _ _ _ (hgA _ _ _ hx))
    have hdj:(z7 w.heap.size e (YB vs).toArray).disj gA:=fun b i=>by
      cases hx:z7 w.heap.size e (YB vs).toArray b i with
      |none=>exact .inl rfl
      |some y=>
        right
        have:=(Y0 (b:=b) (k:=i) (by rw [hx];rfl)).1
        cases hy:gA b i with
        |none=>rfl
        |some z=>have:=hnew b i (by simp [hy]);omega
    refine ⟨w.alloc (.cells (YB vs).toArray e (0,0)),_,(z7 w.heap.size e (YB vs).toArray).or gA,⟨?_,rfl⟩,Sep.one ?_,zd.or_sub (XO (Ys _ _)) ((vC w _ _ zd.none).frag (zd.none_disj _) (subA.mono hgA)),vC _ _ _ _,fun b i hx=>?_⟩
    · rw [hf.eval]
      have hpl:(parts.map fun (q:Nat×Operand)=>(q.1,opv L b q.2)).toList=zaZ 0 vs:=by rw [Array.toList_map];exact hp
      have key:∀ zero:Array Value,Instr.fill (fun i=>some (i * T.size,T.size)) ((Array.range (m * T.size)).map (zero[· % zero.size]!)) (parts.map fun (q:Nat×Operand)=>(q.1,opv L b q.2)).toList=some (YB vs).toArray:=by
        intro zero
        obtain ⟨r,hr1,hr2⟩:=zhp T.size vs 0 ((Array.range (m * T.size)).map (zero[· % zero.size]!)) hsize (by simp [← hm])
        have hr3:r=(YB vs).toArray:=by
          apply Array.toList_inj.1
          rw [hr2,List.drop_eq_nil_of_le (by simp [← hm])]
          simp
        rw [hpl,hr1,hr3]
      have hb:(Instr.buildSlice t m (parts.map fun q=>(q.1,opv L b q.2))).run P w = .ok (.slice (some ⟨w.heap.size,0,none⟩) m m) (w.alloc (.cells (YB vs).toArray e (0,0))):=by
        unfold Instr.buildSlice
        simp only [Sem.run_bind,run_underlying hu,Result.andThen_ok,sizeOf,typeInfo,run_program,hi',Sem.run_pure,hsz]
        rw [if_neg (by omega)]
        by_cases h00:m * T.size=0
        · rw [if_pos h00]
          simp only [Sem.run_bind,Sem.run_pure,Result.andThen_ok,key]
          simp [newRow,newObj,Sem.run]
        · rw [if_neg h00]
          simp only [Sem.run_bind,Sem.run_pure,Result.andThen_ok,zeroValue,typeInfo,run_program,hi',hz,key]
          simp [newRow,newObj,Sem.run]
      simp only [execOp,Sem.run_bind,hb,Result.andThen_ok,Sem.run_pure]
    · refine .inr <| .inr ⟨w.heap.size,m,YB vs,z7 w.heap.size e (YB vs).toArray,gA,by rw [hml],rfl,by rw [hml];exact Nat.le_refl _,?_,by rw [hfl];exact Nat.le_refl _,zd.le_or _ _,?_,fun j u hj=>wD (by simpa using hj),zd.le_or_right hdj,hdj,?_⟩
      · have:m≤m * T.size:=Nat.le_mul_of_pos_right m hT
        unfold maxLen;omega
      · rw [Wz];simp
      · simp only [← hml,← hfl,List.take_length];exact hrel
    · unfold zd.or at hx
      cases hy:z7 w.heap.size e (YB vs).toArray b i with
      |some z=>have:=(Y0 (b:=b) (k:=i) (by rw [hy];rfl)).1;right;omega
      |none=>rw [hy] at hx;left;exact hgA.isSome (by simpa using hx)
  · rintro w' ⟨A',⟨hrun,rfl⟩,hi2⟩
    rw [hrun,Oper.upon_value]
    exact hK p _ σ _ _ _ hpr hi2 (hf.put (by simpa [Nat.blt_eq] using hn) _) (h _)
omit [Dfr] in
theorem zfP {α:Type}{bytes:Nat}{s s':Sl α}{ts:List α}(h:zA bytes s ts=some s'):(s.xs.length+ts.length) * bytes≤140737488355328∧s.xs.length+ts.length≤140737488355328∧s'=⟨s.xs++ts,s.nn || !ts.isEmpty⟩:=by
 unfold zA at h
 split at h
 ·cases h;simp_all
 ·cases h
def zaG (w:World) (u:Value) (m:Nat) (news:List Value):Prop:=
 (u = .slice none 0 0∧m=0∧news=[])∨∃ a c,u = .slice (some a) m c∧∀ (j:Nat) (q:Value),news[j]?=some q→w.cell? (a.add j)=some q
theorem VQ {α:Type}{T:OTy α}{e:TypeId}{s:Sl α}{ti:TypeInfo}{zv:Value}{ts:List α}{u:Value}{kk:Sl α→Option ρ}(A C:List Priv) (hn:Nat.blt d n=true) (hu:P.underlying t=some (.slice e)) (hi':P.info? e=some ti)
    (hz:ti.zero=some zv) (hzs:zv.cells.size=T.size) (hsz:ti.size=T.size) (h0:Nat.blt 0 T.size=true) (hx:opv L b x=v) (hy:opv L b y=u)
    (hs:∀ w g,Xt σ (.row T e v s::(A++C)) w→Sep σ A g→g.sub w→∃ gA news,gA.le g∧T.rels σ gA news ts∧zaG w u ts.length news)
    (h:∀ s' v',zA ti.bytes s ts=some s'→H (kk s') ((d,v')::L) σ (.row T e v' s'::C)) :
    Wk P n w0 σ0 ⟨some d,.call {callee :=.builtin .append,args:= #[x,y],argTypes:= #[t,t]},ty,ps,af,g⟩ ((zA ti.bytes s ts).bind kk) L b σ (.row T e v s::(A++C)) H:=by
  intro r hp a w hi hf K Q hK
  cases hg:zA ti.bytes s ts with
  |none=>rw [hg] at hp;cases hp
  |some s'=>
  rw [hg] at hp
  obtain ⟨hb,hb2,rfl⟩:=zfP hg
  have hT:0 < T.size:=by simpa using h0
  have hheld:=hi.held
  have hi0:Inv w0 σ0 σ ((.row T e v s::A)++C) w:=hi
  refine Exists.elim (hi0.replace (R:=fun w' A'=>∃ v',(Builtin.append_ #[t,t] ty #[v,u]).run P w = .ok v' w'∧A'=[Priv.row T e v' ⟨s.xs++ts,s.nn || !ts.isEmpty⟩]) ?_) ?_
  · intro hA sA subA
    obtain ⟨h1,h2,k1,k2,l1,l2,dd⟩:=Sep.uncons sA
    have k1:zn T e v s σ h1:=k1
    obtain ⟨gA,news,hgA,hrel,hsrc⟩:=hs w h2 hheld k2 (subA.mono l2)
    have hlt:∀ b i,(hA b i).isSome→b < w.heap.size:=fun b i hx=>by
      obtain ⟨x,hx⟩:=Option.isSome_iff_exists.1 hx;exact Bit.at_lt (subA _ _ _ hx)
    rcases hsrc with ⟨rfl,hl0,rfl⟩ | ⟨ad,c,rfl,hcells⟩
    · have hts:ts=[]:=List.eq_nil_of_length_eq_zero hl0
      subst hts
      refine ⟨w,_,hA,⟨v,?_,rfl⟩,Sep.one ?_,subA,.refl w hA,fun b i hx =>.inl hx⟩
      · rcases k1 with ⟨rfl,rfl⟩ | ⟨q,rfl,rfl⟩ | ⟨q,cap,cur,hb',gg,rfl,r2,r3,r4,r5,r0,r6,r7,r8,r9,r10⟩
        · simp [Builtin.append_,run_underlying hu,sizeOf,typeInfo,hi',Builtin.lenOf,Builtin.firstCells]
        · simp [Builtin.append_,run_underlying hu,sizeOf,typeInfo,hi',Builtin.lenOf,Builtin.firstCells,storeCells]
        · simp [Builtin.append_,run_underlying hu,sizeOf,typeInfo,hi',Builtin.lenOf,Builtin.firstCells,r3,storeCells]
      · simp only [List.append_nil,List.isEmpty_nil,Bool.not_true,Bool.or_false]
        exact Priv.mono _ (.refl _) l1 k1
    have hnl:news.length=ts.length * ti.size:=by rw [hsz];exact hrel.1
    have hmt:(ts=[])↔ts.length=0:=by cases ts <;> simp
    have fresh:∀ (cur2:Array Value) (cap2:Nat) (w1:World) (g:zd) (olds:List Value),w1.heap=w.heap→w1.os=w.os→w1.output=w.output→w1.tape=w.tape→
        cur2.size=cap2 * T.size→s.xs.length+ts.length≤cap2→cap2≤maxLen→ts≠[]∨s.nn=true→g.le h1→T.rels σ g olds s.xs→cur2.toList.take ((s.xs.length+ts.length) * T.size)=olds++news→
        (Builtin.append_ #[t,t] ty #[v,.slice (some ad) ts.length c]).run P w = .ok (.slice (some ⟨w.heap.size,0,none⟩) (s.xs.length+ts.length) cap2) (w1.alloc (.cells cur2 e (0,0)))→
        ∃ w' A' hA',(∃ v',(Builtin.append_ #[t,t] ty #[v,.slice (some ad) ts.length c]).run P w = .ok v' w'∧A'=[Priv.row T e v' ⟨s.xs++ts,s.nn || !ts.isEmpty⟩])∧Sep σ A' hA'∧hA'.sub w'∧Ext w hA w'∧∀ b i,(hA' b i).isSome→(hA b i).isSome∨w.heap.size≤b:=by
      intro cur2 cap2 w1 g olds e1 e2 e3 e4 hc1 hc2 hc3 hnn hgl hold htake hrun
      have hsz1:w1.heap.size=w.heap.size:=by rw [e1]
      have hext:Ext w hA (w1.alloc (.cells cur2 e (0,0))):=by
        refine ⟨by simp [World.alloc,e2],by simp [World.alloc,e3],by simp [World.alloc,e4],by simp [e1],fun b =>.same fun hb=>by rw [VP _ _ _ (by omega),e1],fun a _ _=>?_⟩
        rw [zb4];unfold World.frozen?;rw [e1]
      have hnew2:(w1.alloc (.cells cur2 e (0,0))).heap[w.heap.size]?=some (.cells cur2 e (0,0)):=by rw [← hsz1];exact Ys _ _
      have hgg:(g.or gA).le hA:=zd.or_le (hgl.trans l1) (hgA.trans l2)
      have hdd:(z7 w.heap.size e cur2).disj (g.or gA):=fun b i=>by
        cases hx:z7 w.heap.size e cur2 b i with
        |none=>exact .inl rfl
        |some y=>
          right
          have:=(Y0 (b:=b) (k:=i) (by rw [hx];rfl)).1
          cases hy:(g.or gA) b i with
          |none=>rfl
          |some z=>have:=hlt b i (hgg.isSome (by simp [hy]));omega
      refine ⟨_,_,(z7 w.heap.size e cur2).or (g.or gA),⟨_,hrun,rfl⟩,Sep.one ?_,zd.or_sub (XO hnew2) ?_,hext,fun b i hx=>?_⟩
      · refine .inr <| .inr ⟨w.heap.size,cap2,cur2.toList,z7 w.heap.size e cur2,g.or gA,by simp,?_,by simp;omega,hc3,by simp [hc1],zd.le_or _ _,by rw [Wz];simp,fun j u hj=>wD hj,zd.le_or_right hdd,hdd,?_⟩
        · rcases hnn with h | h
          · cases ts with
            |nil=>exact absurd rfl h
            |cons=>simp
          · simp [h]
        · simp only [List.length_append];rw [htake]
          exact OTy.rels_append hold hrel (dd.mono hgl hgA)
      · refine zd.sub.mono (h:=g.or gA) (g:=g.or gA) ?_ (.refl _)
        intro b i y hy
        have h3:=subA b i y (hgg _ _ _ hy)
        have h4:=Bit.at_lt h3
        have h5:(w1.alloc (.cells cur2 e (0,0))).heap[b]?=w.heap[b]?:=by rw [VP _ _ _ (by omega),e1]
        cases y <;> (unfold Bit.at at h3 ⊢;simp only [h5];exact h3)
      · unfold zd.or at hx
        cases hy:z7 w.heap.size e cur2 b i with
        |some z=>have:=(Y0 (b:=b) (k:=i) (by rw [hy];rfl)).1;right;omega
        |none=>rw [hy] at hx;left;exact hgg.isSome (by simpa [zd.or] using hx)
    have hmax:s.xs.length+ts.length≤maxLen:=by unfold maxLen;omega
    have grow:∀ (old:Nat) (g:zd) (olds:List Value) (row:Value),olds.length=s.xs.length * T.size→old < s.xs.length+ts.length→ts≠[]∨s.nn=true→g.le h1→T.rels σ g olds s.xs→v=row→
        (Builtin.append_ #[t,t] ty #[row,.slice (some ad) ts.length c]).run P w = .ok (.slice (some ⟨w.heap.size,0,none⟩) (s.xs.length+ts.length) (grownCap w (s.xs.length+ts.length) old e))
          (w.drew.alloc (.cells (olds.toArray++news.toArray++Builtin.zeroCells zv.cells (grownCap w (s.xs.length+ts.length) old e - (s.xs.length+ts.length))) e))→
        ∃ w' A' hA',(∃ v',(Builtin.append_ #[t,t] ty #[v,.slice (some ad) ts.length c]).run P w = .ok v' w'∧A'=[Priv.row T e v' ⟨s.xs++ts,s.nn || !ts.isEmpty⟩])∧Sep σ A' hA'∧hA'.sub w'∧Ext w hA w'∧∀ b i,(hA' b i).isSome→(hA b i).isSome∨w.heap.size≤b:=by
      intro old g olds row hol hold hnn hgl hold2 hv hrun
      subst hv
      have hge:=grownCap_ge w (s.xs.length+ts.length) old e
      have hnl2:news.length=ts.length * T.size:=hrel.1
      refine fresh _ _ w.drew g olds rfl rfl rfl rfl ?_ hge (grownCap_le_maxLen w _ old e hmax) hnn hgl hold2 ?_ hrun
      · simp only [Array.size_append,List.size_toArray,size_zeroCells,hzs,hol,hnl2,← Nat.add_mul]
        congr 1;omega
      · simp only [Array.toList_append,List.append_assoc]
        rw [← List.append_assoc,show (s.xs.length+ts.length) * T.size=(olds++news).length by simp [hol,hnl2,Nat.add_mul]]
        exact List.take_left
    rcases k1 with ⟨rfl,rfl⟩ | ⟨aq,rfl,rfl⟩ | ⟨q,cap,cur,hbk,gg,rfl,r2,r3,r4,r5,r0,r6,r7,r8,r9,r10⟩
    · by_cases hm0:ts.length=0
      · have hts:=hmt.2 hm0
        subst hts
        refine ⟨w,_,hA,⟨.slice none 0 0,?_,rfl⟩,Sep.one ?_,subA,.refl w hA,fun b i hx =>.inl hx⟩
        · simp [Builtin.append_,run_underlying hu,sizeOf,typeInfo,hi',Builtin.lenOf,Builtin.firstCells,loadCells,loadCellsFrom]
        · exact .inl ⟨rfl,rfl⟩
      · have hr3:=run_append_nil (P:=P) w t ty e ti zv hu hi' hz ad ts.length c news hnl hcells (by omega) (by omega) (by simp at hb;omega)
        exact grow 0 zd.none [] _ (by simp) (by simp;omega) (.inl fun hh=>hm0 (by simp [hh])) (zd.none_le _) OTy.rels_nil rfl (by simpa using hr3)
    · by_cases hm0:ts.length=0
      · have hts:=hmt.2 hm0
        subst hts
        refine ⟨w,_,hA,⟨.slice (some aq) 0 0,?_,rfl⟩,Sep.one ?_,subA,.refl w hA,fun b i hx =>.inl hx⟩
        · simp [Builtin.append_,run_underlying hu,sizeOf,typeInfo,hi',Builtin.lenOf,Builtin.firstCells,loadCells,loadCellsFrom,storeCells]
        · exact .inr (.inl ⟨aq,rfl,rfl⟩)
      · have hr3:=run_append_grow (P:=P) w t ty e ti zv hu hi' hz aq 0 0 [] (by simp) (by simp) ad ts.length c news hnl hcells (by omega) (by omega) (growslice_fits (by omega) (by simp at hb;simpa using hb))
        exact grow 0 zd.none [] _ (by simp) (by simp;omega) (.inr rfl) (zd.none_le _) OTy.rels_nil rfl (by simpa using hr3)
    · have l0:hbk.le hA:=r0.trans l1
      have hcurA:=znz (subA.mono l0) r6 r7
      have holds:∀ j u,(cur.take (s.xs.length * T.size))[j]?=some u→w.cell? ((⟨q,0,none⟩:Addr).add j)=some u:=fun j u hj=>by
        rw [Addr.add_eq _ rfl]
        rw [List.getElem?_take] at hj
        split at hj
        · simpa using (subA.mono l0).cell (r7 j u hj)
        · cases hj
      by_cases hroom:s.xs.length+ts.length≤cap
      · have hfit:s.xs.length * ti.size+news.length≤cur.toArray.size:=by rw [hnl,hsz,← Nat.add_mul];simp only [List.size_toArray];exact Nat.le_trans (Nat.mul_le_mul_right _ hroom) r5
        have hrun:=run_append_room (P:=P) w t ty e ti hu hi' q s.xs.length cap cur.toArray hcurA ad ts.length c news hnl hcells (OTy.rels_one hrel) hroom hfit
        rw [hsz] at hrun hfit
        have hlt3:∀ j,j < news.length→s.xs.length * T.size+j < cur.length:=fun j hj=>by simp at hfit;omega
        obtain ⟨p1,p2⟩:=zeh (q:=q) (off:=s.xs.length * T.size) (vs:=news) (subA.mono l0) hcurA (by simpa using hfit) (fun j hj=>
          ⟨_,by rw [show s.xs.length * T.size+j+1=(s.xs.length * T.size+j)+1 by omega];exact r7 _ _ (List.getElem?_eq_getElem (hlt3 j hj))⟩)
        have hdom:∀ b i,((hbk.put q (s.xs.length * T.size) news) b i).isSome→(hbk b i).isSome:=fun b i hx=>zd.put_dom (fun j hj=>by
          rw [show s.xs.length * T.size+j+1=(s.xs.length * T.size+j)+1 by omega,r7 _ _ (List.getElem?_eq_getElem (hlt3 j hj))];rfl) hx
        have hgA2:hbk.disj (gg.or gA):=(zd.or_disj r9.symm ((dd.mono r0 hgA).symm)).symm
        have hd2:(hbk.put q (s.xs.length * T.size) news).disj (gg.or gA):=fun b i=>by
          cases hx:hbk.put q (s.xs.length * T.size) news b i with
          |none=>exact .inl rfl
          |some y=>
            have:=hdom b i (by rw [hx];rfl)
            rcases hgA2 b i with z | z
            · rw [z] at this;cases this
            · exact .inr z
        have hgl:(gg.or gA).le hA:=zd.or_le (r8.trans l1) (hgA.trans l2)
        refine ⟨_,_,(hbk.put q (s.xs.length * T.size) news).or (gg.or gA),⟨_,hrun,rfl⟩,Sep.one ?_,zd.or_sub p1 (p2.frag hgA2 (subA.mono hgl)),p2.mono l0,fun b i hx=>?_⟩
        · have hcl:(cur.take (s.xs.length * T.size)).length=s.xs.length * T.size:=r10.1
          have hnl2:news.length=ts.length * T.size:=hrel.1
          refine .inr <| .inr ⟨q,cap,cur.take (s.xs.length * T.size)++news++cur.drop (s.xs.length * T.size+news.length),hbk.put q (s.xs.length * T.size) news,gg.or gA,by simp,by simp [r2],by simpa using hroom,r4,?_,zd.le_or _ _,?_,fun j u hj=>?_,zd.le_or_right hd2,hd2,?_⟩
          · simp only [List.length_append,hcl,List.length_drop];simp at hfit;omega
          · rw [zd.put_out (by omega),r6];congr 2;simp only [List.length_append,hcl,List.length_drop];simp at hfit;omega
          · by_cases c1:j < s.xs.length * T.size
            · rw [List.append_assoc,List.getElem?_append_left (by omega),List.getElem?_take_of_lt c1] at hj
              rw [zd.put_out (by omega)];exact r7 j u hj
            · by_cases c2:j < s.xs.length * T.size+news.length
              · rw [List.append_assoc,List.getElem?_append_right (by omega),hcl,List.getElem?_append_left (by omega)] at hj
                rw [show j+1=s.xs.length * T.size+(j - s.xs.length * T.size)+1 by omega];exact zd.put_in hj
              · rw [List.getElem?_append_right (by simp only [List.length_append,hcl];omega),List.getElem?_drop] at hj
                simp only [List.length_append,hcl] at hj
                rw [show s.xs.length * T.size+news.length+(j - (s.xs.length * T.size+news.length))=j by omega] at hj
                rw [zd.put_out (by omega)];exact r7 j u hj
          · have hap:=OTy.rels_append r10 hrel (dd.mono r8 hgA)
            rw [List.length_append,Nat.add_mul,List.take_append_of_le_length (by simp only [List.length_append,hcl];omega),List.take_of_length_le (by simp only [List.length_append,hcl];omega)]
            exact hap
        · unfold zd.or at hx
          cases hy:hbk.put q (s.xs.length * T.size) news b i with
          |some z=>left;exact l0.isSome (hdom b i (by rw [hy];rfl))
          |none=>rw [hy] at hx;left;exact hgl.isSome (by simpa [zd.or] using hx)
      · have hrun:=run_append_grow (P:=P) w t ty e ti zv hu hi' hz ⟨q,0,none⟩ s.xs.length cap (cur.take (s.xs.length * T.size)) (by rw [hsz];exact r10.1) holds ad ts.length c news hnl hcells (by omega) (by omega) (growslice_fits (by omega) hb)
        exact grow cap gg _ _ r10.1 (by omega) (.inr r2) r8 r10 rfl hrun
  · rintro w' ⟨A',⟨v',hrun,rfl⟩,hi2⟩
    unfold Oper.wp
    have hrun':(execOp a.eval ⟨some d,.call {callee :=.builtin .append,args:= #[x,y],argTypes:= #[t,t]},ty,ps,af,g⟩).run P w = .ok (.value v') w':=by
      rw [hf.eval];simp [execOp,resolve,invoke,builtin,hx,hy,hrun]
    rw [hrun',Oper.upon_value]
    exact hK _ _ σ _ _ _ hp hi2 (hf.put (by simpa [Nat.blt_eq] using hn) _) (h _ _ hg)
omit [Dfr] in
theorem zgl {α:Type}{T:Ty α}{s:Sl α}{u:Value}{A:List Priv}(hv:(tSl T).vrel σ u s) (w:World) (g:zd) (hw:Xt σ PV w) (sA:Sep σ A g) (hg:g.sub w):∃ gA news,gA.le g∧T.o.rels σ gA news s.xs∧zaG w u s.xs.length news:=by
 obtain ⟨a,m,c,rfl,h1,h2,h3,h4,h5,cells,h6,h7⟩:=xv.1 hv
 refine ⟨zd.none,cells,zd.none_le _,Ty.rels_o.2 h6,?_⟩
 cases a with
 |none=>
  obtain ⟨rfl,rfl⟩:=h5 rfl
  refine .inl ⟨rfl,h1.symm,?_⟩
  have:=T.rels_len h6
  rw [← h1] at this
  exact List.eq_nil_of_length_eq_zero (by simpa using this)
 |some a=>
  refine .inr ⟨a,c,by rw [h1],fun j q hq=>?_⟩
  obtain ⟨ad,e,hc⟩:=h7 j q hq
  cases e;exact hw.1.cell hc
omit [Dfr] in
theorem zn.source {α:Type}{T:OTy α}{s:Sl α}{u:Value}{e:TypeId}{h:zd}{w:World}(r:zn T e u s σ h) (hs:h.sub w):∃ gA news,gA.le h∧T.rels σ gA news s.xs∧zaG w u s.xs.length news:=by
 rcases r with ⟨rfl,rfl⟩ | ⟨aq,rfl,rfl⟩ | ⟨q,cap,cur,hb,gg,rfl,r2,r3,r4,r5,r0,r6,r7,r8,r9,r10⟩
 rotate_left
 ·exact ⟨zd.none,[],zd.none_le _,OTy.rels_nil,.inr ⟨aq,0,rfl,fun j u hj=>by simp at hj⟩⟩
 rotate_left
 ·exact ⟨zd.none,[],zd.none_le _,OTy.rels_nil,.inl ⟨rfl,rfl,rfl⟩⟩
 ·refine ⟨gg,_,r8,r10,.inr ⟨_,cap,rfl,fun j u hj=>?_⟩⟩
  rw [Addr.add_eq _ rfl]
  rw [List.getElem?_take] at hj
  split at hj
  ·simpa using hs.cell (r0 _ _ _ (r7 j u hj))
  ·cases hj
omit [Dfr] in
theorem zjt {α:Type}{T:Ty α}{s:Sl α}{u:Value}{e:TypeId}{A:List Priv}(m:Nat) (hm:PV[m]?=some (.row T.o e u s)) (w:World) (g:zd) (hw:Xt σ PV w) (sA:Sep σ A g) (hg:g.sub w):∃ gA news,gA.le g∧T.o.rels σ gA news s.xs∧zaG w u s.xs.length news:=by
 obtain ⟨h,hr,hs⟩:=hw.get hm
 obtain ⟨gA,news,_,k2,k3⟩:=zn.source hr hs
 exact ⟨zd.none,news,zd.none_le _,Ty.rels_o.2 (Ty.rels_o.1 k2),k3⟩
omit [Dfr] in
theorem zdv {α:Type}{T:OTy α}{s:Sl α}{u:Value}{e:TypeId}(w:World) (g:zd) (hw:Xt σ PV w) (sA:Sep σ [.row T e u s] g) (hg:g.sub w):∃ gA news,gA.le g∧T.rels σ gA news s.xs∧zaG w u s.xs.length news:=
 zn.source sA.one_of hg
def Sl.set {α:Type}(s:Sl α) (i:Int) (x:α):Sl α:=⟨s.xs.set i.toNat x,s.nn⟩
omit [Dfr] in
def Priv.hole {α:Type}(A C:α→Priv):Priv where
 holds σ h:=∀ τ g x k,σ.le τ→h.disj g→(A x).holds τ g→h.le k→g.le k→(C x).holds τ k
 mono l m r:=fun τ g x k l2 d ha l3 l4=>r τ g x k (l.trans l2) (d.mono m (.refl _)) ha (m.trans l3) l4
def zmw {α:Type}(T:OTy α) (a:Addr) (x:α) (σ:FS) (h:zd):Prop:=∃ cs h1 h2,h1.le h∧h2.le h∧h1.disj h2∧ZZ a cs h1∧T.rel σ h2 cs x
omit [Dfr] in
def Priv.elem {α:Type}(T:OTy α) (a:Addr) (x:α):Priv where
 holds σ h:=zmw T a x σ h
 mono l m r:=by obtain ⟨cs,h1,h2,l1,l2,d,r1,r2⟩:=r;exact ⟨cs,h1,h2,l1.trans m,l2.trans m,d,r1,T.mono l (.refl _) r2⟩
omit [Dfr] in
theorem YW {cur:List Value}{o n:Nat}{cs:List Value}(ho:o+n≤cur.length) (hc:cs.length=n) (j:Nat) :
    (cur.take o++cs++cur.drop (o+n))[j]?=if o≤j∧j < o+n then cs[j - o]? else cur[j]?:=by
  have htl:(cur.take o).length=o:=by simp;omega
  by_cases h1:j < o
  · rw [if_neg (by omega),List.append_assoc,List.getElem?_append_left (by omega),List.getElem?_take_of_lt h1]
  · by_cases h2:j < o+n
    · rw [if_pos ⟨by omega,h2⟩,List.append_assoc,List.getElem?_append_right (by omega),htl,List.getElem?_append_left (by omega)]
    · rw [if_neg (by omega),List.getElem?_append_right (by simp only [List.length_append,htl];omega),List.getElem?_drop]
      simp only [List.length_append,htl]
      rw [show o+n+(j - (o+cs.length))=j by omega]
omit [Dfr] in
theorem Vo {α:Type}{T:OTy α}{e:TypeId}{s:Sl α}{q:α}{h:zd}(r:zn T e v s σ h) (hq:ze s i=some q) :
    Sep σ [.hole (fun x =>.elem T (zl v (i.toNat * T.size)) x) (fun x =>.row T e v (s.set i x)),.elem T (zl v (i.toNat * T.size)) q] h:=by
  have hlt:=Vf hq
  rcases r with ⟨_,rfl⟩ | ⟨_,_,rfl⟩ | ⟨b,cap,cur,hb,g,rfl,r2,r3,r4,r5,r0,r6,r7,r8,r9,r10⟩
  · simp at hlt;omega
  · simp at hlt;omega
  obtain ⟨k1,hs,k2,k3,k4⟩:=r10
  have hx:=(yU.1 hq).2
  have hbound:i.toNat * T.size+T.size≤s.xs.length * T.size:=by
    have:(i.toNat+1) * T.size≤s.xs.length * T.size:=Nat.mul_le_mul_right _ (by omega)
    rw [Nat.add_mul] at this;omega
  have hcap:s.xs.length * T.size≤cap * T.size:=Nat.mul_le_mul_right _ r3
  have hsel:((cur.take (s.xs.length * T.size)).drop (i.toNat * T.size)).take T.size=(cur.drop (i.toNat * T.size)).take T.size:=by
    rw [List.drop_take,List.take_take,Nat.min_eq_left (by omega)]
  have hci:=k2 i.toNat q hx
  rw [hsel] at hci
  have hea:zl (.slice (some ⟨b,0,none⟩) s.xs.length cap) (i.toNat * T.size)=⟨b,i.toNat * T.size,none⟩:=by
    show (⟨b,0,none⟩:Addr).add _=_
    rw [Addr.add_eq _ rfl];simp
  have hsb:∀ j b' m y,hs j b' m=some y→hb b' m=none:=fun j b' m y hy=>by
    rcases r9 b' m with z | z
    · exact z
    · rw [k4 j b' m y hy] at z;cases z
  classical
  let inn:Nat→Nat→Prop:=fun b' k=>b'=b∧i.toNat * T.size < k∧k≤i.toNat * T.size+T.size
  let oth:Nat→Nat→Prop:=fun b' k=>∃ j,j≠i.toNat∧(hs j b' k).isSome
  let fo:zd:=fun b' k=>if inn b' k then (if oth b' k then h b' k else none) else if (hb b' k).isSome∨oth b' k then h b' k else none
  let fc:zd:=fun b' k=>if inn b' k then hb b' k else none
  have lo:fo.le h:=fun b' k x hx=>by
    simp only [fo] at hx
    split at hx <;> split at hx <;> first | exact hx | cases hx
  have lc:fc.le h:=fun b' k x hx=>by
    simp only [fc] at hx
    split at hx
    · exact r0 _ _ _ hx
    · cases hx
  have le2:(hs i.toNat).le h:=(k4 _).trans r8
  have dce:fc.disj (hs i.toNat):=fun b' k=>by
    cases hy:hs i.toNat b' k with
    |none=>exact .inr rfl
    |some y=> left;simp only [fc];split
              · exact hsb _ _ _ _ hy
              · rfl
  have doe:fo.disj (fc.or (hs i.toNat)):=fun b' k=>by
    cases hi:hs i.toNat b' k with
    |some y=>
      left
      have ho:¬ oth b' k:=by
        rintro ⟨j,hj,hsm⟩
        rcases k3 j i.toNat hj b' k with z | z
        · rw [z] at hsm;cases hsm
        · rw [z] at hi;cases hi
      simp only [fo,ho,if_false,or_false]
      split
      · rfl
      · rw [hsb _ _ _ _ hi];simp
    |none=>
      cases hc:fc b' k with
      |none=>right;simp [zd.or,hc,hi]
      |some y=>
        left
        simp only [fc] at hc
        split at hc
        · rename_i hin
          have ho:¬ oth b' k:=by
            rintro ⟨j,hj,hsm⟩
            obtain ⟨z,hz⟩:=Option.isSome_iff_exists.1 hsm
            rw [hsb _ _ _ _ hz] at hc;cases hc
          simp [fo,hin,ho]
        · cases hc
  have hcc:ZZ ⟨b,i.toNat * T.size,none⟩ ((cur.drop (i.toNat * T.size)).take T.size) fc:=by
    refine ⟨rfl,fun j u hj=>?_⟩
    have hj':j < T.size:=by
      have:=(List.getElem?_eq_some_iff.1 hj).1
      simp only [List.length_take] at this;omega
    rw [List.getElem?_take_of_lt hj',List.getElem?_drop] at hj
    simp only [fc]
    rw [if_pos ⟨rfl,by omega,by omega⟩]
    exact r7 _ _ hj
  refine .cons (h1:=fo) (h2:=fc.or (hs i.toNat)) ?_ (Sep.one ⟨_,fc,hs i.toNat,zd.le_or _ _,zd.le_or_right dce,dce,by rw [hea];exact hcc,hci⟩) lo (zd.or_le lc le2) doe
  intro τ g2 x k l2 dg ⟨cs,h1,h2,q1,q2,q3,q4,q5⟩ lk lg
  rw [hea] at q4
  have hcl:=T.len q5
  have hget:=YW (cur:=cur) (o:=i.toNat * T.size) (n:=T.size) (cs:=cs) (by omega) hcl
  let hn:zd:=fun b' m=>if inn b' m then h1 b' m else hb b' m
  let gn:zd:=fun b' m=>if (hn b' m).isSome then none else k b' m
  have hfo:∀ b' m y,hb b' m=some y→¬ inn b' m→fo b' m=some y:=fun b' m y hy hin=>by
    simp only [fo,hin,if_false];rw [if_pos (.inl (by simp [hy]))];exact r0 _ _ _ hy
  have hfo2:∀ j b' m y,j≠i.toNat→hs j b' m=some y→fo b' m=some y:=fun j b' m y hj hy=>by
    have ho:oth b' m:=⟨j,hj,by simp [hy]⟩
    have e:fo b' m=h b' m:=by simp [fo,ho]
    rw [e];exact r8 _ _ _ (k4 _ _ _ _ hy)
  have hnk:hn.le k:=fun b' m y hy=>by
    simp only [hn] at hy
    split at hy
    · exact lg _ _ _ (q1 _ _ _ hy)
    · exact lk _ _ _ (hfo _ _ _ hy (by assumption))
  have no_g2:∀ b' m y,fo b' m=some y→g2 b' m=none:=fun b' m y hy=>by
    rcases dg b' m with z | z
    · rw [z] at hy;cases hy
    · exact z
  have none_of:∀ {f:zd} {b' m},f.le g2→g2 b' m=none→f b' m=none:=fun {f b' m} l z=>by
    cases hy:f b' m with
    |none=>rfl
    |some y=>rw [l _ _ _ hy] at z;cases z
  refine .inr <| .inr ⟨b,cap,cur.take (i.toNat * T.size)++cs++cur.drop (i.toNat * T.size+T.size),hn,gn,by simp [Sl.set],r2,by simpa [Sl.set] using r3,r4,?_,hnk,?_,fun j u hj=>?_,?_,fun b' m=>?_,?_⟩
  · simp only [List.length_append,List.length_take,List.length_drop,hcl];omega
  · simp only [hn];rw [if_neg (by intro hh;have:=hh.2.1;omega),r6];congr 2;simp only [List.length_append,List.length_take,List.length_drop,hcl];omega
  · rw [hget] at hj
    split at hj
    · rename_i hin
      simp only [hn];rw [if_pos ⟨rfl,by omega,by omega⟩]
      have:=q4.2 _ u hj
      simp only at this
      rwa [show i.toNat * T.size+(j - i.toNat * T.size)+1=j+1 by omega] at this
    · rename_i hin
      simp only [hn];rw [if_neg (by intro hh;exact hin ⟨by have:=hh.2.1;omega,by have:=hh.2.2;omega⟩)];exact r7 j u hj
  · intro b' m y hy
    simp only [gn] at hy
    split at hy
    · cases hy
    · exact hy
  · cases hy:hn b' m with
    |none=>exact .inl rfl
    |some y=>right;simp [gn,hy]
  · have hlen:(s.set i x).xs.length=s.xs.length:=by simp [Sl.set]
    rw [hlen]
    refine ⟨?_,fun j=>if j=i.toNat then h2 else hs j,fun j y hy=>?_,fun j j' hj=>?_,fun j=>?_⟩
    · rw [hlen,List.length_take,List.length_append,List.length_append,List.length_take,List.length_drop,hcl];omega
    · have hjl:j < s.xs.length:=by rw [← hlen];exact (List.getElem?_eq_some_iff.1 hy).1
      have hjb:j * T.size+T.size≤s.xs.length * T.size:=by
        have:(j+1) * T.size≤s.xs.length * T.size:=Nat.mul_le_mul_right _ hjl
        rw [Nat.add_mul] at this;omega
      rw [List.drop_take,List.take_take,Nat.min_eq_left (by omega)]
      by_cases hji:j=i.toNat
      · subst hji
        have:x=y:=by
          have hy2:=hy
          simp only [Sl.set] at hy2
          rw [List.getElem?_set] at hy2;simp at hy2;exact hy2.2
        subst this
        simp only [if_true]
        have htl:(cur.take (i.toNat * T.size)).length=i.toNat * T.size:=by simp;omega
        rw [List.append_assoc,List.drop_append_of_le_length (by omega),List.drop_of_length_le (by omega),List.nil_append,List.take_append_of_le_length (by omega),List.take_of_length_le (by omega)]
        exact q5
      · simp only [hji,if_false]
        have hy2:s.xs[j]?=some y:=by
          simp only [Sl.set] at hy
          rwa [List.getElem?_set_ne (fun e=>hji e.symm)] at hy
        have:=k2 j y hy2
        rw [List.drop_take,List.take_take,Nat.min_eq_left (by omega)] at this
        have hsame:((cur.take (i.toNat * T.size)++cs++cur.drop (i.toNat * T.size+T.size)).drop (j * T.size)).take T.size=(cur.drop (j * T.size)).take T.size:=by
          apply List.ext_getElem?
          intro m
          by_cases hm:m < T.size
          · rw [List.getElem?_take_of_lt hm,List.getElem?_take_of_lt hm,List.getElem?_drop,List.getElem?_drop,hget,if_neg]
            rintro ⟨a1,a2⟩
            rcases Nat.lt_or_gt_of_ne hji with hlt' | hlt'
            · have:(j+1) * T.size≤i.toNat * T.size:=Nat.mul_le_mul_right _ hlt'
              rw [Nat.add_mul] at this;omega
            · have:(i.toNat+1) * T.size≤j * T.size:=Nat.mul_le_mul_right _ hlt'
              rw [Nat.add_mul] at this;omega
          · rw [List.getElem?_eq_none (by simp;omega),List.getElem?_eq_none (by simp;omega)]
        rw [hsame];exact T.mono l2 (.refl _) this
    · show zd.disj (if j=i.toNat then h2 else hs j) (if j'=i.toNat then h2 else hs j')
      have key:∀ a,a≠i.toNat→(hs a).disj h2:=fun a ha b' m=>by
        cases hy:hs a b' m with
        |none=>exact .inl rfl
        |some y=>right;exact none_of q2 (no_g2 _ _ _ (hfo2 a b' m y ha hy))
      split <;> split
      · omega
      · exact (key _ (by assumption)).symm
      · exact key _ (by assumption)
      · exact k3 _ _ hj
    · show zd.le (if j=i.toNat then h2 else hs j) gn
      split
      · intro b' m y hy
        have hno:hn b' m=none:=by
          simp only [hn]
          split
          · rcases q3 b' m with z | z
            · exact z
            · rw [z] at hy;cases hy
          · rename_i hin
            cases hz:hb b' m with
            |none=>rfl
            |some z=>have:=none_of q2 (no_g2 _ _ _ (hfo _ _ _ hz hin));rw [this] at hy;cases hy
        simp only [gn,hno];exact lg _ _ _ (q2 _ _ _ hy)
      · rename_i hji
        intro b' m y hy
        have hf:=hfo2 j b' m y hji hy
        have hno:hn b' m=none:=by
          simp only [hn]
          split
          · exact none_of q1 (no_g2 _ _ _ hf)
          · exact hsb _ _ _ _ hy
        simp only [gn,hno];exact lk _ _ _ hf
end
end Go.Px
namespace Go.Px
set_option linter.unusedSectionVars false
variable [Dfr]
set_option linter.unusedVariables false
class Opn {α:Type}(T:OTy α) where
 aux:Type
 cells:aux→α→List Value
 own:aux→α→List Priv
 facts:FS→aux→α→Prop
 spec:∀ {σ:FS} {h:zd} {cs:List Value} {x:α},T.rel σ h cs x→∃ u,cs=cells u x∧facts σ u x∧Sep σ (own u x) h
 back:∀ {σ:FS} {h:zd} {u:aux} {x:α},facts σ u x→Sep σ (own u x) h→T.rel σ h (cells u x) x
omit [Dfr] in
instance {α:Type}{T:Ty α}[p:Plain T]:Opn T.o where
 aux:=Unit
 cells _ x:=p.cells x
 own _ _:=[]
 facts _ _ _:=True
 spec r:=⟨(),(p.spec _ _ _).1 r,trivial,.nil⟩
 back _ _:=(p.spec _ _ _).2 rfl
omit [Dfr] in
instance {α:Type}{T:Ty α}:Opn (tSl T).o where
 aux:=Value
 cells u _:=[u]
 own _ _:=[]
 facts σ u x:=(tSl T).vrel σ u x
 spec:=by
  rintro σ h cs x ⟨a,n,c,rfl,r⟩
  exact ⟨_,rfl,xv.2 ⟨a,n,c,rfl,r⟩,.nil⟩
 back:=by
  intro σ h u x f _
  obtain ⟨a,n,c,rfl,r⟩:=xv.1 f
  exact ⟨a,n,c,rfl,r⟩
omit [Dfr] in
instance {α:Type}{T:OTy α}{e:TypeId}:Opn (zrJ T e) where
 aux:=Value
 cells u _:=[u]
 own u x:=[.row T e u x]
 facts _ _ _:=True
 spec:=by rintro σ h cs x ⟨v,rfl,r⟩;exact ⟨v,rfl,trivial,.one r⟩
 back:=by intro σ h u x _ s;exact ⟨u,rfl,s.one_of⟩
omit [Dfr] in
instance {α β:Type}{A:OTy α}{B:OTy β}[a:Opn A] [b:Opn B]:Opn (zaY A B) where
 aux:=a.aux×b.aux
 cells u x:=a.cells u.1 x.1++b.cells u.2 x.2
 own u x:=a.own u.1 x.1++b.own u.2 x.2
 facts σ u x:=a.facts σ u.1 x.1∧b.facts σ u.2 x.2
 spec:=by
  rintro σ h cs x ⟨c,d,h1,h2,rfl,l1,l2,dd,p,q⟩
  obtain ⟨u,rfl,f1,s1⟩:=a.spec p
  obtain ⟨v,rfl,f2,s2⟩:=b.spec q
  exact ⟨(u,v),rfl,⟨f1,f2⟩,s1.append s2 l1 l2 dd⟩
 back:=by
  intro σ h u x f s
  obtain ⟨h1,h2,s1,s2,l1,l2,dd⟩:=s.split
  exact ⟨_,_,h1,h2,rfl,l1,l2,dd,a.back f.1 s1,b.back f.2 s2⟩
instance {α β:Type}{T:OTy α}{f:β→α}[a:Opn T]:Opn (T.comap f) where
 aux:=a.aux
 cells u x:=a.cells u (f x)
 own u x:=a.own u (f x)
 facts σ u x:=a.facts σ u (f x)
 spec r:=a.spec r
 back f s:=a.back f s
instance {α:Type}{T:OTy α}[a:Opn T]:Opn T.aggr where
 aux:=a.aux
 cells:=a.cells
 own:=a.own
 facts:=a.facts
 spec r:=a.spec r
 back f s:=a.back f s
class Fixd {α:Type}(T:OTy α) (T':outParam (Ty α)):Prop where
 size:T'.size=T.size
 up:∀ {σ:FS} {h:zd} {cs:List Value} {x:α},T'.rel σ cs x→T.rel σ h cs x
 down:∀ {σ:FS} {h:zd} {cs:List Value} {x:α},T.rel σ h cs x→T'.rel σ cs x
instance {α:Type}{T:Ty α}:Fixd T.o T:=⟨rfl,fun r=>r,fun r=>r⟩
omit [Dfr] in
instance {α β:Type}{A:OTy α}{B:OTy β}{A':Ty α}{B':Ty β}[a:Fixd A A'] [b:Fixd B B']:Fixd (zaY A B) (zaW A' B'):=⟨by simp [zaY,zaW,a.size,b.size],by
    rintro σ h cs x ⟨c,d,rfl,p,q⟩;exact ⟨c,d,zd.none,zd.none,rfl,zd.none_le _,zd.none_le _,zd.none_disj _,a.up p,b.up q⟩,by
    rintro σ h cs x ⟨c,d,h1,h2,rfl,_,_,_,p,q⟩;exact ⟨c,d,rfl,a.down p,b.down q⟩⟩
instance {α β:Type}{T:OTy α}{T':Ty α}{f:β→α}[a:Fixd T T']:Fixd (T.comap f) (T'.comap f):=⟨a.size,fun r=>a.up r,fun r=>a.down r⟩
instance {α:Type}{T:OTy α}{T':Ty α}[a:Fixd T T']:Fixd T.aggr T'.aggr:=⟨a.size,fun r=>a.up r,fun r=>a.down r⟩
omit [Dfr] in
theorem Fixd.rels {α:Type}{T:OTy α}{T':Ty α}[f:Fixd T T'] {σ:FS}{h:zd}{cs:List Value}{xs:List α}:T.rels σ h cs xs↔T'.rels σ cs xs:=by
 constructor
 ·rintro ⟨h1,hs,h2,_⟩
  exact Ty.rels_of (by rw [h1,f.size]) fun i x hx=>by rw [f.size];exact f.down (h2 i x hx)
 ·intro r
  exact ⟨by rw [← f.size];exact T'.rels_len r,fun _=>zd.none,fun i x hx=>by rw [← f.size];exact f.up (T'.rels_get i r hx),fun _ _ _=>zd.none_disj _,fun _=>zd.none_le _⟩
section
variable {ρ:Type}{n:Nat}{w0:Start}{w:World}{σ0 σ:FS}{p:Option ρ}{G:ρ→Act→World→Prop}{L:List (Nat×Value)}{b:Nat→Value}{PV PV':List Priv}
variable {P:Program}{ops:Array Oper}{o:Oper}{rest:List Oper}
variable {H:Option ρ→List (Nat×Value)→FS→List Priv→Prop}{d:Nat}{v:Value}{t t' ty:TypeId}{ps:String}{af:Array Edge}{g:Option (Nat×Bool)}
variable {x y z:Operand}{k:IntKind}{i j:Int}
omit [Dfr] in
theorem Sl.set_same {α:Type}{s:Sl α}{q:α}(hq:ze s i=some q):s.set i q=s:=by
 obtain ⟨h0,h1⟩:=yU.1 hq
 unfold Sl.set
 obtain ⟨hl,he⟩:=List.getElem?_eq_some_iff.1 h1
 rw [← he,List.set_getElem_self]
omit [Dfr] in
theorem zjs.nil {α:Type}{T:OTy α}{h:zd}:zjs T σ h [] []:=⟨OTy.rels_nil,rfl,by simp⟩
omit [Dfr] in
theorem OTy.rels_single {α:Type}{T:OTy α}{h:zd}{cs:List Value}{x:α}(r:T.rel σ h cs x):T.rels σ h cs [x]:=by
 have hl:=T.len r
 refine ⟨by simp [hl],fun i=>if i=0 then h else zd.none,fun i y hy=>?_,fun i j hij=>?_,fun i=>?_⟩
 ·cases i with
  |zero=>
   simp at hy;subst hy
   simp only [if_true,Nat.zero_mul,List.drop_zero]
   rw [← hl,List.take_length];exact r
  |succ i=>simp at hy
 ·show zd.disj (if i=0 then h else zd.none) (if j=0 then h else zd.none)
  split <;> split
  ·omega
  ·exact zd.disj_none _
  ·exact zd.none_disj _
  ·exact zd.none_disj _
 ·show zd.le (if i=0 then h else zd.none) h
  split
  ·exact .refl _
  ·exact zd.none_le _
omit [Dfr] in
theorem xJ {α:Type}{s s':Sl α}{lo hi:Int}(h:z6 s lo hi=some s'):0≤lo∧lo≤hi∧hi≤s.xs.length∧s'=⟨(s.xs.take hi.toNat).drop lo.toNat,s.nn⟩:=by
 unfold z6 at h
 split at h
 ·cases h;simp_all
 ·cases h
def xw (L:List (Nat×Value)) (b:Nat→Value) (x:Option Operand) (dflt i:Int):Prop:=
 match x with
 |none=>i=dflt
 |some x=>∃ k,opv L b x = .int k i
omit [Dfr] in
theorem Y8 {w:World}{isS:Bool}{m c:Nat}{lo hi:Option Operand}{i j:Int}(hl:xw L b lo 0 i) (hh:xw L b hi (m:Int) j) (h0:0≤i) (h1:i≤j) (h2:j≤c) :
    (Instr.sliceBounds isS m c (lo.map (opv L b)) (hi.map (opv L b)) none).run P w = .ok (i.toNat,j.toNat,c) w:=by
  unfold Instr.sliceBounds
  cases hi with
  |none=>
    simp only [xw] at hh;subst hh
    cases lo with
    |none=>simp only [xw] at hl;subst hl;simp
    |some lo=>
      obtain ⟨kk,hl⟩:=hl
      have hb:=fun code=>run_sliceBound (P:=P) w kk i m code h0 h1
      simp [hl,hb]
  |some hi=>
    obtain ⟨kh,hh⟩:=hh
    have hc:=fun code=>run_sliceBound (P:=P) w kh j c code (by omega) h2
    cases lo with
    |none=>simp only [xw] at hl;subst hl;simp [hh,hc]
    |some lo=>
      obtain ⟨kk,hl⟩:=hl
      have hb:=fun code=>run_sliceBound (P:=P) w kk i j.toNat code h0 (by omega)
      simp [hl,hh,hb,hc]
omit [Dfr] in
theorem zfb {α:Type}{τ:FS}{T:Ty α}{s s':Sl α}{e:TypeId}{ti:TypeInfo}{lo hi:Option Operand}{i j:Int}(hu:P.underlying t=some (.slice e)) (hi':P.info? e=some ti) (hz:ti.size=T.size)
    (hx:opv L b x=v) (hv:(tSl T).vrel τ v s) (hl:xw L b lo 0 i) (hh:xw L b hi s.len j) (hs:z6 s i j=some s') :
    ztm P σ PV L b ⟨some d,.slice t x lo hi none,ty,ps,af,g⟩ (fun u=>(tSl T).vrel τ u s'):=by
  obtain ⟨h1,h2,h3,rfl⟩:=xJ hs
  obtain ⟨a,m,c,rfl,k1,k2,k3,k4,k5,cells,k6,k7⟩:=xv.1 hv
  refine ⟨.slice (if (c:Int)=i then a else a.map (·.add (i.toNat * T.size))) (j - i).toNat (c - i.toNat),?_,fun w _=>?_⟩
  · refine xv.2 ⟨_,_,_,rfl,?_,?_,?_,?_,?_,(cells.take (j.toNat * T.size)).drop (i.toNat * T.size),?_,?_⟩
    · simp only [List.length_drop,List.length_take];omega
    · rw [← k2];split <;> simp
    · omega
    · omega
    · intro hnone
      have:a=none:=by split at hnone <;> simpa using hnone
      obtain ⟨rfl,rfl⟩:=k5 this
      omega
    · exact T.rels_drop _ (T.rels_take _ k6)
    · intro q u hq
      rw [List.getElem?_drop] at hq
      have hlt:i.toNat * T.size+q < j.toNat * T.size:=by
        have:=(List.getElem?_eq_some_iff.1 hq).1
        simp only [List.length_take] at this;omega
      rw [List.getElem?_take_of_lt hlt] at hq
      obtain ⟨ad,rfl,hc⟩:=k7 _ _ hq
      have hne:¬ (c:Int)=i:=by
        intro e
        have:i.toNat=j.toNat:=by omega
        rw [this] at hlt;omega
      refine ⟨ad.add (i.toNat * T.size),by simp [hne],?_⟩
      rw [Addr.add_add];exact hc
  · have hb:=Y8 (P:=P) (w:=w) (isS:=true) (m:=m) (c:=c) hl (by rw [k1];exact hh) h1 h2 (by omega)
    have hs2:(Instr.sliceAt t (.slice a m c) (lo.map (opv L b)) (hi.map (opv L b)) none).run P w = .ok (.slice (if (c:Int)=i then a else a.map (·.add (i.toNat * T.size))) (j - i).toNat (c - i.toNat)) w:=by
      unfold Instr.sliceAt Instr.slice
      simp only [Sem.run_bind,run_underlying hu,Result.andThen_ok]
      simp only [Sem.run_bind,Result.andThen_ok,hb,sizeOf,typeInfo,run_program,hi',Sem.run_pure,hz]
      rw [show j.toNat - i.toNat=(j - i).toNat by omega]
      by_cases hci:(c:Int)=i
      · rw [if_pos hci,if_pos (by omega)]
      · rw [if_neg hci,if_neg (by omega)]
    simp only [execOp,hx,Sem.run_bind,hs2,Result.andThen_ok,Sem.run_pure,Option.map_none]
omit [Dfr] in
theorem zju {s:ByteArray}{i c:Int}(h:Z0 s i=some c):0≤i∧∃ u:UInt8,s.data.toList[i.toNat]?=some u∧c=u.toNat:=by
 unfold Z0 at h
 split at h
 ·rename_i h0
  cases hu:s.data.toList[i.toNat]? with
  |none=>rw [hu] at h;cases h
  |some u=>rw [hu] at h;simp at h;exact ⟨h0,u,rfl,h.symm⟩
 ·cases h
omit [Dfr] in
theorem zfc {s:ByteArray}{c:Int}(hu:P.underlying t=some .string) (hx:opv L b x = .string s) (hy:opv L b y = .int k i) (hc:Z0 s i=some c) :
    zZ P σ PV L b ⟨some d,.index t x y,ty,ps,af,g⟩ (.int .u8 c):=fun w _=>by
  obtain ⟨h0,u,h1,rfl⟩:=zju hc
  have hu':(s[i.toNat]?:Option UInt8)=some u:=by
    rw [← h1]
    obtain ⟨hl,_⟩:=List.getElem?_eq_some_iff.1 h1
    have hl2:i.toNat < s.size:=by simpa using hl
    rw [getElem?_pos s i.toNat hl2,List.getElem?_eq_getElem hl]
    rfl
  simp [execOp,hx,hy,Instr.index,asIntOf,run_underlying hu,h0,hu']
omit [Dfr] in
theorem zfQ (s u:ByteArray):(s.toList == u.toList)=decide (s=u):=by
 rw [ByteArray.toList_eq,ByteArray.toList_eq]
 by_cases h:s=u
 ·subst h;simp
 ·have hd:¬ s.data=u.data:=fun e=>h (by cases s;cases u;simp at e;simp [e])
  simp [h,hd]
omit [Dfr] in
theorem zrN {s u:ByteArray}(hx:opv L b x = .string s) (hy:opv L b y = .string u):zZ P σ PV L b ⟨some d,.binOp .eql t x y t',ty,ps,af,g⟩ (.bool (decide (s=u))):=fun w _=>by
 simp [execOp,hx,hy,eqGuard,binOp,Op.stringOp,← zfQ]
omit [Dfr] in
theorem zrO {s u:ByteArray}(hx:opv L b x = .string s) (hy:opv L b y = .string u):zZ P σ PV L b ⟨some d,.binOp .neq t x y t',ty,ps,af,g⟩ (.bool (decide (s≠u))):=fun w _=>by
 have:(decide (s≠u)) = !decide (s=u):=by by_cases h:s=u <;> simp [h]
 rw [this,← zfQ]
 simp [execOp,hx,hy,eqGuard,binOp,Op.stringOp]
omit [Dfr] in
theorem zhq {s s':ByteArray}{lo hi:Int}(h:yY s lo hi=some s'):0≤lo∧lo≤hi∧hi≤s.size∧s'=s.extract lo.toNat hi.toNat:=by
 unfold yY at h
 split at h
 ·cases h;simp_all
 ·cases h
omit [Dfr] in
theorem zfd {s s':ByteArray}{lo hi:Option Operand}{i j:Int}(hu:P.underlying t=some .string)
    (hx:opv L b x = .string s) (hl:xw L b lo 0 i) (hh:xw L b hi s.size j) (hs:yY s i j=some s') :
    zZ P σ PV L b ⟨some d,.slice t x lo hi none,ty,ps,af,g⟩ (.string s'):=fun w _=>by
  obtain ⟨h1,h2,h3,rfl⟩:=zhq hs
  have hb:=Y8 (P:=P) (w:=w) (isS:=false) (m:=s.size) (c:=s.size) hl hh h1 h2 h3
  have hs2:(Instr.sliceAt t (.string s) (lo.map (opv L b)) (hi.map (opv L b)) none).run P w = .ok (.string (s.extract i.toNat j.toNat)) w:=by
    unfold Instr.sliceAt Instr.slice
    simp only [Sem.run_bind,run_underlying hu,Result.andThen_ok]
    simp [Result.andThen_ok,hb]
  simp only [execOp,hx,Sem.run_bind,hs2,Result.andThen_ok,Sem.run_pure,Option.map_none]
def fieldsOf (d:TypeDesc):Array Field:=
 match d with
 | .struct fs=>fs
 |_=> #[]
def VS (pls:List (Nat×Nat)):List Value→List (Nat×List Value)→Option (List Value)
 |cs,[]=>some cs
 |cs,(i,c)::r=>match pls[i]? with
  |none=>none
  |some (off,size)=>bif Nat.beq c.length size && Nat.ble (off+c.length) cs.length then VS pls (cs.take off++c++cs.drop (off+c.length)) r else none
def zb6:List (Nat×Value)→List (Nat×List Value)→Prop
 |[],[]=>True
 |(i,v)::r,(j,c)::s=>i=j∧v.cells.toList=c∧zb6 r s
 |_,_=>False
omit [Dfr] in
theorem zhr (pls:List (Nat×Nat)):∀ (ps:List (Nat×Value)) (pcs:List (Nat×List Value)) (cs:Array Value) (r:List Value),zb6 ps pcs→VS pls cs.toList pcs=some r→
    Instr.fill (fun i=>pls[i]?) cs ps=some r.toArray
  |[],[],cs,r,_,h=>by simp [VS] at h;simp [Instr.fill,← h]
  |(i,v)::ps,(j,c)::pcs,cs,r,⟨e1,e2,e3⟩,h=>by
    subst e1;subst e2
    simp only [VS] at h
    simp only [Instr.fill]
    cases hp:pls[i]? with
    |none=>rw [hp] at h;cases h
    |some q=>
      obtain ⟨off,size⟩:=q
      rw [hp] at h
      simp only at h ⊢
      cases hc:(Nat.beq v.cells.toList.length size && Nat.ble (off+v.cells.toList.length) cs.toList.length) with
      |false=>rw [hc] at h;cases h
      |true=>
        rw [hc] at h
        simp only [Bool.and_eq_true] at hc
        have h1:v.cells.toList.length=size:=Nat.eq_of_beq_eq_true hc.1
        have h2:off+v.cells.toList.length≤cs.toList.length:=Nat.le_of_ble_eq_true hc.2
        have hfold:=zfO v.cells.toList cs off 0 (by simp at h1 h2 ⊢;omega)
        rw [if_neg (by simp at h1 h2;simp [h1];omega)]
        have e0:(v.cells.zipIdx.foldl (fun cs (x:Value×Nat)=>cs.setIfInBounds (off+x.2) x.1) cs)=(cs.toList.take off++v.cells.toList++cs.toList.drop (off+v.cells.toList.length)).toArray:=by
          apply Array.toList_inj.1
          rw [← Array.foldl_toList]
          simpa using hfold
        rw [show (v.cells.zipIdx.foldl (fun cs x=>match x with | (c,j)=>cs.setIfInBounds (off+j) c) cs)=(v.cells.zipIdx.foldl (fun cs (x:Value×Nat)=>cs.setIfInBounds (off+x.2) x.1) cs) from rfl,e0]
        exact zhr pls ps pcs _ r e3 (by simpa using h)
omit [Dfr] in
theorem zq1 {fs:Array Field}{ti:TypeInfo}{zv:Value}{parts:Array (Nat×Operand)}{vs:List (Nat×Value)}{pcs:List (Nat×List Value)}{pls:List (Nat×Nat)}{cs:List Value}(hu:P.underlying t=some (.struct fs)) (hi:P.info? t=some ti) (hz:ti.zero=some zv)
    (hpl:fs.toList.map (fun f=>(P.info? f.type).map fun i=>(f.offset,i.size))=pls.map some) (hp:(parts.toList.map fun q=>(q.1,opv L b q.2))=vs) (hc:zb6 vs pcs) (hf:VS pls zv.cells.toList pcs=some cs) :
    zZ P σ PV L b ⟨some d,.build t parts,ty,ps,af,g⟩ (.agg cs.toArray):=fun w _=>by
  have hm:∀ (l:List Field) (m:List (Nat×Nat)),l.map (fun f=>(P.info? f.type).map fun i=>(f.offset,i.size))=m.map some→
      (l.mapM (fun f=>do pure (f.offset,← sizeOf f.type):Field→Sem (Nat×Nat))).run P w = .ok m w:=by
    intro l
    induction l with
    |nil=>intro m h;cases m with
      |nil=>simp
      |cons=>simp at h
    |cons f l ih=>
      intro m h
      cases m with
      |nil=>simp at h
      |cons q m=>
        simp only [List.map_cons,List.cons.injEq] at h
        obtain ⟨h1,h2⟩:=h
        cases hi:P.info? f.type with
        |none=>rw [hi] at h1;simp at h1
        |some ti=>
          rw [hi] at h1
          simp only [Option.map_some,Option.some.injEq] at h1
          have hh:((do pure (f.offset,← sizeOf f.type):Sem (Nat×Nat))).run P w = .ok q w:=by simp [Sem.run_bind,sizeOf,typeInfo,hi,h1]
          rw [List.mapM_cons,Sem.run_bind,hh]
          simp only [Result.andThen_ok,Sem.run_bind,ih m h2,Sem.run_pure]
  have hma:(fs.mapM (fun f=>do pure (f.offset,← sizeOf f.type):Field→Sem (Nat×Nat))).run P w = .ok pls.toArray w:=by
    rw [Array.mapM_eq_mapM_toList]
    have h2:=hm _ _ hpl
    have h3:∀ (s:Sem (List (Nat×Nat))) m,s.run P w = .ok m w→(List.toArray <$> s).run P w = .ok m.toArray w:=by
      intro s m hs
      show (s.bind (fun a=>Sem.pure a.toArray)).run P w=_
      have:=Sem.run_bind (P:=P) (w:=w) s (fun a=>(pure a.toArray:Sem (Array (Nat×Nat))))
      refine Eq.trans this ?_
      rw [hs];simp
    exact h3 _ _ h2
  have hpa:(parts.map fun (q:Nat×Operand)=>(q.1,opv L b q.2)).toList=vs:=by rw [Array.toList_map];exact hp
  have hfill:=zhr pls vs pcs zv.cells cs hc hf
  have:(Instr.build t (parts.map fun q=>(q.1,opv L b q.2))).run P w = .ok (.agg cs.toArray) w:=by
    unfold Instr.build
    simp only [Sem.run_bind,zeroValue,typeInfo,run_program,Result.andThen_ok,hi,Sem.run_pure,hz,run_underlying hu,hma,hpa]
    rw [show (fun i=>pls.toArray[i]?)=fun i=>pls[i]? by funext i;simp]
    simp [hfill]
  simp only [execOp,Sem.run_bind,this,Result.andThen_ok,Sem.run_pure]
omit [Dfr] in
theorem zq2 {fs:Array Field}{f:Field}{m:Nat}{td:TypeDesc}{ti:TypeInfo}{cs cs':List Value}(hu:P.underlying t=some (.struct fs)) (hf:fs[m]?=some f) (hud:P.underlying f.type=some td) (hi:P.info? f.type=some ti)
    (hx:opv L b x = .agg cs.toArray) (hcs:(cs.drop f.offset).take ti.size=cs') (hl:cs'.length=ti.size) (h1:Zh td=false→ti.size=1) (hv:yG (Zh td) cs'=v) :
    zZ P σ PV L b ⟨some d,.field t x m,ty,ps,af,g⟩ v:=fun w _=>by
  have hagg:(Go.isAgg f.type).run P w=Result.ok (Zh td) w:=by
    unfold Go.isAgg
    rw [Sem.run_bind,run_underlying hud]
    cases td <;> rfl
  have:(Instr.field t (.agg cs.toArray) m).run P w = .ok v w:=by
    unfold Instr.field
    simp only [Sem.run_bind,run_underlying hu,Result.andThen_ok,hf,asAgg,Sem.run_pure,part,hagg]
    subst hcs
    cases hd:Zh td with
    |true=>
      rw [hd] at hv
      subst hv
      simp [Sem.run_bind,sizeOf,typeInfo,hi,yG]
    |false=>
      rw [hd] at hv
      have h1':=h1 hd
      rw [h1'] at hl hv
      have:cs[f.offset]?=some v:=by
        rw [← hv]
        have hlt:f.offset < cs.length:=by
          rcases Nat.lt_or_ge f.offset cs.length with h | h
          · exact h
          · rw [List.drop_eq_nil_of_le h] at hl;simp at hl
        rw [List.getElem?_eq_getElem hlt]
        simp only [yG,cond_false,List.drop_eq_getElem_cons hlt,List.take_succ_cons,List.headD_cons]
      simp [this]
  simp only [execOp,hx,Sem.run_bind,this,Result.andThen_ok,Sem.run_pure]
omit [Dfr] in
theorem zgm {k':IntKind}{td:TypeDesc}(hu:P.underlying t=some td) (hu':P.underlying t'=some (.int k')) (hx:opv L b x = .int k i):zZ P σ PV L b ⟨some d,.convert t t' x,ty,ps,af,g⟩ (.int k' (k'.wrap i)):=fun w _=>by
 simp [execOp,hx,convert,run_underlying hu,run_underlying hu',Conv.intToInt]
end
end Go.Px
namespace Go.Px
set_option linter.unusedSectionVars false
variable [Dfr]
set_option linter.unusedVariables false
def ZX {α β:Type}(T:OTy α) (off:Nat) (Tf:Ty β) (proj:α→β):Prop:=∀ σ h cs x,T.rel σ h cs x→Tf.rel σ ((cs.drop off).take Tf.size) (proj x)
omit [Dfr] in
theorem ZX.of {α β:Type}{T:Ty α}{Tf:Ty β}{off:Nat}{proj:α→β}(f:wC T off Tf proj):ZX T.o off Tf proj:=fun σ h cs x r=>f σ cs x r
omit [Dfr] in
theorem ZX.self {α:Type}{T:OTy α}{T':Ty α}[f:Fixd T T']:ZX T 0 T' id:=fun σ h cs x r=>by
 have:=T'.len (f.down r)
 simp only [List.drop_zero,id];rw [← this,List.take_length];exact f.down r
omit [Dfr] in
theorem ZX.fst {α β γ:Type}{A:OTy α}{B:OTy β}{Tf:Ty γ}{off:Nat}{proj:α→γ}(f:ZX A off Tf proj) (hl:off+Tf.size≤A.size):ZX (zaY A B) off Tf (fun x=>proj x.1):=by
 rintro σ h cs x ⟨c,d,h1,h2,rfl,_,_,_,p,q⟩
 have:=A.len p
 rw [List.drop_append_of_le_length (by omega),List.take_append_of_le_length (by simp;omega)]
 exact f σ h1 c x.1 p
omit [Dfr] in
theorem ZX.snd {α β γ:Type}{A:OTy α}{B:OTy β}{Tf:Ty γ}{off:Nat}{proj:β→γ}(f:ZX B off Tf proj):ZX (zaY A B) (A.size+off) Tf (fun x=>proj x.2):=by
 rintro σ h cs x ⟨c,d,h1,h2,rfl,_,_,_,p,q⟩
 have:=A.len p
 rw [← this,← List.drop_drop,List.drop_left]
 exact f σ h2 d x.2 q
omit [Dfr] in
theorem ZX.comap {α β γ:Type}{T:OTy α}{Tf:Ty γ}{off:Nat}{proj:α→γ}{g:β→α}(f:ZX T off Tf proj):ZX (T.comap g) off Tf (fun x=>proj (g x)):=fun σ h cs x r=>f σ h cs (g x) r
section
variable {ρ:Type}{n:Nat}{w0:Start}{w:World}{σ0 σ:FS}{p:Option ρ}{G:ρ→Act→World→Prop}{L:List (Nat×Value)}{b:Nat→Value}{PV PV':List Priv}
variable {P:Program}{ops:Array Oper}{o:Oper}{rest:List Oper}
variable {H:Option ρ→List (Nat×Value)→FS→List Priv→Prop}{d:Nat}{v:Value}{t t' ty:TypeId}{ps:String}{af:Array Edge}{g:Option (Nat×Bool)}
variable {x y z:Operand}{k:IntKind}{i j:Int}
omit [Dfr] in
theorem HeldOK.view {σr:FS}{PVr:List Priv}(hS:HeldOK σr PVr σ PV) (hv:∀ h,Sep σ PV' h→Sep σ PV h):HeldOK σr PVr σ PV':=⟨hS.le,fun h k=>hS.all h (hv h k)⟩
omit [Dfr] in
theorem zaH {α β:Type}{T:OTy α}{Tf:Ty β}{proj:α→β}{s:Sl α}{q:α}{off:Nat}{e:TypeId}{h:zd}(hr:zn T e v s σ h) (hs:h.sub w) (hq:ze s i=some q) (hf:ZX T off Tf proj) (hoff:off+Tf.size≤T.size) :
    ∃ cs,Tf.rel σ cs (proj q)∧∀ (j:Nat) (u:Value),cs[j]?=some u→w.cell? ((zl v (i.toNat * T.size+off)).add j)=some u:=by
  have hlt:=Vf hq
  rcases hr with ⟨_,rfl⟩ | ⟨_,_,rfl⟩ | ⟨gb,cap,cur,hb,gg,rfl,r2,r3,r4,r5,r0,r6,r7,r8,r9,r10⟩
  · simp at hlt;omega
  · simp at hlt;omega
  obtain ⟨k1,hs',k2,k3,k4⟩:=r10
  have hel:=k2 i.toNat q (yU.1 hq).2
  have hfl:=hf σ _ _ _ hel
  have hlen:=Tf.len hfl
  refine ⟨_,hfl,fun j u hj=>?_⟩
  have hj':j < Tf.size:=by
    have:=(List.getElem?_eq_some_iff.1 hj).1
    rw [hlen] at this;exact this
  rw [List.getElem?_take_of_lt hj',List.getElem?_drop,List.getElem?_take_of_lt (by omega),List.getElem?_drop] at hj
  have hbb:i.toNat * T.size+(off+j) < s.xs.length * T.size:=by
    have:(i.toNat+1) * T.size≤s.xs.length * T.size:=Nat.mul_le_mul_right _ (by omega)
    rw [Nat.add_mul] at this;omega
  rw [List.getElem?_take_of_lt hbb] at hj
  simp only [zl,Addr.add_add]
  rw [show i.toNat * T.size+off+j=i.toNat * T.size+(off+j) by omega]
  rw [Addr.add_eq _ rfl]
  simpa using hs.cell (r0 _ _ _ (r7 _ _ hj))
omit [Dfr] in
theorem vS {a:Addr}(hx:opv L b x = .pointer (some a)):zZ P σ PV L b ⟨some d,.nilCheck x,ty,ps,af,g⟩ (.pointer (some a)):=fun w _=>by
 simp [execOp,hx]
omit [Dfr] in
theorem zbS {w:World}{e:TypeId}{a:Option Addr}(hu:P.underlying t=some (.pointer e)):(Op.equal t (.pointer a) (.pointer none)).run P w = .ok (a.isNone) w:=by
 have key:∀ d,(Op.equalIn (d+1) t (.pointer a) (.pointer none)).run P w = .ok (a.isNone) w:=fun d=>by
  cases a <;> simp [Op.equalIn,run_underlying hu]
 exact key 9999
omit [Dfr] in
theorem ziw {e:TypeId}{a:Option Addr}(hu:P.underlying t=some (.pointer e)) (hx:opv L b x = .pointer a) (hy:opv L b y = .pointer none) {r:Bool}(hr:a.isNone=r):zZ P σ PV L b ⟨some d,.binOp .eql t x y t',ty,ps,af,g⟩ (.bool r):=fun w _=>by
 subst hr
 simp [execOp,hx,hy,eqGuard,binOp,zbS hu]
omit [Dfr] in
theorem zix {e:TypeId}{a:Option Addr}(hu:P.underlying t=some (.pointer e)) (hx:opv L b x = .pointer a) (hy:opv L b y = .pointer none) {r:Bool}(hr:(!a.isNone)=r):zZ P σ PV L b ⟨some d,.binOp .neq t x y t',ty,ps,af,g⟩ (.bool r):=fun w _=>by
 subst hr
 simp [execOp,hx,hy,eqGuard,binOp,zbS hu]
theorem zhs {α:Type}{T:OTy α}{s:Sl α}{e e':TypeId}{ti:TypeInfo}{lo hi:Option Operand}{kk:Sl α→Option ρ}(m:Nat) (hn:Nat.blt d n=true) (hu:P.underlying t=some (.slice e)) (hi':P.info? e=some ti) (hz:ti.size=T.size)
    (hx:opv L b x=v) (hm:PV[m]?=some (.row T e' v s)) (hl:xw L b lo 0 0) (hh:xw L b hi s.len j)
    (h:∀ s' v',z6 s 0 j=some s'→H (kk s') ((d,v')::L) σ (PV.set m (.row T e' v' s'))) :
    Wk P n w0 σ0 ⟨some d,.slice t x lo hi none,ty,ps,af,g⟩ ((z6 s 0 j).bind kk) L b σ PV H:=by
  intro r hp a w hinv hft K Q hK
  cases hg:z6 s 0 j with
  |none=>rw [hg] at hp;cases hp
  |some s'=>
    rw [hg] at hp
    obtain ⟨h1,h2,h3,rfl⟩:=xJ hg
    obtain ⟨hh0,hr,hsub⟩:=hinv.held.get hm
    obtain ⟨a0,c,rfl,k2,k3,k3',k4,k5⟩:=zn.form hr
    have hb:=Y8 (P:=P) (w:=w) (isS:=true) (m:=s.xs.length) (c:=c) hl hh (by omega) h2 (by omega)
    have hs2:(Instr.sliceAt t (.slice a0 s.xs.length c) (lo.map (opv L b)) (hi.map (opv L b)) none).run P w = .ok (.slice a0 j.toNat c) w:=by
      unfold Instr.sliceAt Instr.slice
      simp only [Sem.run_bind,run_underlying hu,Result.andThen_ok]
      simp only [Sem.run_bind,Result.andThen_ok,hb,sizeOf,typeInfo,run_program,hi',Sem.run_pure,hz]
      cases a0 with
      |none=>have:=k3' rfl;subst this;simp
      |some a0=> by_cases hc0:c=0
                 · subst hc0;simp
                 · rw [if_neg (by simp;omega)];simp [Addr.add]
    have hrun:(execOp a.eval ⟨some d,.slice t x lo hi none,ty,ps,af,g⟩).run P w = .ok (.value (.slice a0 j.toNat c)) w:=by
      rw [hft.eval];simp only [execOp,hx,Sem.run_bind,hs2,Result.andThen_ok,Sem.run_pure,Option.map_none]
    unfold Oper.wp
    rw [hrun,Oper.upon_value]
    refine hK _ _ σ _ _ w hp (hinv.change hm (p' :=.row T e' (.slice a0 j.toNat c) ⟨(s.xs.take j.toNat).drop (0:Int).toNat,s.nn⟩) fun g1 hg1 hs1=>⟨g1,?_,hs1,.refl w g1,fun b i hx =>.inl hx⟩) (hft.put (by simpa [Nat.blt_eq] using hn) _) (h _ _ hg)
    have hg1:zn T e' (.slice a0 s.xs.length c) s σ g1:=hg1
    have hj:j.toNat≤s.xs.length:=by omega
    have hlen:(s.xs.take j.toNat).length=j.toNat:=by simp;omega
    rcases hg1 with ⟨q1,rfl⟩ | ⟨aq,q1,rfl⟩ | ⟨gb,cap,cur,hb',gg,q1,r2,r3,r4,r5,r0,r6,r7,r8,r9,r10⟩
    · obtain ⟨rfl, -,rfl⟩:a0=none∧_∧c=0:=by injection q1 with a1 a2 a3;exact ⟨a1,a2,a3⟩
      have:j.toNat=0:=by simpa using hj
      exact .inl ⟨by rw [this],by simp⟩
    · obtain ⟨rfl, -,rfl⟩:a0=some aq∧_∧c=0:=by injection q1 with a1 a2 a3;exact ⟨a1,a2,a3⟩
      have:j.toNat=0:=by simpa using hj
      exact .inr (.inl ⟨aq,by rw [this],by simp⟩)
    · obtain ⟨rfl, -,rfl⟩:a0=some ⟨gb,0,none⟩∧_∧c=cap:=by injection q1 with a1 a2 a3;exact ⟨a1,a2,a3⟩
      refine .inr (.inr ⟨gb,c,cur,hb',gg,by simp [hlen],r2,by simp [hlen];omega,r4,r5,r0,r6,r7,r8,r9,?_⟩)
      have:=OTy.rels_take j.toNat r10
      simp only [Int.toNat_zero,List.drop_zero,hlen]
      rwa [List.take_take,Nat.min_eq_left (Nat.mul_le_mul_right _ hj)] at this
def YC (P:Program) (t:TypeId) (d:Nat) (x y:Value) (r:Bool):Prop:=∀ m w,(Op.equalIn (m+d) t x y).run P w = .ok r w
omit [Dfr] in
theorem YC.int (hu:P.underlying t=some (.int k)):YC P t 1 (.int k i) (.int k j) (decide (i=j)):=fun m w=>by
 have:(i == j)=decide (i=j):=by by_cases h:i=j <;> simp [h]
 simp [Op.equalIn,run_underlying hu,this]
omit [Dfr] in
theorem YC.bool {e q:Bool}(hu:P.underlying t=some .bool):YC P t 1 (.bool e) (.bool q) (decide (e=q)):=fun m w=>by
 have:(e == q)=decide (e=q):=by cases e <;> cases q <;> rfl
 simp [Op.equalIn,run_underlying hu,this]
omit [Dfr] in
theorem YC.str {s u:ByteArray}(hu:P.underlying t=some .string):YC P t 1 (.string s) (.string u) (decide (s=u)):=fun m w=>by
 have:(s == u)=decide (s=u):=by
  show ByteArray.beq s u=_
  cases s with | mk s=>cases u with | mk u=>
  by_cases h:s=u
  ·subst h;simp [ByteArray.beq]
  ·simp [h,ByteArray.beq]
 simp [Op.equalIn,run_underlying hu,this]
def zht (P:Program) (xs ys:Array Value) (d:Nat):List Field→Bool→Prop
 |[],r=>r=true
 | f :: fs, r => ∃ u v r1 r2, (∀ w, (part f.type xs f.offset).run P w = .ok u w) ∧ (∀ w, (part f.type ys f.offset).run P w = .ok v w) ∧ f.name ≠ "_" ∧ YC P f.type d u v r1 ∧ zht P xs ys d fs r2 ∧ r = (r1 && r2)
omit [Dfr] in
theorem zht.run {xs ys:Array Value}{d:Nat}:∀ {fs:List Field}{r:Bool},zht P xs ys d fs r→∀ m w,(Op.eqFields (m+d) xs ys fs).run P w = .ok r w
 |[],r,h,m,w=>by rw [show r=true from h];simp [Op.eqFields]
 |f::fs,r,⟨u,v,r1,r2,h1,h2,h3,h4,h5,h6⟩,m,w=>by
  subst h6
  have:=zht.run h5 m w
  cases r1 <;> simp [Op.eqFields,h3,h1 w,h2 w,h4 m w,this]
omit [Dfr] in
theorem YC.struct {fs:Array Field}{xs ys:Array Value}{d:Nat}{r:Bool}(hu:P.underlying t=some (.struct fs)) (hp:P.stoodInHeld t=false) (h:zht P xs ys d fs.toList r):YC P t (d+1) (.agg xs) (.agg ys) r:=fun m w=>by
 have hf:P.fieldsOf t=fs:=by simp [Program.fieldsOf,hu]
 rw [show m+(d+1)=(m+d)+1 by omega,run_equalIn_struct w (m+d) t xs ys (by rw [hf];exact hu) hp,hf]
 exact h.run m w
omit [Dfr] in
theorem YC.mono {d d':Nat}{u:Value}{r:Bool}(h:YC P t d v u r) (hd:d≤d'):YC P t d' v u r:=fun m w=>by
 have:=h (m+(d' - d)) w
 rwa [show m+(d' - d)+d=m+d' by omega] at this
omit [Dfr] in
theorem zhu {td:TypeDesc}{ti:TypeInfo}{cs cs':List Value}{off:Nat}(hud:P.underlying t=some td) (hi:P.info? t=some ti)
    (hcs:(cs.drop off).take ti.size=cs') (hl:cs'.length=ti.size) (h1:Zh td=false→ti.size=1) (hv:yG (Zh td) cs'=v):∀ w,(part t cs.toArray off).run P w = .ok v w:=fun w=>by
  have hagg:(Go.isAgg t).run P w=Result.ok (Zh td) w:=by
    unfold Go.isAgg
    rw [Sem.run_bind,run_underlying hud]
    cases td <;> rfl
  simp only [part,Sem.run_bind,hagg,Result.andThen_ok]
  subst hcs
  cases hd:Zh td with
  |true=>
    rw [hd] at hv
    subst hv
    simp [Sem.run_bind,sizeOf,typeInfo,hi,yG]
  |false=>
    rw [hd] at hv
    have h1':=h1 hd
    rw [h1'] at hl hv
    have:cs[off]?=some v:=by
      rw [← hv]
      have hlt:off < cs.length:=by
        rcases Nat.lt_or_ge off cs.length with h | h
        · exact h
        · rw [List.drop_eq_nil_of_le h] at hl;simp at hl
      rw [List.getElem?_eq_getElem hlt]
      simp only [yG,cond_false,List.drop_eq_getElem_cons hlt,List.take_succ_cons,List.headD_cons]
    simp [this]
omit [Dfr] in
theorem zhv {xs ys:Array Value}{dd:Nat}{r:Bool}(hg:P.eqGuardType P.depth t=false) (hx:opv L b x = .agg xs) (hy:opv L b y = .agg ys) (hd:dd≤10000) (h:YC P t dd (.agg xs) (.agg ys) r):zZ P σ PV L b ⟨some d,.binOp .eql t x y t',ty,ps,af,g⟩ (.bool r):=fun w _=>by
 have:=h (10000 - dd) w
 rw [show 10000 - dd+dd=10000 by omega] at this
 have h2:(Op.equal t (.agg xs) (.agg ys)).run P w = .ok r w:=this
 simp [execOp,hx,hy,eqGuard,hg,binOp,h2]
omit [Dfr] in
theorem zhw {xs ys:Array Value}{dd:Nat}{r:Bool}(hg:P.eqGuardType P.depth t=false) (hx:opv L b x = .agg xs) (hy:opv L b y = .agg ys) (hd:dd≤10000) (h:YC P t dd (.agg xs) (.agg ys) r):zZ P σ PV L b ⟨some d,.binOp .neq t x y t',ty,ps,af,g⟩ (.bool !r):=fun w _=>by
 have:=h (10000 - dd) w
 rw [show 10000 - dd+dd=10000 by omega] at this
 have h2:(Op.equal t (.agg xs) (.agg ys)).run P w = .ok r w:=this
 simp [execOp,hx,hy,eqGuard,hg,binOp,h2]
end
end Go.Px
namespace Go.Px
set_option linter.unusedSectionVars false
variable [Dfr]
section
variable {ρ:Type}{n:Nat}{w0:Start}{σ0 σ:FS}{p:Option ρ}{L:List (Nat×Value)}{b:Nat→Value}{PV:List Priv}{P:Program}{Q:ρ→Exit→Act→World→Prop}
end
end Go.Px
namespace Go.Px
set_option linter.unusedSectionVars false
variable [Dfr]
end Go.Px
namespace Go.Px
set_option linter.unusedSectionVars false
variable [Dfr]
section
variable {ρ:Type}{n:Nat}{w0:Start}{w:World}{σ0 σ:FS}{L:List (Nat×Value)}{b:Nat→Value}{PV PV':List Priv}{P:Program}
def ZP (tmps:Array Value):ResultVar→Sem Value
 | .tmp t=>pure (tmps.getD t undef)
 | .cell a t=>do loadVar t (← asAddr (tmps.getD a undef))
omit [Dfr] in
theorem ziy {fn:Func}{r1:ResultVar}{v1:Value}{tmps:Array Value}(h:fn.results = #[r1]) (h1:(ZP tmps r1).run P w = .ok v1 w):(results fn tmps).run P w = .ok v1 w:=by
 have e:results fn tmps=(do let v ← ZP tmps r1;pure v):=by
  cases r1 <;> simp [results,h,ZP]
 rw [e];simp [h1]
omit [Dfr] in
theorem ziz {fn:Func}{r1 r2:ResultVar}{v1 v2:Value}{tmps:Array Value}(h:fn.results = #[r1,r2]) (h1:(ZP tmps r1).run P w = .ok v1 w) (h2:(ZP tmps r2).run P w = .ok v2 w) :
    (results fn tmps).run P w = .ok (.tuple #[v1,v2]) w:=by
  have e:results fn tmps=(do let v ← ZP tmps r1;let u ← ZP tmps r2;pure (.tuple #[v,u])):=by
    cases r1 <;> cases r2 <;> simp [results,h,ZP]
  rw [e];simp [h1,h2]
omit [Dfr] in
theorem ziA {fn:Func}{r1 r2 r3:ResultVar}{v1 v2 v3:Value}{tmps:Array Value}(h:fn.results = #[r1,r2,r3]) (h1:(ZP tmps r1).run P w = .ok v1 w) (h2:(ZP tmps r2).run P w = .ok v2 w) (h3:(ZP tmps r3).run P w = .ok v3 w) :
    (results fn tmps).run P w = .ok (.tuple #[v1,v2,v3]) w:=by
  have e:results fn tmps=(do let v ← ZP tmps r1;let u ← ZP tmps r2;let z ← ZP tmps r3;pure (.tuple #[v,u,z])):=by
    cases r1 <;> cases r2 <;> cases r3 <;> simp [results,h,ZP]
  rw [e];simp [h1,h2,h3]
omit [Dfr] in
theorem ziB {fn:Func}{r1 r2 r3 r4:ResultVar}{v1 v2 v3 v4:Value}{tmps:Array Value}(h:fn.results = #[r1,r2,r3,r4]) (h1:(ZP tmps r1).run P w = .ok v1 w) (h2:(ZP tmps r2).run P w = .ok v2 w) (h3:(ZP tmps r3).run P w = .ok v3 w) (h4:(ZP tmps r4).run P w = .ok v4 w) :
    (results fn tmps).run P w = .ok (.tuple #[v1,v2,v3,v4]) w:=by
  have e:results fn tmps=(do let v ← ZP tmps r1;let u ← ZP tmps r2;let z ← ZP tmps r3;let y ← ZP tmps r4;pure (.tuple #[v,u,z,y])):=by
    cases r1 <;> cases r2 <;> cases r3 <;> cases r4 <;> simp [results,h,ZP]
  rw [e];simp [h1,h2,h3,h4]
omit [Dfr] in
theorem ziC {fn:Func}{tmps:Array Value}(h:fn.results = #[]):(results fn tmps).run P w = .ok (.tuple #[]) w:=by
 simp [results,h]
variable {fn:Func}{post:ρ→FS→List Priv→Value→Prop}{r:ρ}
end
end Go.Px
namespace Go.Px
set_option linter.unusedSectionVars false
variable [Dfr]
end Go.Px
namespace Go.Px
set_option linter.unusedSectionVars false
variable [Dfr]
set_option linter.unusedVariables false
section
variable {ρ:Type}{n:Nat}{w0:Start}{σ0 σ:FS}{p:Option ρ}{L:List (Nat×Value)}{b:Nat→Value}{PV PV':List Priv}{P:Program}
variable {H:Option ρ→List (Nat×Value)→FS→List Priv→Prop}{d:Nat}{v:Value}{t t' ty:TypeId}{ps:String}{af:Array Edge}{g:Option (Nat×Bool)}{x y:Operand}{k:IntKind}{i:Int}
end
end Go.Px
namespace Go.Px
set_option linter.unusedSectionVars false
variable [Dfr]
set_option linter.unusedVariables false
section
variable {ρ:Type}{n:Nat}{w0:Start}{σ0 σ:FS}{p:Option ρ}{L:List (Nat×Value)}{b:Nat→Value}{PV PV':List Priv}{P:Program}
omit [Dfr] in
theorem Inv.past {w w':World}{τ σ':FS}{A':List Priv}(hi:Inv w0 σ0 σ PV w) (hle:σ.le τ) (k:Inv ⟨w,zd.none⟩ τ σ' A' w'):Inv w0 σ0 σ PV w':=by
 obtain ⟨h,hs,hg⟩:=hi.own
 have k2:Inv ⟨w,zd.none⟩ σ σ [] w':=⟨(hle.trans k.le).sub k.sub,.refl σ,fun _ _ _ e =>.inl e,⟨zd.none,Sep.nil,fun _ _ _ (e:(none:Option Bit)=some _)=>(by cases e),fun _ _ (e:(none:Option Bit).isSome=true)=>by simp at e,fun _ _ (e:(none:Option Bit).isSome=true)=>by simp at e⟩,k.ext⟩
 exact hi.call (A':=[]) (C:=PV) (h1:=zd.none) (h2:=h) hg hs (zd.none_le _) (.refl _) (zd.none_disj _) k2
def vD (v:Value) (i j:Int) (size:Nat):Value:=
 match v with
 | .slice a _ c =>.slice (if (c:Int)=i then a else a.map (·.add (i.toNat * size))) (j - i).toNat (c - i.toNat)
 |v=>v
end
end Go.Px
namespace Go.Px
set_option linter.unusedSectionVars false
variable [Dfr]
set_option linter.unusedVariables false
section
variable {ρ:Type}{n:Nat}{w0:Start}{σ0 σ:FS}{p:Option ρ}{L:List (Nat×Value)}{b:Nat→Value}{PV PV':List Priv}{P:Program}
variable {H:Option ρ→List (Nat×Value)→FS→List Priv→Prop}{d:Nat}{v:Value}{t ty:TypeId}{ps:String}{af:Array Edge}{g:Option (Nat×Bool)}{x:Operand}
end
end Go.Px
