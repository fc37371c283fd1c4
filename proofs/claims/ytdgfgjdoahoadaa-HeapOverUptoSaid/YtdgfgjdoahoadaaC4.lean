/- What single operations do. -/
import Derived.Test.YtdgfgjdoahoadaaC3
namespace Go.Px
set_option linter.unusedVariables false

/-- types whose values own memory: their cells, with what is held fast and a fragment of their own -/
structure OTy (α : Type) where
  size : Nat
  agg : Bool
  rel : FS → Frag → List Value → α → Prop
  len : ∀ {σ h cs x}, rel σ h cs x → cs.length = size
  mono : ∀ {σ τ : FS} {h g : Frag} {cs x}, σ.le τ → h.le g → rel σ h cs x → rel τ g cs x
  one : ∀ {σ h cs x}, rel σ h cs x → ∀ u ∈ cs, u.oneCell' = true
  sz : agg = false → size = 1
def OTy.vrel {α : Type} (T : OTy α) (σ : FS) (h : Frag) (v : Value) (x : α) : Prop := T.rel σ h v.cells.toList x ∧ isAggV v = T.agg
def OTy.rels {α : Type} (T : OTy α) (σ : FS) (h : Frag) (cs : List Value) (xs : List α) : Prop :=
  cs.length = xs.length * T.size ∧ ∃ hs : Nat → Frag, (∀ (i : Nat) (x : α), xs[i]? = some x → T.rel σ (hs i) ((cs.drop (i * T.size)).take T.size) x) ∧ (∀ i j, i ≠ j → (hs i).disj (hs j)) ∧ ∀ i, (hs i).le h
theorem OTy.rels_mono {α : Type} {T : OTy α} {σ τ : FS} {h g : Frag} {cs : List Value} {xs : List α} (l : σ.le τ) (m : h.le g) (r : T.rels σ h cs xs) : T.rels τ g cs xs := by
  obtain ⟨h1, hs, h2, h3, h4⟩ := r
  exact ⟨h1, hs, fun i x hx => T.mono l (.refl _) (h2 i x hx), h3, fun i => (h4 i).trans m⟩
theorem OTy.rels_nil {α : Type} {T : OTy α} {σ : FS} {h : Frag} : T.rels σ h [] [] := ⟨by simp, fun _ => Frag.none, fun i x hx => by simp at hx, fun _ _ _ => Frag.none_disj _, fun _ => Frag.none_le _⟩
/-- what is held fast owns nothing -/
def Ty.o {α : Type} (T : Ty α) : OTy α where
  size := T.size
  agg := T.agg
  rel σ _ cs x := T.rel σ cs x
  len h := T.len h
  mono l _ r := T.mono l r
  one r := T.one r
  sz := T.sz
theorem Ty.rels_of {α : Type} {T : Ty α} {σ : FS} : ∀ {xs : List α} {cs : List Value}, cs.length = xs.length * T.size → (∀ (i : Nat) (x : α), xs[i]? = some x → T.rel σ ((cs.drop (i * T.size)).take T.size) x) → T.rels σ cs xs
  | [], cs, hl, _ => List.eq_nil_of_length_eq_zero (by simpa using hl)
  | x :: xs, cs, hl, h => by
    refine ⟨cs.take T.size, cs.drop T.size, (List.take_append_drop _ _).symm, by simpa using h 0 x rfl, Ty.rels_of ?_ ?_⟩
    · simp only [List.length_drop, hl, List.length_cons, Nat.add_mul]; omega
    · intro i y hy
      have := h (i + 1) y (by simpa using hy)
      rw [List.drop_drop, show T.size + i * T.size = (i + 1) * T.size by rw [Nat.add_mul]; omega]; exact this
theorem Ty.rels_o {α : Type} {T : Ty α} {σ : FS} {h : Frag} {xs : List α} {cs : List Value} : T.o.rels σ h cs xs ↔ T.rels σ cs xs := by
  constructor
  · rintro ⟨h1, hs, h2, _⟩; exact Ty.rels_of h1 h2
  · intro r
    exact ⟨T.rels_len r, fun _ => Frag.none, fun i x hx => T.rels_get i r hx, fun _ _ _ => Frag.none_disj _, fun _ => Frag.none_le _⟩
theorem OTy.rels_one {α : Type} {T : OTy α} {σ : FS} {h : Frag} {cs : List Value} {xs : List α} (r : T.rels σ h cs xs) : ∀ u ∈ cs, u.oneCell' = true := by
  obtain ⟨hl, hs, h2, _⟩ := r
  intro u hu
  obtain ⟨j, hj⟩ := List.mem_iff_getElem?.1 hu
  have hlt := (List.getElem?_eq_some_iff.1 hj).1
  have h0 : 0 < T.size := by
    rcases Nat.eq_zero_or_pos T.size with e | e
    · rw [hl, e] at hlt; simp at hlt
    · exact e
  have hi : j / T.size < xs.length := by rw [Nat.div_lt_iff_lt_mul h0]; omega
  refine T.one (h2 (j / T.size) _ (List.getElem?_eq_getElem hi)) u ?_
  have hm := Nat.mod_lt j h0
  have hdm := Nat.div_add_mod j T.size
  rw [Nat.mul_comm] at hdm
  refine List.mem_of_getElem? (i := j % T.size) ?_
  rw [List.getElem?_take_of_lt hm, List.getElem?_drop, hdm]; exact hj

/-! what is owned: cells at an address; a slice's row with what its elements own -/
def cellHolds (a : Addr) (cs : List Value) (h : Frag) : Prop := a.spot = none ∧ ∀ (j : Nat) (u : Value), cs[j]? = some u → h a.block (a.off + j + 1) = some (.cell u)
def Priv.cell (a : Addr) (cs : List Value) : Priv where
  holds _ h := cellHolds a cs h
  mono _ l k := ⟨k.1, fun j u hj => l _ _ _ (k.2 j u hj)⟩
def rowHolds {α : Type} (T : OTy α) (e : TypeId) (v : Value) (s : Sl α) (σ : FS) (h : Frag) : Prop :=
  (v = .slice none 0 0 ∧ s = ⟨[], false⟩) ∨ (∃ a : Addr, v = .slice (some a) 0 0 ∧ s = ⟨[], true⟩) ∨
  ∃ (q cap : Nat) (cur : List Value) (hb g : Frag), v = .slice (some ⟨q, 0, none⟩) s.xs.length cap ∧ s.nn = true ∧ s.xs.length ≤ cap ∧ cap ≤ maxLen ∧ cap * T.size ≤ cur.length ∧
    hb.le h ∧ hb q 0 = some (.shape e cur.length) ∧ (∀ (j : Nat) (u : Value), cur[j]? = some u → hb q (j + 1) = some (.cell u)) ∧ g.le h ∧ hb.disj g ∧ T.rels σ g (cur.take (s.xs.length * T.size)) s.xs
theorem rowHolds.mono {α : Type} {T : OTy α} {e : TypeId} {v : Value} {s : Sl α} {σ τ : FS} {h g : Frag} (l : σ.le τ) (m : h.le g) (r : rowHolds T e v s σ h) : rowHolds T e v s τ g := by
  rcases r with r | r | ⟨q, cap, cur, hb, gg, r1, r2, r3, r4, r5, r0, r6, r7, r8, r9, r10⟩
  · exact .inl r
  · exact .inr (.inl r)
  · exact .inr <| .inr ⟨q, cap, cur, hb, gg, r1, r2, r3, r4, r5, r0.trans m, r6, r7, r8.trans m, r9, T.rels_mono l (.refl _) r10⟩
def Priv.row {α : Type} (T : OTy α) (e : TypeId) (v : Value) (s : Sl α) : Priv where
  holds σ h := rowHolds T e v s σ h
  mono l m r := r.mono l m
theorem rowHolds.form {α : Type} {T : OTy α} {e : TypeId} {v : Value} {s : Sl α} {σ : FS} {h : Frag} (r : rowHolds T e v s σ h) : ∃ a c, v = .slice a s.xs.length c ∧ a.isSome = s.nn ∧ (a = none → s.xs.length = 0) ∧ (a = none → c = 0) ∧ s.xs.length ≤ c ∧ c ≤ maxLen := by
  rcases r with ⟨rfl, rfl⟩ | ⟨a, rfl, rfl⟩ | ⟨q, cap, cur, hb, gg, rfl, r2, r3, r4, r5, r0, r6, r7, r8, r9, r10⟩
  rotate_left
  · exact ⟨some a, 0, rfl, rfl, (fun h => by cases h), (fun h => by cases h), Nat.le_refl _, by simp [maxLen]⟩
  rotate_left
  · exact ⟨none, 0, rfl, rfl, fun _ => rfl, fun _ => rfl, Nat.le_refl _, by simp [maxLen]⟩
  · exact ⟨_, cap, rfl, by simp [r2], (fun h => by cases h), (fun h => by cases h), r3, r4⟩
/-- a slice that is owned, as an element or a field -/
def oRow {α : Type} (T : OTy α) (e : TypeId) : OTy (Sl α) where
  size := 1
  agg := false
  rel σ h cs s := ∃ v, cs = [v] ∧ rowHolds T e v s σ h
  len := by rintro σ h cs s ⟨v, rfl, _⟩; rfl
  mono := by rintro σ τ h g cs s l m ⟨v, rfl, r⟩; exact ⟨v, rfl, r.mono l m⟩
  one := by rintro σ h cs s ⟨v, rfl, r⟩ u hu; obtain ⟨a, c, rfl, _⟩ := r.form; simp at hu; subst hu; rfl
  sz _ := rfl
def oProd {α β : Type} (A : OTy α) (B : OTy β) : OTy (α × β) where
  size := A.size + B.size
  agg := true
  rel σ h cs x := ∃ c d h1 h2, cs = c ++ d ∧ h1.le h ∧ h2.le h ∧ h1.disj h2 ∧ A.rel σ h1 c x.1 ∧ B.rel σ h2 d x.2
  len := by rintro σ h cs x ⟨c, d, h1, h2, rfl, _, _, _, h, k⟩; simp [A.len h, B.len k]
  mono := by rintro σ τ h g cs x l m ⟨c, d, h1, h2, rfl, l1, l2, dd, p, q⟩; exact ⟨c, d, h1, h2, rfl, l1.trans m, l2.trans m, dd, A.mono l (.refl _) p, B.mono l (.refl _) q⟩
  one := by
    rintro σ h cs x ⟨c, d, h1, h2, rfl, _, _, _, h, k⟩ u hu
    rcases List.mem_append.1 hu with m | m
    · exact A.one h u m
    · exact B.one k u m
  sz h := by simp at h
def OTy.comap {α β : Type} (T : OTy α) (f : β → α) : OTy β where
  size := T.size
  agg := T.agg
  rel σ h cs x := T.rel σ h cs (f x)
  len h := T.len h
  mono l m r := T.mono l m r
  one r := T.one r
  sz h := T.sz h
def OTy.aggr {α : Type} (T : OTy α) : OTy α where
  size := T.size
  agg := true
  rel σ h cs x := T.rel σ h cs x
  len h := T.len h
  mono l m r := T.mono l m r
  one r := T.one r
  sz h := by simp at h
theorem Sep.get {σ : FS} {PV : List Priv} {h : Frag} (k : Sep σ PV h) {m : Nat} {p : Priv} (hm : PV[m]? = some p) : p.holds σ h := by
  obtain ⟨hs, k1, _, k3⟩ := k
  exact p.mono (.refl _) (k3 m) (k1 m p hm)
theorem Held.get {σ : FS} {PV : List Priv} {w : World} (k : Held σ PV w) {m : Nat} {p : Priv} (hm : PV[m]? = some p) : ∃ h, p.holds σ h ∧ h.sub w := by
  obtain ⟨_, h, k1, k2⟩ := k; exact ⟨h, k1.get hm, k2⟩
theorem Frag.sub.cell {h : Frag} {w : World} (k : h.sub w) {b o : Nat} {v : Value} (e : h b (o + 1) = some (.cell v)) : w.cell? ⟨b, o, Option.none⟩ = some v := by
  obtain ⟨c, e, o', h1, h2, h3⟩ := k _ _ _ e
  obtain rfl : o = o' := by omega
  simp [World.cell?, h1, h3]
theorem Addr.add_eq (a : Addr) (h : a.spot = none) (k : Nat) : a.add k = ⟨a.block, a.off + k, none⟩ := by
  obtain ⟨b, o, sp⟩ := a
  simp at h; subst h
  unfold Addr.add; split <;> simp_all
theorem cellHolds.cell {a : Addr} {cs : List Value} {h : Frag} {w : World} (r : cellHolds a cs h) (k : h.sub w) {j : Nat} {u : Value} (hj : cs[j]? = some u) : w.cell? (a.add j) = some u := by
  rw [Addr.add_eq a r.1]; exact k.cell (r.2 j u hj)

/-- 'where what is held fast is as it is, the operation yields v and changes nothing' -/
abbrev Runs (P : Program) (σ : FS) (PV : List Priv) (L : List (Nat × Value)) (b : Nat → Value) (o : Oper) (v : Value) : Prop :=
  ∀ w, Held σ PV w → (execOp (opv L b) o).run P w = .ok (.value v) w
def Reads (P : Program) (σ : FS) (PV : List Priv) (L : List (Nat × Value)) (b : Nat → Value) (o : Oper) (C : Value → Prop) : Prop :=
  ∃ v, C v ∧ Runs P σ PV L b o v

def elemAddr (v : Value) (k : Nat) : Addr :=
  match v with
  | .slice (some a) _ _ => a.add k
  | _ => ⟨0, k, none⟩
theorem Addr.add_add (a : Addr) (j k : Nat) : (a.add j).add k = a.add (j + k) := by
  unfold Addr.add
  by_cases hj : j = 0
  · subst hj; simp
  · by_cases hk : k = 0
    · subst hk; simp [hj]
    · simp [hj, hk, Nat.add_assoc]
theorem elemAddr_add (v : Value) (j k : Nat) : (elemAddr v j).add k = elemAddr v (j + k) := by
  unfold elemAddr
  split
  · exact Addr.add_add _ j k
  · unfold Addr.add; split <;> simp_all

/-- types whose values hold no addresses -/
class Plain {α : Type} (T : Ty α) where
  cells : α → List Value
  spec : ∀ σ cs x, T.rel σ cs x ↔ cs = cells x
instance {k : IntKind} : Plain (tInt k) := ⟨fun x => [.int k x], fun _ _ _ => Iff.rfl⟩
instance : Plain tBool := ⟨fun x => [.bool x], fun _ _ _ => Iff.rfl⟩
instance : Plain tStr := ⟨fun x => [.string x], fun _ _ _ => Iff.rfl⟩
instance : Plain tUnit := ⟨fun _ => [], fun _ _ _ => Iff.rfl⟩
instance {α β : Type} {A : Ty α} {C : Ty β} [a : Plain A] [c : Plain C] : Plain (tProd A C) := ⟨fun x => a.cells x.1 ++ c.cells x.2, fun σ cs x => by
  constructor
  · rintro ⟨p, q, rfl, h, k⟩; rw [(a.spec _ _ _).1 h, (c.spec _ _ _).1 k]
  · rintro rfl; exact ⟨_, _, rfl, (a.spec _ _ _).2 rfl, (c.spec _ _ _).2 rfl⟩⟩
instance {α β : Type} {T : Ty α} {f : β → α} [a : Plain T] : Plain (T.comap f) := ⟨fun x => a.cells (f x), fun σ cs x => a.spec σ cs (f x)⟩
instance {α : Type} {T : Ty α} [a : Plain T] : Plain T.aggr := ⟨a.cells, fun σ cs x => a.spec σ cs x⟩
theorem Plain.rels {α : Type} {T : Ty α} [a : Plain T] {σ τ : FS} : ∀ {xs : List α} {cs : List Value}, T.rels σ cs xs → T.rels τ cs xs
  | [], _, h => h
  | _ :: _, _, ⟨c, d, e, h, k⟩ => ⟨c, d, e, (a.spec _ _ _).2 ((a.spec _ _ _).1 h), Plain.rels k⟩
/-! pure Go -/
def gidx {α : Type} (s : Sl α) (i : Int) : Option α := if 0 ≤ i then s.xs[i.toNat]? else none
def gset {α : Type} (s : Sl α) (i : Int) (x : α) : Option (Sl α) := if 0 ≤ i ∧ i < s.xs.length then some ⟨s.xs.set i.toNat x, s.nn⟩ else none
def gmake {α : Type} (bytes : Nat) (n : Int) (z : α) : Option (Sl α) := if 0 ≤ n ∧ bytes * n.toNat ≤ 140737488355328 ∧ n ≤ 140737488355328 then some ⟨List.replicate n.toNat z, true⟩ else none
def gapp {α : Type} (bytes : Nat) (s : Sl α) (t : List α) : Option (Sl α) :=
  if (s.xs.length + t.length) * bytes ≤ 140737488355328 ∧ s.xs.length + t.length ≤ 140737488355328 then some ⟨s.xs ++ t, s.nn || !t.isEmpty⟩ else none
def gslice {α : Type} (s : Sl α) (lo hi : Int) : Option (Sl α) :=
  if 0 ≤ lo ∧ lo ≤ hi ∧ hi ≤ s.xs.length then some ⟨(s.xs.take hi.toNat).drop lo.toNat, s.nn⟩ else none
def gsidx (s : ByteArray) (i : Int) : Option Int := if 0 ≤ i then (s.data.toList[i.toNat]?).map (fun c => (c.toNat : Int)) else none
def gsslice (s : ByteArray) (lo hi : Int) : Option ByteArray := if 0 ≤ lo ∧ lo ≤ hi ∧ hi ≤ s.size then some (s.extract lo.toNat hi.toNat) else none
def gdiv (k : IntKind) (x y : Int) : Option Int := if y = 0 then none else some (k.wrap (x.tdiv y))
def gmod (k : IntKind) (x y : Int) : Option Int := if y = 0 then none else some (x.tmod y)
theorem gidx_some {α : Type} {s : Sl α} {i : Int} {x : α} : gidx s i = some x ↔ 0 ≤ i ∧ s.xs[i.toNat]? = some x := by
  unfold gidx; split <;> simp_all <;> (intro h; omega)
theorem gidx_lt {α : Type} {s : Sl α} {i : Int} {x : α} (h : gidx s i = some x) : 0 ≤ i ∧ i < s.xs.length := by
  obtain ⟨h0, h1⟩ := gidx_some.1 h
  obtain ⟨h2, _⟩ := List.getElem?_eq_some_iff.1 h1
  omega

section
variable {ρ : Type} {n : Nat} {w0 : Start} {σ0 σ : FS} {p : Option ρ} {L : List (Nat × Value)} {b : Nat → Value} {PV PV' : List Priv}
variable {P : Program} {Q : ρ → Exit → Act → World → Prop} {ops : Array Oper} {o : Oper} {rest : List Oper}
variable {H : Option ρ → List (Nat × Value) → FS → List Priv → Prop} {d : Nat} {v : Value} {t t' ty : TypeId} {ps : String} {af : Array Edge} {g : Option (Nat × Bool)}
variable {x y z : Operand} {k : IntKind} {i j : Int}

theorem Inv.held {w : World} (h : Inv w0 σ0 σ PV w) : Held σ PV w := ⟨h.sub, h.own.elim fun g k => ⟨g, k.1, k.2.sub⟩⟩
theorem op_read (hn : Nat.blt d n = true) (hd : o.dst = some d) (hr : Runs P σ PV L b o v) (h : H p ((d, v) :: L) σ PV) : OpOK P n w0 σ0 o p L b σ PV H := by
  intro r hp a w hi hf K Q hK
  unfold Oper.wp
  rw [hf.eval, hr w hi.held, Oper.upon_value, hd]
  exact hK p _ σ PV _ w hp hi (hf.put (by simpa [Nat.blt_eq] using hn) v) h
theorem op_reads {C : Value → Prop} (hn : Nat.blt d n = true) (hd : o.dst = some d) (hr : Reads P σ PV L b o C) (h : ∀ v, C v → H p ((d, v) :: L) σ PV) :
    OpOK P n w0 σ0 o p L b σ PV H := by
  obtain ⟨v, hc, hr⟩ := hr
  exact op_read hn hd hr (h v hc)
theorem JA_takes [hq : ∀ r, PStab (Q r)] {tr : Nat} {σr : FS} {PVr : List Priv} {fuel : Nat} {listed : Array Bool} {C : Value → Prop} (i : Nat)
    (ho : ops[i]? = some o) (hs : Region.noSelect ops = true)
    (hfr : Region.free .any ops listed i = true) (hr : (Region.ready .any ops listed).contains i = true) (htw : Twait ops tr i = true) (hlt : listed.getD tr false = false) (hcl : closedB ops listed = true)
    (hS : HeldOK σr PVr σ PV) (hg : o.guard = none) (hd : o.dst = some d) (hn : Nat.blt d n = true)
    (hv : Reads P σr PVr L b o C)
    (h : ∀ v, C v → J n w0 σ0 p (GA P ops tr σr PVr Q fuel (listed.setIfInBounds i true)) ((d, v) :: L) b σ PV) :
    J n w0 σ0 p (GA P ops tr σr PVr Q (fuel + 1) listed) L b σ PV := by
  obtain ⟨v, hc, hv⟩ := hv
  exact JA_take i ho hs hfr hr htw hlt hcl hS hg hd hn hv (h v hc)
theorem JA_takesg [hq : ∀ r, PStab (Q r)] {tr : Nat} {σr : FS} {PVr : List Priv} {fuel : Nat} {listed : Array Bool} {C : Value → Prop} (i : Nat) {j : Nat} {want e : Bool}
    (ho : ops[i]? = some o) (hs : Region.noSelect ops = true)
    (hfr : Region.free .any ops listed i = true) (hr : (Region.ready .any ops listed).contains i = true) (htw : Twait ops tr i = true) (hlt : listed.getD tr false = false) (hcl : closedB ops listed = true)
    (hS : HeldOK σr PVr σ PV) (hg : o.guard = some (j, want)) (hy : yieldedL ops L b j = some e) (he : e = want) (hd : o.dst = some d) (hn : Nat.blt d n = true)
    (hv : Reads P σr PVr L b o C)
    (h : ∀ v, C v → J n w0 σ0 p (GA P ops tr σr PVr Q fuel (listed.setIfInBounds i true)) ((d, v) :: L) b σ PV) :
    J n w0 σ0 p (GA P ops tr σr PVr Q (fuel + 1) listed) L b σ PV := by
  obtain ⟨v, hc, hv⟩ := hv
  exact JA_takeg i ho hs hfr hr htw hlt hcl hS hg hy he hd hn hv (h v hc)

theorem JA_takesp [hq : ∀ r, PStab (Q r)] {tr : Nat} {σr : FS} {PVr : List Priv} {fuel : Nat} {listed : Array Bool} {C : Value → Prop} (i : Nat)
    (ho : ops[i]? = some o) (hs : Region.noSelect ops = true) (hfr : Region.free .any ops listed i = true) (hr : (Region.ready .any ops listed).contains i = true) (hit : Nat.beq i tr = false)
    (hS : listed.getD tr false = true ∨ HeldOK σr PVr σ PV) (hg : o.guard = none) (hd : o.dst = some d) (hn : Nat.blt d n = true)
    (hv : ∃ v, C v ∧ Runs P (fun _ _ => none) [] L b o v)
    (h : ∀ v, C v → J n w0 σ0 p (GA P ops tr σr PVr Q fuel (listed.setIfInBounds i true)) ((d, v) :: L) b σ PV) :
    J n w0 σ0 p (GA P ops tr σr PVr Q (fuel + 1) listed) L b σ PV := by
  obtain ⟨v, hc, hv⟩ := hv
  exact JA_takep i ho hs hfr hr hit hS hg hd hn hv (h v hc)
theorem JA_takespg [hq : ∀ r, PStab (Q r)] {tr : Nat} {σr : FS} {PVr : List Priv} {fuel : Nat} {listed : Array Bool} {C : Value → Prop} (i : Nat) {j : Nat} {want e : Bool}
    (ho : ops[i]? = some o) (hs : Region.noSelect ops = true) (hfr : Region.free .any ops listed i = true) (hr : (Region.ready .any ops listed).contains i = true) (hit : Nat.beq i tr = false)
    (hS : listed.getD tr false = true ∨ HeldOK σr PVr σ PV) (hg : o.guard = some (j, want)) (hy : yieldedL ops L b j = some e) (he : e = want) (hd : o.dst = some d) (hn : Nat.blt d n = true)
    (hv : ∃ v, C v ∧ Runs P (fun _ _ => none) [] L b o v)
    (h : ∀ v, C v → J n w0 σ0 p (GA P ops tr σr PVr Q fuel (listed.setIfInBounds i true)) ((d, v) :: L) b σ PV) :
    J n w0 σ0 p (GA P ops tr σr PVr Q (fuel + 1) listed) L b σ PV := by
  obtain ⟨v, hc, hv⟩ := hv
  exact JA_takepg i ho hs hfr hr hit hS hg hy he hd hn hv (h v hc)

/-! operations that compute -/
theorem r_move (h : opv L b x = v) : Runs P σ PV L b ⟨some d, .move x, ty, ps, af, g⟩ v := fun w _ => by
  simp only [execOp, Sem.run_pure, h]
theorem r_assign (h : opv L b x = v) : Runs P σ PV L b ⟨some d, .assign x, ty, ps, af, g⟩ v := fun w _ => by
  simp only [execOp, Sem.run_pure, h]
theorem r_pick_t {e : Bool} (hx : opv L b x = .bool e) (he : e = true) (h : opv L b y = v) : Runs P σ PV L b ⟨some d, .pick x y z, ty, ps, af, g⟩ v := fun w _ => by
  simp [execOp, hx, he, h, asBool, go_sem]
theorem r_pick_f {e : Bool} (hx : opv L b x = .bool e) (he : e = false) (h : opv L b z = v) : Runs P σ PV L b ⟨some d, .pick x y z, ty, ps, af, g⟩ v := fun w _ => by
  simp [execOp, hx, he, h, asBool, go_sem]
theorem r_add (hx : opv L b x = .int k i) (hy : opv L b y = .int k j) : Runs P σ PV L b ⟨some d, .binOp .add t x y t', ty, ps, af, g⟩ (.int k (k.wrap (i + j))) := fun w _ => by
  simp [execOp, hx, hy, eqGuard, binOp, Op.intArith]
theorem r_sub (hx : opv L b x = .int k i) (hy : opv L b y = .int k j) : Runs P σ PV L b ⟨some d, .binOp .sub t x y t', ty, ps, af, g⟩ (.int k (k.wrap (i - j))) := fun w _ => by
  simp [execOp, hx, hy, eqGuard, binOp, Op.intArith]
theorem r_mul (hx : opv L b x = .int k i) (hy : opv L b y = .int k j) : Runs P σ PV L b ⟨some d, .binOp .mul t x y t', ty, ps, af, g⟩ (.int k (k.wrap (i * j))) := fun w _ => by
  simp [execOp, hx, hy, eqGuard, binOp, Op.intArith]
theorem r_lss (hx : opv L b x = .int k i) (hy : opv L b y = .int k j) : Runs P σ PV L b ⟨some d, .binOp .lss t x y t', ty, ps, af, g⟩ (.bool (decide (i < j))) := fun w _ => by
  simp [execOp, hx, hy, eqGuard, binOp, Op.intCmp]
theorem r_leq (hx : opv L b x = .int k i) (hy : opv L b y = .int k j) : Runs P σ PV L b ⟨some d, .binOp .leq t x y t', ty, ps, af, g⟩ (.bool (decide (i ≤ j))) := fun w _ => by
  simp [execOp, hx, hy, eqGuard, binOp, Op.intCmp]
theorem r_gtr (hx : opv L b x = .int k i) (hy : opv L b y = .int k j) : Runs P σ PV L b ⟨some d, .binOp .gtr t x y t', ty, ps, af, g⟩ (.bool (decide (j < i))) := fun w _ => by
  simp [execOp, hx, hy, eqGuard, binOp, Op.intCmp]
theorem r_geq (hx : opv L b x = .int k i) (hy : opv L b y = .int k j) : Runs P σ PV L b ⟨some d, .binOp .geq t x y t', ty, ps, af, g⟩ (.bool (decide (j ≤ i))) := fun w _ => by
  simp [execOp, hx, hy, eqGuard, binOp, Op.intCmp]
theorem r_eql (hx : opv L b x = .int k i) (hy : opv L b y = .int k j) : Runs P σ PV L b ⟨some d, .binOp .eql t x y t', ty, ps, af, g⟩ (.bool (decide (i = j))) := fun w _ => by
  have : (i == j) = decide (i = j) := by by_cases h : i = j <;> simp [h]
  simp [execOp, hx, hy, eqGuard, binOp, Op.intCmp, this]
theorem r_neq (hx : opv L b x = .int k i) (hy : opv L b y = .int k j) : Runs P σ PV L b ⟨some d, .binOp .neq t x y t', ty, ps, af, g⟩ (.bool (decide (i ≠ j))) := fun w _ => by
  have : (i != j) = !decide (i = j) := by by_cases h : i = j <;> simp [h]
  simp [execOp, hx, hy, eqGuard, binOp, Op.intCmp, this]
theorem r_quo {q : Int} (hx : opv L b x = .int k i) (hy : opv L b y = .int k j) (hq : gdiv k i j = some q) : Runs P σ PV L b ⟨some d, .binOp .quo t x y t', ty, ps, af, g⟩ (.int k q) := fun w _ => by
  unfold gdiv at hq
  split at hq
  · cases hq
  · rename_i h; cases hq; simp [execOp, hx, hy, eqGuard, binOp, Op.intDiv, h]
theorem r_rem {q : Int} (hx : opv L b x = .int k i) (hy : opv L b y = .int k j) (hq : gmod k i j = some q) : Runs P σ PV L b ⟨some d, .binOp .rem t x y t', ty, ps, af, g⟩ (.int k q) := fun w _ => by
  unfold gmod at hq
  split at hq
  · cases hq
  · rename_i h; cases hq; simp [execOp, hx, hy, eqGuard, binOp, Op.intDiv, h]
theorem r_beql {e q : Bool} (hu : P.underlying t = some .bool) (hx : opv L b x = .bool e) (hy : opv L b y = .bool q) : Runs P σ PV L b ⟨some d, .binOp .eql t x y t', ty, ps, af, g⟩ (.bool (e == q)) := fun w _ => by
  simp [execOp, hx, hy, eqGuard, binOp, run_equal_bool w t e q hu]
theorem r_bneq {e q : Bool} (hu : P.underlying t = some .bool) (hx : opv L b x = .bool e) (hy : opv L b y = .bool q) : Runs P σ PV L b ⟨some d, .binOp .neq t x y t', ty, ps, af, g⟩ (.bool (e != q)) := fun w _ => by
  simp [execOp, hx, hy, eqGuard, binOp, run_equal_bool w t e q hu, bne]
theorem r_not {e : Bool} (hx : opv L b x = .bool e) : Runs P σ PV L b ⟨some d, .unOp .not t x, ty, ps, af, g⟩ (.bool !e) := fun w _ => by
  simp [execOp, hx, Op.unary]
theorem r_neg (hx : opv L b x = .int k i) : Runs P σ PV L b ⟨some d, .unOp .neg t x, ty, ps, af, g⟩ (.int k (k.wrap (0 - i))) := fun w _ => by
  simp [execOp, hx, Op.unary, Op.intArith]
theorem r_extract {vs : Array Value} {m : Nat} (hx : opv L b x = .tuple vs) (h : vs[m]? = some v) : Runs P σ PV L b ⟨some d, .extract x m, ty, ps, af, g⟩ v := fun w _ => by
  simp [execOp, hx, Instr.extract, h]
theorem r_makeFunc {fn : Fn} {first captured : Array Operand} {fs cs : List Value} (hf : first.toList.map (opv L b) = fs) (hc : captured.toList.map (opv L b) = cs) :
    Runs P σ PV L b ⟨some d, .makeFunc fn first captured, ty, ps, af, g⟩ (.func fn fs.toArray cs.toArray) := fun w _ => by
  subst hf; subst hc
  simp [execOp, Instr.makeFunc, ← Array.toList_map]
theorem r_min {ats : Array TypeId} (hx : opv L b x = .int k i) (hy : opv L b y = .int k j) :
    Runs P σ PV L b ⟨some d, .call { callee := .builtin .min, args := #[x, y], argTypes := ats }, ty, ps, af, g⟩ (.int k (if j < i then j else i)) := fun w _ => by
  simp [execOp, resolve, invoke, builtin, hx, hy, Builtin.min_, Builtin.min2]
theorem r_max {ats : Array TypeId} (hx : opv L b x = .int k i) (hy : opv L b y = .int k j) :
    Runs P σ PV L b ⟨some d, .call { callee := .builtin .max, args := #[x, y], argTypes := ats }, ty, ps, af, g⟩ (.int k (if i < j then j else i)) := fun w _ => by
  simp [execOp, resolve, invoke, builtin, hx, hy, Builtin.max_, Builtin.max2]

/-! slices: their headers -/
theorem r_len_frozen {α : Type} {τ : FS} {T : Ty α} {s : Sl α} {e : TypeId} (hu : P.underlying t = some (.slice e)) (hx : opv L b x = v) (hv : (tSl T).vrel τ v s) :
    Runs P σ PV L b ⟨some d, .call { callee := .builtin .len, args := #[x], argTypes := #[t] }, ty, ps, af, g⟩ (.int .i64 s.len) := fun w _ => by
  obtain ⟨a, m, c, rfl, h1, h2⟩ := tSl_v.1 hv
  simp [execOp, resolve, invoke, builtin, hx, Builtin.len_, run_underlying hu, goInt, Sl.len, h1]
theorem r_len_row {α : Type} {T : OTy α} {s : Sl α} {e e' : TypeId} (m : Nat) (hu : P.underlying t = some (.slice e)) (hx : opv L b x = v) (hp : PV[m]? = some (.row T e' v s)) :
    Runs P σ PV L b ⟨some d, .call { callee := .builtin .len, args := #[x], argTypes := #[t] }, ty, ps, af, g⟩ (.int .i64 s.len) := fun w hw => by
  obtain ⟨hh, hr, _⟩ := hw.get hp
  obtain ⟨a, c, rfl, _⟩ := rowHolds.form hr
  simp [execOp, resolve, invoke, builtin, hx, Builtin.len_, run_underlying hu, goInt, Sl.len]
theorem r_len_string {s : ByteArray} (hu : P.underlying t = some .string) (hx : opv L b x = .string s) :
    Runs P σ PV L b ⟨some d, .call { callee := .builtin .len, args := #[x], argTypes := #[t] }, ty, ps, af, g⟩ (.int .i64 (s.size : Int)) := fun w _ => by
  simp [execOp, resolve, invoke, builtin, hx, Builtin.len_, run_underlying hu, goInt]
theorem run_eqnil {w : World} {e : TypeId} {a : Option Addr} {m c : Nat} (hu : P.underlying t = some (.slice e)) :
    (Op.equal t (.slice a m c) (.slice none 0 0)).run P w = .ok (!a.isSome) w := by
  rw [run_equal_slice_nil w t e a m c hu]
  cases a <;> simp
theorem r_eqnil_frozen {α : Type} {τ : FS} {T : Ty α} {s : Sl α} {e : TypeId} (hu : P.underlying t = some (.slice e)) (hx : opv L b x = v) (hy : opv L b y = .slice none 0 0) (hv : (tSl T).vrel τ v s) :
    Runs P σ PV L b ⟨some d, .binOp .eql t x y t', ty, ps, af, g⟩ (.bool !s.nn) := fun w _ => by
  obtain ⟨a, m, c, rfl, h1, h2, _⟩ := tSl_v.1 hv
  simp [execOp, hx, hy, eqGuard, binOp, run_eqnil hu, h2]
theorem r_nenil_frozen {α : Type} {τ : FS} {T : Ty α} {s : Sl α} {e : TypeId} (hu : P.underlying t = some (.slice e)) (hx : opv L b x = v) (hy : opv L b y = .slice none 0 0) (hv : (tSl T).vrel τ v s) :
    Runs P σ PV L b ⟨some d, .binOp .neq t x y t', ty, ps, af, g⟩ (.bool s.nn) := fun w _ => by
  obtain ⟨a, m, c, rfl, h1, h2, _⟩ := tSl_v.1 hv
  simp [execOp, hx, hy, eqGuard, binOp, run_eqnil hu, h2]
theorem r_eqnil_row {α : Type} {T : OTy α} {s : Sl α} {e e' : TypeId} (m : Nat) (hu : P.underlying t = some (.slice e)) (hx : opv L b x = v) (hy : opv L b y = .slice none 0 0) (hp : PV[m]? = some (.row T e' v s)) :
    Runs P σ PV L b ⟨some d, .binOp .eql t x y t', ty, ps, af, g⟩ (.bool !s.nn) := fun w hw => by
  obtain ⟨hh, hr, _⟩ := hw.get hp
  obtain ⟨a, c, rfl, h2, _⟩ := rowHolds.form hr
  simp [execOp, hx, hy, eqGuard, binOp, run_eqnil hu, h2]
theorem r_nenil_row {α : Type} {T : OTy α} {s : Sl α} {e e' : TypeId} (m : Nat) (hu : P.underlying t = some (.slice e)) (hx : opv L b x = v) (hy : opv L b y = .slice none 0 0) (hp : PV[m]? = some (.row T e' v s)) :
    Runs P σ PV L b ⟨some d, .binOp .neq t x y t', ty, ps, af, g⟩ (.bool s.nn) := fun w hw => by
  obtain ⟨hh, hr, _⟩ := hw.get hp
  obtain ⟨a, c, rfl, h2, _⟩ := rowHolds.form hr
  simp [execOp, hx, hy, eqGuard, binOp, run_eqnil hu, h2]

/-! addresses -/
theorem r_fieldAddr {fs : Array Field} {f : Field} {m : Nat} {a r : Addr} {ti : TypeInfo} (hu : P.underlying t = some (.struct fs)) (hf : fs[m]? = some f) (hi : P.info? f.type = some ti) (hz : ti.size ≠ 0)
    (hx : opv L b x = .pointer (some a)) (hr : a.add f.offset = r) : Runs P σ PV L b ⟨some d, .fieldAddr t x m, ty, ps, af, g⟩ (.pointer (some r)) := fun w _ => by
  subst hr
  simp [execOp, hx, Instr.fieldAt, run_underlying hu, hf, Instr.sureAddr, fieldPlace, sizeOf, typeInfo, hi, hz]
theorem r_index_arr {e : TypeId} {n i : Nat} {a r : Addr} {ti : TypeInfo} (hu : P.underlying t = some (.array n e)) (hi : P.info? e = some ti) (hz : ti.size ≠ 0)
    (hx : opv L b x = .pointer (some a)) (hy : opv L b y = .int .i64 (i : Int)) (hlt : i < n) (hr : a.add (i * ti.size) = r) :
    Runs P σ PV L b ⟨some d, .indexAddr t x y, ty, ps, af, g⟩ (.pointer (some r)) := fun w _ => by
  subst hr
  simp [execOp, hx, hy, Instr.indexAt, asIntOf, run_underlying hu, Instr.sureAddr, sizeOf, typeInfo, hi, hlt]
theorem r_index_frozen {α : Type} {τ : FS} {T : Ty α} {s : Sl α} {q : α} {e : TypeId} {ti : TypeInfo} (hu : P.underlying t = some (.slice e)) (hi : P.info? e = some ti) (hz : ti.size = T.size)
    (hx : opv L b x = v) (hy : opv L b y = .int k i) (hv : (tSl T).vrel τ v s) (hq : gidx s i = some q) :
    Runs P σ PV L b ⟨some d, .indexAddr t x y, ty, ps, af, g⟩ (.pointer (some (elemAddr v (i.toNat * T.size)))) := fun w _ => by
  obtain ⟨a, m, c, rfl, h1, h2, h3, h4, h5, _⟩ := tSl_v.1 hv
  have hlt := gidx_lt hq
  rw [← h1] at hlt
  cases a with
  | none => have := h5 rfl; omega
  | some a =>
    simp [execOp, hx, hy, Instr.indexAt, asIntOf, run_underlying hu, sizeOf, typeInfo, hi, hz, hlt, elemAddr]
theorem r_index_row {α : Type} {T : OTy α} {s : Sl α} {q : α} {e e' : TypeId} {ti : TypeInfo} (m : Nat) (hu : P.underlying t = some (.slice e)) (hi : P.info? e = some ti) (hz : ti.size = T.size)
    (hx : opv L b x = v) (hy : opv L b y = .int k i) (hp : PV[m]? = some (.row T e' v s)) (hq : gidx s i = some q) :
    Runs P σ PV L b ⟨some d, .indexAddr t x y, ty, ps, af, g⟩ (.pointer (some (elemAddr v (i.toNat * T.size)))) := fun w hw => by
  obtain ⟨hh, hr, _⟩ := hw.get hp
  obtain ⟨a, c, rfl, h1, h2, _⟩ := rowHolds.form hr
  have hlt := gidx_lt hq
  cases a with
  | none => have := h2 rfl; omega
  | some a =>
    simp [execOp, hx, hy, Instr.indexAt, asIntOf, run_underlying hu, sizeOf, typeInfo, hi, hz, hlt, elemAddr]

/-! loads -/
theorem cell_add {w : World} {q : Nat} {cur : Array Value} {e : TypeId} {fz : Nat × Nat} (h : w.heap[q]? = some (.cells cur e fz)) (m : Nat) : w.cell? ((⟨q, 0, none⟩ : Addr).add m) = cur[m]? := by
  unfold World.cell? Addr.add
  by_cases h0 : m = 0
  · subst h0; simp [h]
  · simp [h0, h]
def aggDesc : TypeDesc → Bool
  | .struct _ | .array _ _ => true
  | _ => false
theorem run_loadCells_of {w : World} (a : Addr) (cs : List Value) (h : ∀ (j : Nat) (u : Value), cs[j]? = some u → w.cell? (a.add j) = some u) : (loadCells a cs.length).run P w = .ok cs.toArray w :=
  run_loadCells_list w a cs h
theorem run_loadVar_cells {w : World} {td : TypeDesc} {ti : TypeInfo} (a : Addr) (cs : List Value) (hu : P.underlying t = some td) (hi : P.info? t = some ti) (hz : ti.size = cs.length) (h1 : aggDesc td = false → cs.length = 1)
    (h : ∀ (j : Nat) (u : Value), cs[j]? = some u → w.cell? (a.add j) = some u) : (loadVar t a).run P w = .ok (cellsVal (aggDesc td) cs) w := by
  unfold loadVar
  have hagg : (Go.isAgg t).run P w = Result.ok (aggDesc td) w := by
    unfold Go.isAgg
    rw [Sem.run_bind, run_underlying hu]
    cases td <;> rfl
  rw [Sem.run_bind, hagg]
  simp only [Result.andThen_ok]
  cases hd : aggDesc td with
  | true =>
    simp only [if_true, Sem.run_bind, sizeOf, typeInfo, run_program, Result.andThen_ok, hi, Sem.run_pure, hz]
    rw [run_loadCells_of a cs h]
    simp [cellsVal]
  | false =>
    have hl := h1 hd
    match cs, hl with
    | [u], _ =>
      have := h 0 u rfl
      simp only [Addr.add, if_true] at this
      simp [load, Sem.run, this, cellsVal]
theorem r_load_priv {a : Addr} {off : Nat} {cs cs' : List Value} {td : TypeDesc} {ti : TypeInfo} (m : Nat) (hu : P.underlying t = some td) (hi : P.info? t = some ti)
    (hx : opv L b x = .pointer (some (a.add off))) (hp : PV[m]? = some (.cell a cs)) (hcs : (cs.drop off).take ti.size = cs') (hl : cs'.length = ti.size) (h1 : aggDesc td = false → ti.size = 1)
    (hv : cellsVal (aggDesc td) cs' = v) : Runs P σ PV L b ⟨some d, .load t x, ty, ps, af, g⟩ v := fun w hw => by
  obtain ⟨hh, hr, hsub⟩ := hw.get hp
  have hr : cellHolds a cs hh := hr
  subst hv
  have := run_loadVar_cells (P := P) (w := w) (a.add off) cs' hu hi hl.symm (fun h => by rw [hl]; exact h1 h) (fun j u hj => by
    subst hcs
    have hj' : j < ti.size := by
      have := (List.getElem?_eq_some_iff.1 hj).1
      rw [hl] at this; exact this
    rw [List.getElem?_take_of_lt hj', List.getElem?_drop] at hj
    rw [Addr.add_add]; exact hr.cell hsub hj)
  simp [execOp, hx, Instr.loadAt, Instr.sureAddr, this]

def FieldAt {α β : Type} (T : Ty α) (off : Nat) (Tf : Ty β) (proj : α → β) : Prop := ∀ σ cs x, T.rel σ cs x → Tf.rel σ ((cs.drop off).take Tf.size) (proj x)
theorem FieldAt.self {α : Type} (T : Ty α) : FieldAt T 0 T id := fun σ cs x h => by
  have := T.len h
  simp only [List.drop_zero, id]; rw [← this, List.take_length]; exact h
theorem FieldAt.comp {α β γ : Type} {T : Ty α} {T1 : Ty β} {T2 : Ty γ} {o1 o2 : Nat} {f : α → β} {g : β → γ} (h : FieldAt T o1 T1 f) (k : FieldAt T1 o2 T2 g) (hl : o2 + T2.size ≤ T1.size) :
    FieldAt T (o1 + o2) T2 (g ∘ f) := fun σ cs x r => by
  have := k σ _ _ (h σ cs x r)
  rw [List.drop_take, List.take_take, List.drop_drop] at this
  rwa [Nat.min_eq_left (by omega)] at this
theorem FieldAt.fst {α β : Type} {A : Ty α} {C : Ty β} : FieldAt (tProd A C) 0 A Prod.fst := by
  rintro σ cs x ⟨c, d, rfl, h, k⟩
  have := A.len h
  simp only [List.drop_zero]; rw [← this, List.take_left]; exact h
theorem FieldAt.snd {α β : Type} {A : Ty α} {C : Ty β} : FieldAt (tProd A C) A.size C Prod.snd := by
  rintro σ cs x ⟨c, d, rfl, h, k⟩
  have h1 := A.len h
  have h2 := C.len k
  rw [← h1, List.drop_left, ← h2, List.take_length]; exact k

theorem l_elem_frozen {α β : Type} {T : Ty α} {Tf : Ty β} {proj : α → β} {s : Sl α} {q : α} {off : Nat} {td : TypeDesc} {ti : TypeInfo} (hu : P.underlying t = some td) (hi : P.info? t = some ti) (hz : ti.size = Tf.size)
    (hag : Tf.agg = aggDesc td) (hx : opv L b x = .pointer (some (elemAddr v (i.toNat * T.size + off)))) (hv : (tSl T).vrel σ v s) (hq : gidx s i = some q) (hf : FieldAt T off Tf proj) (hoff : off + Tf.size ≤ T.size) :
    Reads P σ PV L b ⟨some d, .load t x, ty, ps, af, g⟩ (fun u => Tf.vrel σ u (proj q)) := by
  obtain ⟨a, m, c, rfl, h1, h2, h3, h4, h5, cells, h6, h7⟩ := tSl_v.1 hv
  have hel := T.rels_get i.toNat h6 (gidx_some.1 hq).2
  have hfl := hf σ _ _ hel
  refine ⟨_, vrel_of_rel hfl, fun w hw => ?_⟩
  have hlen := Tf.len hfl
  have hsub : ∀ (j : Nat) (u : Value), ((((cells.drop (i.toNat * T.size)).take T.size).drop off).take Tf.size)[j]? = some u → w.cell? ((elemAddr (.slice a m c) (i.toNat * T.size + off)).add j) = some u := by
    intro j u hj
    have hj' : j < Tf.size := by
      have := (List.getElem?_eq_some_iff.1 hj).1
      rw [hlen] at this; exact this
    rw [List.getElem?_take_of_lt hj', List.getElem?_drop, List.getElem?_take_of_lt (by omega), List.getElem?_drop] at hj
    obtain ⟨ad, rfl, hc⟩ := h7 _ _ hj
    have := hw.1.cell hc
    simp only [elemAddr, Addr.add_add]
    rw [show i.toNat * T.size + off + j = i.toNat * T.size + (off + j) by omega]
    exact this
  have := run_loadVar_cells (P := P) (w := w) (elemAddr (.slice a m c) (i.toNat * T.size + off)) _ hu hi (by rw [hlen, hz]) (fun h => by rw [hlen]; exact Tf.sz (by rw [hag, h])) hsub
  rw [← hag] at this
  simp [execOp, hx, Instr.loadAt, Instr.sureAddr, this]
theorem l_elem_row {α β : Type} {T : Ty α} {Tf : Ty β} {proj : α → β} {s : Sl α} {q : α} {off : Nat} {e : TypeId} {td : TypeDesc} {ti : TypeInfo} (mm : Nat) (hu : P.underlying t = some td) (hi : P.info? t = some ti) (hz : ti.size = Tf.size)
    (hag : Tf.agg = aggDesc td) (hx : opv L b x = .pointer (some (elemAddr v (i.toNat * T.size + off)))) (hp : PV[mm]? = some (.row T.o e v s)) (hq : gidx s i = some q) (hf : FieldAt T off Tf proj) (hoff : off + Tf.size ≤ T.size)
    [pl : Plain Tf] :
    Reads P σ PV L b ⟨some d, .load t x, ty, ps, af, g⟩ (fun u => Tf.vrel σ u (proj q)) := by
  obtain ⟨cs0, hcs0⟩ : ∃ cs, Tf.rel σ cs (proj q) := ⟨_, (pl.spec σ _ _).2 rfl⟩
  have hdet : ∀ cs cs' y, Tf.rel σ cs y → Tf.rel σ cs' y → cs = cs' := fun cs cs' y h k => ((pl.spec σ _ _).1 h).trans ((pl.spec σ _ _).1 k).symm
  refine ⟨_, vrel_of_rel hcs0, fun w hw => ?_⟩
  obtain ⟨hh, hr, hsub⟩ := hw.get hp
  have hlt := gidx_lt hq
  rcases hr with ⟨_, rfl⟩ | ⟨_, _, rfl⟩ | ⟨gb, cap, cur, hb, gg, rfl, r2, r3, r4, r5, r0, r6, r7, r8, r9, r10⟩
  · simp at hlt; omega
  · simp at hlt; omega
  have r10 := Ty.rels_o.1 r10
  have hel := T.rels_get i.toNat r10 (gidx_some.1 hq).2
  have hfl := hf σ _ _ hel
  have hlen := Tf.len hfl
  have hsub : ∀ (j : Nat) (u : Value), cs0[j]? = some u → w.cell? ((elemAddr (.slice (some ⟨gb, 0, none⟩) s.xs.length cap) (i.toNat * T.size + off)).add j) = some u := by
    intro j u hj
    rw [hdet cs0 _ _ hcs0 hfl] at hj
    have hj' : j < Tf.size := by
      have := (List.getElem?_eq_some_iff.1 hj).1
      rw [hlen] at this; exact this
    rw [List.getElem?_take_of_lt hj', List.getElem?_drop, List.getElem?_take_of_lt (by omega), List.getElem?_drop] at hj
    have hb : i.toNat * T.size + (off + j) < s.xs.length * T.size := by
      have : (i.toNat + 1) * T.size ≤ s.xs.length * T.size := Nat.mul_le_mul_right _ (by omega)
      rw [Nat.add_mul] at this; omega
    have hj2 : (cur.take (s.xs.length * T.size))[i.toNat * T.size + (off + j)]? = some u := hj
    rw [List.getElem?_take_of_lt hb] at hj2
    simp only [elemAddr, Addr.add_add]
    rw [show i.toNat * T.size + off + j = i.toNat * T.size + (off + j) by omega]
    rw [Addr.add_eq _ rfl]
    simpa using hsub.cell (r0 _ _ _ (r7 _ _ hj2))
  have hl0 := Tf.len hcs0
  have := run_loadVar_cells (P := P) (w := w) _ cs0 hu hi (by rw [hl0, hz]) (fun h => by rw [hl0]; exact Tf.sz (by rw [hag, h])) hsub
  rw [← hag] at this
  simp [execOp, hx, Instr.loadAt, Instr.sureAddr, this]
end
end Go.Px
