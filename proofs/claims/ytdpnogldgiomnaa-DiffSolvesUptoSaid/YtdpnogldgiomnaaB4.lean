/- What single operations do. -/
import Derived.Test.YtdpnogldgiomnaaB3
namespace Go.Px
set_option linter.unusedVariables false

/-- 'where what is held fast is as it is, the operation yields v and changes nothing' -/
abbrev Runs (P : Program) (B : Nat) (σ : FS) (PV : List Priv) (L : List (Nat × Value)) (b : Nat → Value) (o : Oper) (v : Value) : Prop :=
  ∀ w, Held B σ PV w → (execOp (opv L b) o).run P w = .ok (.value v) w
def Reads (P : Program) (B : Nat) (σ : FS) (PV : List Priv) (L : List (Nat × Value)) (b : Nat → Value) (o : Oper) (C : Value → Prop) : Prop :=
  ∃ v, C v ∧ Runs P B σ PV L b o v

def elemAddr (v : Value) (k : Nat) : Addr :=
  match v with
  | .slice (some a) _ _ => a.add k
  | _ => ⟨0, k, none⟩
theorem Addr.add_add (a : Addr) (j k : Nat) : (a.add j).add k = a.add (j + k) := by
  unfold Addr.add
  by_cases hj : j = 0
  · subst hj; simp
  · by_cases hk : k = 0
    · subst hk; simp [hj]
    · simp [hj, hk, Nat.add_assoc]
theorem elemAddr_add (v : Value) (j k : Nat) : (elemAddr v j).add k = elemAddr v (j + k) := by
  unfold elemAddr
  split
  · exact Addr.add_add _ j k
  · unfold Addr.add; split <;> simp_all

/-- types whose values hold no addresses -/
class Plain {α : Type} (T : Ty α) where
  cells : α → List Value
  spec : ∀ σ cs x, T.rel σ cs x ↔ cs = cells x
instance {k : IntKind} : Plain (tInt k) := ⟨fun x => [.int k x], fun _ _ _ => Iff.rfl⟩
instance : Plain tBool := ⟨fun x => [.bool x], fun _ _ _ => Iff.rfl⟩
instance : Plain tStr := ⟨fun x => [.string x], fun _ _ _ => Iff.rfl⟩
instance : Plain tUnit := ⟨fun _ => [], fun _ _ _ => Iff.rfl⟩
instance {α β : Type} {A : Ty α} {C : Ty β} [a : Plain A] [c : Plain C] : Plain (tProd A C) := ⟨fun x => a.cells x.1 ++ c.cells x.2, fun σ cs x => by
  constructor
  · rintro ⟨p, q, rfl, h, k⟩; rw [(a.spec _ _ _).1 h, (c.spec _ _ _).1 k]
  · rintro rfl; exact ⟨_, _, rfl, (a.spec _ _ _).2 rfl, (c.spec _ _ _).2 rfl⟩⟩
instance {α β : Type} {T : Ty α} {f : β → α} [a : Plain T] : Plain (T.comap f) := ⟨fun x => a.cells (f x), fun σ cs x => a.spec σ cs (f x)⟩
instance {α : Type} {T : Ty α} [a : Plain T] : Plain T.aggr := ⟨a.cells, fun σ cs x => a.spec σ cs x⟩
theorem Plain.rels {α : Type} {T : Ty α} [a : Plain T] {σ τ : FS} : ∀ {xs : List α} {cs : List Value}, T.rels σ cs xs → T.rels τ cs xs
  | [], _, h => h
  | _ :: _, _, ⟨c, d, e, h, k⟩ => ⟨c, d, e, (a.spec _ _ _).2 ((a.spec _ _ _).1 h), Plain.rels k⟩
/-! pure Go -/
def gidx {α : Type} (s : Sl α) (i : Int) : Option α := if 0 ≤ i then s.xs[i.toNat]? else none
def gset {α : Type} (s : Sl α) (i : Int) (x : α) : Option (Sl α) := if 0 ≤ i ∧ i < s.xs.length then some ⟨s.xs.set i.toNat x, s.nn⟩ else none
def gmake {α : Type} (bytes : Nat) (n : Int) (z : α) : Option (Sl α) := if 0 ≤ n ∧ bytes * n.toNat ≤ 140737488355328 ∧ n ≤ 140737488355328 then some ⟨List.replicate n.toNat z, true⟩ else none
def gapp {α : Type} (bytes : Nat) (s : Sl α) (t : List α) : Option (Sl α) :=
  if (s.xs.length + t.length) * bytes ≤ 140737488355328 ∧ s.xs.length + t.length ≤ 140737488355328 then some ⟨s.xs ++ t, s.nn || !t.isEmpty⟩ else none
def gslice {α : Type} (s : Sl α) (lo hi : Int) : Option (Sl α) :=
  if 0 ≤ lo ∧ lo ≤ hi ∧ hi ≤ s.xs.length then some ⟨(s.xs.take hi.toNat).drop lo.toNat, s.nn⟩ else none
def gsidx (s : ByteArray) (i : Int) : Option Int := if 0 ≤ i then (s.data.toList[i.toNat]?).map (fun c => (c.toNat : Int)) else none
def gsslice (s : ByteArray) (lo hi : Int) : Option ByteArray := if 0 ≤ lo ∧ lo ≤ hi ∧ hi ≤ s.size then some (s.extract lo.toNat hi.toNat) else none
def gdiv (k : IntKind) (x y : Int) : Option Int := if y = 0 then none else some (k.wrap (x.tdiv y))
def gmod (k : IntKind) (x y : Int) : Option Int := if y = 0 then none else some (x.tmod y)
theorem gidx_some {α : Type} {s : Sl α} {i : Int} {x : α} : gidx s i = some x ↔ 0 ≤ i ∧ s.xs[i.toNat]? = some x := by
  unfold gidx; split <;> simp_all <;> (intro h; omega)
theorem gidx_lt {α : Type} {s : Sl α} {i : Int} {x : α} (h : gidx s i = some x) : 0 ≤ i ∧ i < s.xs.length := by
  obtain ⟨h0, h1⟩ := gidx_some.1 h
  obtain ⟨h2, _⟩ := List.getElem?_eq_some_iff.1 h1
  omega

section
variable {ρ : Type} {n : Nat} {w0 : World} {σ0 σ : FS} {p : Option ρ} {L : List (Nat × Value)} {b : Nat → Value} {PV PV' : List Priv}
variable {P : Program} {Q : ρ → Exit → Act → World → Prop} {ops : Array Oper} {o : Oper} {rest : List Oper}
variable {H : Option ρ → List (Nat × Value) → FS → List Priv → Prop} {B d : Nat} {v : Value} {t t' ty : TypeId} {ps : String} {af : Array Edge} {g : Option (Nat × Bool)}
variable {x y z : Operand} {k : IntKind} {i j : Int}

theorem Inv.held {w : World} (h : Inv w0 σ0 σ PV w) : Held w0.heap.size σ PV w := ⟨h.sub, h.pv⟩
theorem op_read (hn : Nat.blt d n = true) (hd : o.dst = some d) (hr : Runs P w0.heap.size σ PV L b o v) (h : H p ((d, v) :: L) σ PV) : OpOK P n w0 σ0 o p L b σ PV H := by
  intro r hp a w hi hf K Q hK
  unfold Oper.wp
  rw [hf.eval, hr w hi.held, Oper.upon_value, hd]
  exact hK p _ σ PV _ w hp hi (hf.put (by simpa [Nat.blt_eq] using hn) v) h
theorem op_reads {C : Value → Prop} (hn : Nat.blt d n = true) (hd : o.dst = some d) (hr : Reads P w0.heap.size σ PV L b o C) (h : ∀ v, C v → H p ((d, v) :: L) σ PV) :
    OpOK P n w0 σ0 o p L b σ PV H := by
  obtain ⟨v, hc, hr⟩ := hr
  exact op_read hn hd hr (h v hc)
theorem JA_takes [hq : ∀ r, PStab (Q r)] {σr : FS} {PVr : List Priv} {fuel : Nat} {listed : Array Bool} {C : Value → Prop} (i : Nat)
    (ho : ops[i]? = some o) (hs : Region.noSelect ops = true)
    (hfr : Region.free .any ops listed i = true) (hr : (Region.ready .any ops listed).contains i = true)
    (hS : HeldOK σr PVr σ PV) (hg : o.guard = none) (hd : o.dst = some d) (hn : Nat.blt d n = true)
    (hv : Reads P w0.heap.size σr PVr L b o C)
    (h : ∀ v, C v → J n w0 σ0 p (GA P ops w0.heap.size σr PVr Q fuel (listed.setIfInBounds i true)) ((d, v) :: L) b σ PV) :
    J n w0 σ0 p (GA P ops w0.heap.size σr PVr Q (fuel + 1) listed) L b σ PV := by
  obtain ⟨v, hc, hv⟩ := hv
  exact JA_take i ho hs hfr hr hS hg hd hn hv (h v hc)
theorem JA_takesg [hq : ∀ r, PStab (Q r)] {σr : FS} {PVr : List Priv} {fuel : Nat} {listed : Array Bool} {C : Value → Prop} (i : Nat) {j : Nat} {want e : Bool}
    (ho : ops[i]? = some o) (hs : Region.noSelect ops = true)
    (hfr : Region.free .any ops listed i = true) (hr : (Region.ready .any ops listed).contains i = true)
    (hS : HeldOK σr PVr σ PV) (hg : o.guard = some (j, want)) (hy : yieldedL ops L b j = some e) (he : e = want) (hd : o.dst = some d) (hn : Nat.blt d n = true)
    (hv : Reads P w0.heap.size σr PVr L b o C)
    (h : ∀ v, C v → J n w0 σ0 p (GA P ops w0.heap.size σr PVr Q fuel (listed.setIfInBounds i true)) ((d, v) :: L) b σ PV) :
    J n w0 σ0 p (GA P ops w0.heap.size σr PVr Q (fuel + 1) listed) L b σ PV := by
  obtain ⟨v, hc, hv⟩ := hv
  exact JA_takeg i ho hs hfr hr hS hg hy he hd hn hv (h v hc)

/-! operations that compute -/
theorem r_move (h : opv L b x = v) : Runs P B σ PV L b ⟨some d, .move x, ty, ps, af, g⟩ v := fun w _ => by
  simp only [execOp, Sem.run_pure, h]
theorem r_assign (h : opv L b x = v) : Runs P B σ PV L b ⟨some d, .assign x, ty, ps, af, g⟩ v := fun w _ => by
  simp only [execOp, Sem.run_pure, h]
theorem r_pick_t {e : Bool} (hx : opv L b x = .bool e) (he : e = true) (h : opv L b y = v) : Runs P B σ PV L b ⟨some d, .pick x y z, ty, ps, af, g⟩ v := fun w _ => by
  simp [execOp, hx, he, h, asBool, go_sem]
theorem r_pick_f {e : Bool} (hx : opv L b x = .bool e) (he : e = false) (h : opv L b z = v) : Runs P B σ PV L b ⟨some d, .pick x y z, ty, ps, af, g⟩ v := fun w _ => by
  simp [execOp, hx, he, h, asBool, go_sem]
theorem r_add (hx : opv L b x = .int k i) (hy : opv L b y = .int k j) : Runs P B σ PV L b ⟨some d, .binOp .add t x y t', ty, ps, af, g⟩ (.int k (k.wrap (i + j))) := fun w _ => by
  simp [execOp, hx, hy, eqGuard, binOp, Op.intArith]
theorem r_sub (hx : opv L b x = .int k i) (hy : opv L b y = .int k j) : Runs P B σ PV L b ⟨some d, .binOp .sub t x y t', ty, ps, af, g⟩ (.int k (k.wrap (i - j))) := fun w _ => by
  simp [execOp, hx, hy, eqGuard, binOp, Op.intArith]
theorem r_mul (hx : opv L b x = .int k i) (hy : opv L b y = .int k j) : Runs P B σ PV L b ⟨some d, .binOp .mul t x y t', ty, ps, af, g⟩ (.int k (k.wrap (i * j))) := fun w _ => by
  simp [execOp, hx, hy, eqGuard, binOp, Op.intArith]
theorem r_lss (hx : opv L b x = .int k i) (hy : opv L b y = .int k j) : Runs P B σ PV L b ⟨some d, .binOp .lss t x y t', ty, ps, af, g⟩ (.bool (decide (i < j))) := fun w _ => by
  simp [execOp, hx, hy, eqGuard, binOp, Op.intCmp]
theorem r_leq (hx : opv L b x = .int k i) (hy : opv L b y = .int k j) : Runs P B σ PV L b ⟨some d, .binOp .leq t x y t', ty, ps, af, g⟩ (.bool (decide (i ≤ j))) := fun w _ => by
  simp [execOp, hx, hy, eqGuard, binOp, Op.intCmp]
theorem r_gtr (hx : opv L b x = .int k i) (hy : opv L b y = .int k j) : Runs P B σ PV L b ⟨some d, .binOp .gtr t x y t', ty, ps, af, g⟩ (.bool (decide (j < i))) := fun w _ => by
  simp [execOp, hx, hy, eqGuard, binOp, Op.intCmp]
theorem r_geq (hx : opv L b x = .int k i) (hy : opv L b y = .int k j) : Runs P B σ PV L b ⟨some d, .binOp .geq t x y t', ty, ps, af, g⟩ (.bool (decide (j ≤ i))) := fun w _ => by
  simp [execOp, hx, hy, eqGuard, binOp, Op.intCmp]
theorem r_eql (hx : opv L b x = .int k i) (hy : opv L b y = .int k j) : Runs P B σ PV L b ⟨some d, .binOp .eql t x y t', ty, ps, af, g⟩ (.bool (decide (i = j))) := fun w _ => by
  have : (i == j) = decide (i = j) := by by_cases h : i = j <;> simp [h]
  simp [execOp, hx, hy, eqGuard, binOp, Op.intCmp, this]
theorem r_neq (hx : opv L b x = .int k i) (hy : opv L b y = .int k j) : Runs P B σ PV L b ⟨some d, .binOp .neq t x y t', ty, ps, af, g⟩ (.bool (decide (i ≠ j))) := fun w _ => by
  have : (i != j) = !decide (i = j) := by by_cases h : i = j <;> simp [h]
  simp [execOp, hx, hy, eqGuard, binOp, Op.intCmp, this]
theorem r_quo {q : Int} (hx : opv L b x = .int k i) (hy : opv L b y = .int k j) (hq : gdiv k i j = some q) : Runs P B σ PV L b ⟨some d, .binOp .quo t x y t', ty, ps, af, g⟩ (.int k q) := fun w _ => by
  unfold gdiv at hq
  split at hq
  · cases hq
  · rename_i h; cases hq; simp [execOp, hx, hy, eqGuard, binOp, Op.intDiv, h]
theorem r_rem {q : Int} (hx : opv L b x = .int k i) (hy : opv L b y = .int k j) (hq : gmod k i j = some q) : Runs P B σ PV L b ⟨some d, .binOp .rem t x y t', ty, ps, af, g⟩ (.int k q) := fun w _ => by
  unfold gmod at hq
  split at hq
  · cases hq
  · rename_i h; cases hq; simp [execOp, hx, hy, eqGuard, binOp, Op.intDiv, h]
theorem r_beql {e q : Bool} (hu : P.underlying t = some .bool) (hx : opv L b x = .bool e) (hy : opv L b y = .bool q) : Runs P B σ PV L b ⟨some d, .binOp .eql t x y t', ty, ps, af, g⟩ (.bool (e == q)) := fun w _ => by
  simp [execOp, hx, hy, eqGuard, binOp, run_equal_bool w t e q hu]
theorem r_bneq {e q : Bool} (hu : P.underlying t = some .bool) (hx : opv L b x = .bool e) (hy : opv L b y = .bool q) : Runs P B σ PV L b ⟨some d, .binOp .neq t x y t', ty, ps, af, g⟩ (.bool (e != q)) := fun w _ => by
  simp [execOp, hx, hy, eqGuard, binOp, run_equal_bool w t e q hu, bne]
theorem r_not {e : Bool} (hx : opv L b x = .bool e) : Runs P B σ PV L b ⟨some d, .unOp .not t x, ty, ps, af, g⟩ (.bool !e) := fun w _ => by
  simp [execOp, hx, Op.unary]
theorem r_neg (hx : opv L b x = .int k i) : Runs P B σ PV L b ⟨some d, .unOp .neg t x, ty, ps, af, g⟩ (.int k (k.wrap (0 - i))) := fun w _ => by
  simp [execOp, hx, Op.unary, Op.intArith]
theorem r_extract {vs : Array Value} {m : Nat} (hx : opv L b x = .tuple vs) (h : vs[m]? = some v) : Runs P B σ PV L b ⟨some d, .extract x m, ty, ps, af, g⟩ v := fun w _ => by
  simp [execOp, hx, Instr.extract, h]
theorem r_makeFunc {fn : Fn} {first captured : Array Operand} {fs cs : List Value} (hf : first.toList.map (opv L b) = fs) (hc : captured.toList.map (opv L b) = cs) :
    Runs P B σ PV L b ⟨some d, .makeFunc fn first captured, ty, ps, af, g⟩ (.func fn fs.toArray cs.toArray) := fun w _ => by
  subst hf; subst hc
  simp [execOp, Instr.makeFunc, ← Array.toList_map]
theorem r_min {ats : Array TypeId} (hx : opv L b x = .int k i) (hy : opv L b y = .int k j) :
    Runs P B σ PV L b ⟨some d, .call { callee := .builtin .min, args := #[x, y], argTypes := ats }, ty, ps, af, g⟩ (.int k (if j < i then j else i)) := fun w _ => by
  simp [execOp, resolve, invoke, builtin, hx, hy, Builtin.min_, Builtin.min2]
theorem r_max {ats : Array TypeId} (hx : opv L b x = .int k i) (hy : opv L b y = .int k j) :
    Runs P B σ PV L b ⟨some d, .call { callee := .builtin .max, args := #[x, y], argTypes := ats }, ty, ps, af, g⟩ (.int k (if i < j then j else i)) := fun w _ => by
  simp [execOp, resolve, invoke, builtin, hx, hy, Builtin.max_, Builtin.max2]

/-! slices: their headers -/
theorem r_len_frozen {α : Type} {T : Ty α} {s : Sl α} {e : TypeId} (hu : P.underlying t = some (.slice e)) (hx : opv L b x = v) (hv : (tSl T).vrel σ v s) :
    Runs P B σ PV L b ⟨some d, .call { callee := .builtin .len, args := #[x], argTypes := #[t] }, ty, ps, af, g⟩ (.int .i64 s.len) := fun w _ => by
  obtain ⟨a, m, c, rfl, h1, h2⟩ := tSl_v.1 hv
  simp [execOp, resolve, invoke, builtin, hx, Builtin.len_, run_underlying hu, goInt, Sl.len, h1]
theorem row_form {α : Type} {T : Ty α} {s : Sl α} {e : TypeId} {w : World} (h : (Priv.row α T e v s).holds B σ w) : ∃ a c, v = .slice a s.xs.length c ∧ a.isSome = s.nn ∧ (a = none → s.xs.length = 0) := by
  obtain ⟨xs, ⟨_, h1⟩, h2, h3⟩ := h
  rcases h1 with ⟨rfl, h1⟩ | ⟨q, cap, cur, rfl, k1, k2, k3, k4, k5, k6⟩
  · refine ⟨none, 0, by rw [h1], ?_, fun _ => h1⟩
    have := h3.1 rfl; simp [this]
  · refine ⟨some ⟨q, 0, none⟩, cap, rfl, ?_, fun h => by cases h⟩
    cases hn : s.nn with
    | true => rfl
    | false => have := h3.2 hn; cases this
theorem r_len_row {α : Type} {T : Ty α} {s : Sl α} {e e' : TypeId} (m : Nat) (hu : P.underlying t = some (.slice e)) (hx : opv L b x = v) (hp : PV[m]? = some (.row α T e' v s)) :
    Runs P B σ PV L b ⟨some d, .call { callee := .builtin .len, args := #[x], argTypes := #[t] }, ty, ps, af, g⟩ (.int .i64 s.len) := fun w hw => by
  obtain ⟨a, c, rfl, _⟩ := row_form (hw.2 _ (List.mem_of_getElem? hp))
  simp [execOp, resolve, invoke, builtin, hx, Builtin.len_, run_underlying hu, goInt, Sl.len]
theorem r_len_string {s : ByteArray} (hu : P.underlying t = some .string) (hx : opv L b x = .string s) :
    Runs P B σ PV L b ⟨some d, .call { callee := .builtin .len, args := #[x], argTypes := #[t] }, ty, ps, af, g⟩ (.int .i64 (s.size : Int)) := fun w _ => by
  simp [execOp, resolve, invoke, builtin, hx, Builtin.len_, run_underlying hu, goInt]
theorem run_eqnil {w : World} {e : TypeId} {a : Option Addr} {m c : Nat} (hu : P.underlying t = some (.slice e)) :
    (Op.equal t (.slice a m c) (.slice none 0 0)).run P w = .ok (!a.isSome) w := by
  rw [run_equal_slice_nil w t e a m c hu]
  cases a <;> simp
theorem r_eqnil_frozen {α : Type} {T : Ty α} {s : Sl α} {e : TypeId} (hu : P.underlying t = some (.slice e)) (hx : opv L b x = v) (hy : opv L b y = .slice none 0 0) (hv : (tSl T).vrel σ v s) :
    Runs P B σ PV L b ⟨some d, .binOp .eql t x y t', ty, ps, af, g⟩ (.bool !s.nn) := fun w _ => by
  obtain ⟨a, m, c, rfl, h1, h2, _⟩ := tSl_v.1 hv
  simp [execOp, hx, hy, eqGuard, binOp, run_eqnil hu, h2]
theorem r_nenil_frozen {α : Type} {T : Ty α} {s : Sl α} {e : TypeId} (hu : P.underlying t = some (.slice e)) (hx : opv L b x = v) (hy : opv L b y = .slice none 0 0) (hv : (tSl T).vrel σ v s) :
    Runs P B σ PV L b ⟨some d, .binOp .neq t x y t', ty, ps, af, g⟩ (.bool s.nn) := fun w _ => by
  obtain ⟨a, m, c, rfl, h1, h2, _⟩ := tSl_v.1 hv
  simp [execOp, hx, hy, eqGuard, binOp, run_eqnil hu, h2]
theorem r_eqnil_row {α : Type} {T : Ty α} {s : Sl α} {e e' : TypeId} (m : Nat) (hu : P.underlying t = some (.slice e)) (hx : opv L b x = v) (hy : opv L b y = .slice none 0 0) (hp : PV[m]? = some (.row α T e' v s)) :
    Runs P B σ PV L b ⟨some d, .binOp .eql t x y t', ty, ps, af, g⟩ (.bool !s.nn) := fun w hw => by
  obtain ⟨a, c, rfl, h2, _⟩ := row_form (hw.2 _ (List.mem_of_getElem? hp))
  simp [execOp, hx, hy, eqGuard, binOp, run_eqnil hu, h2]
theorem r_nenil_row {α : Type} {T : Ty α} {s : Sl α} {e e' : TypeId} (m : Nat) (hu : P.underlying t = some (.slice e)) (hx : opv L b x = v) (hy : opv L b y = .slice none 0 0) (hp : PV[m]? = some (.row α T e' v s)) :
    Runs P B σ PV L b ⟨some d, .binOp .neq t x y t', ty, ps, af, g⟩ (.bool s.nn) := fun w hw => by
  obtain ⟨a, c, rfl, h2, _⟩ := row_form (hw.2 _ (List.mem_of_getElem? hp))
  simp [execOp, hx, hy, eqGuard, binOp, run_eqnil hu, h2]

/-! addresses -/
theorem r_fieldAddr {fs : Array Field} {f : Field} {m : Nat} {a r : Addr} {ti : TypeInfo} (hu : P.underlying t = some (.struct fs)) (hf : fs[m]? = some f) (hi : P.info? f.type = some ti) (hz : ti.size ≠ 0)
    (hx : opv L b x = .pointer (some a)) (hr : a.add f.offset = r) : Runs P B σ PV L b ⟨some d, .fieldAddr t x m, ty, ps, af, g⟩ (.pointer (some r)) := fun w _ => by
  subst hr
  simp [execOp, hx, Instr.fieldAt, run_underlying hu, hf, Instr.sureAddr, fieldPlace, sizeOf, typeInfo, hi, hz]
theorem r_index_arr {e : TypeId} {n i : Nat} {a r : Addr} {ti : TypeInfo} (hu : P.underlying t = some (.array n e)) (hi : P.info? e = some ti) (hz : ti.size ≠ 0)
    (hx : opv L b x = .pointer (some a)) (hy : opv L b y = .int .i64 (i : Int)) (hlt : i < n) (hr : a.add (i * ti.size) = r) :
    Runs P B σ PV L b ⟨some d, .indexAddr t x y, ty, ps, af, g⟩ (.pointer (some r)) := fun w _ => by
  subst hr
  simp [execOp, hx, hy, Instr.indexAt, asIntOf, run_underlying hu, Instr.sureAddr, sizeOf, typeInfo, hi, hlt]
theorem r_index_frozen {α : Type} {T : Ty α} {s : Sl α} {q : α} {e : TypeId} {ti : TypeInfo} (hu : P.underlying t = some (.slice e)) (hi : P.info? e = some ti) (hz : ti.size = T.size)
    (hx : opv L b x = v) (hy : opv L b y = .int k i) (hv : (tSl T).vrel σ v s) (hq : gidx s i = some q) :
    Runs P B σ PV L b ⟨some d, .indexAddr t x y, ty, ps, af, g⟩ (.pointer (some (elemAddr v (i.toNat * T.size)))) := fun w _ => by
  obtain ⟨a, m, c, rfl, h1, h2, h3, h4, h5, _⟩ := tSl_v.1 hv
  have hlt := gidx_lt hq
  rw [← h1] at hlt
  cases a with
  | none => have := h5 rfl; omega
  | some a =>
    simp [execOp, hx, hy, Instr.indexAt, asIntOf, run_underlying hu, sizeOf, typeInfo, hi, hz, hlt, elemAddr]
theorem r_index_row {α : Type} {T : Ty α} {s : Sl α} {q : α} {e e' : TypeId} {ti : TypeInfo} (m : Nat) (hu : P.underlying t = some (.slice e)) (hi : P.info? e = some ti) (hz : ti.size = T.size)
    (hx : opv L b x = v) (hy : opv L b y = .int k i) (hp : PV[m]? = some (.row α T e' v s)) (hq : gidx s i = some q) :
    Runs P B σ PV L b ⟨some d, .indexAddr t x y, ty, ps, af, g⟩ (.pointer (some (elemAddr v (i.toNat * T.size)))) := fun w hw => by
  obtain ⟨a, c, rfl, h1, h2⟩ := row_form (hw.2 _ (List.mem_of_getElem? hp))
  have hlt := gidx_lt hq
  cases a with
  | none => have := h2 rfl; omega
  | some a =>
    simp [execOp, hx, hy, Instr.indexAt, asIntOf, run_underlying hu, sizeOf, typeInfo, hi, hz, hlt, elemAddr]

/-! loads -/
theorem cell_add {w : World} {q : Nat} {cur : Array Value} {e : TypeId} {fz : Nat × Nat} (h : w.heap[q]? = some (.cells cur e fz)) (m : Nat) : w.cell? ((⟨q, 0, none⟩ : Addr).add m) = cur[m]? := by
  unfold World.cell? Addr.add
  by_cases h0 : m = 0
  · subst h0; simp [h]
  · simp [h0, h]
def aggDesc : TypeDesc → Bool
  | .struct _ | .array _ _ => true
  | _ => false
theorem run_loadCells_of {w : World} (a : Addr) (cs : List Value) (h : ∀ (j : Nat) (u : Value), cs[j]? = some u → w.cell? (a.add j) = some u) : (loadCells a cs.length).run P w = .ok cs.toArray w :=
  run_loadCells_list w a cs h
theorem run_loadVar_cells {w : World} {td : TypeDesc} {ti : TypeInfo} (a : Addr) (cs : List Value) (hu : P.underlying t = some td) (hi : P.info? t = some ti) (hz : ti.size = cs.length) (h1 : aggDesc td = false → cs.length = 1)
    (h : ∀ (j : Nat) (u : Value), cs[j]? = some u → w.cell? (a.add j) = some u) : (loadVar t a).run P w = .ok (cellsVal (aggDesc td) cs) w := by
  unfold loadVar
  have hagg : (Go.isAgg t).run P w = Result.ok (aggDesc td) w := by
    unfold Go.isAgg
    rw [Sem.run_bind, run_underlying hu]
    cases td <;> rfl
  rw [Sem.run_bind, hagg]
  simp only [Result.andThen_ok]
  cases hd : aggDesc td with
  | true =>
    simp only [if_true, Sem.run_bind, sizeOf, typeInfo, run_program, Result.andThen_ok, hi, Sem.run_pure, hz]
    rw [run_loadCells_of a cs h]
    simp [cellsVal]
  | false =>
    have hl := h1 hd
    match cs, hl with
    | [u], _ =>
      have := h 0 u rfl
      simp only [Addr.add, if_true] at this
      simp [load, Sem.run, this, cellsVal]
theorem r_load_priv {c off : Nat} {cs cs' : List Value} {T : TypeId} {td : TypeDesc} {ti : TypeInfo} (m : Nat) (hu : P.underlying t = some td) (hi : P.info? t = some ti)
    (hx : opv L b x = .pointer (some ⟨c, off, none⟩)) (hp : PV[m]? = some (.cell c cs T)) (hcs : (cs.drop off).take ti.size = cs') (hl : cs'.length = ti.size) (h1 : aggDesc td = false → ti.size = 1)
    (hv : cellsVal (aggDesc td) cs' = v) : Runs P B σ PV L b ⟨some d, .load t x, ty, ps, af, g⟩ v := fun w hw => by
  have hh := (hw.2 _ (List.mem_of_getElem? hp)).1
  subst hv
  have := run_loadVar_cells (P := P) (w := w) ⟨c, off, none⟩ cs' hu hi hl.symm (fun h => by rw [hl]; exact h1 h) (fun j u hj => by
    subst hcs
    have hj' : j < ti.size := by
      have := (List.getElem?_eq_some_iff.1 hj).1
      rw [hl] at this; exact this
    rw [List.getElem?_take_of_lt hj', List.getElem?_drop] at hj
    rw [show (⟨c, off, none⟩ : Addr) = (⟨c, 0, none⟩ : Addr).add off by unfold Addr.add; split <;> simp_all, Addr.add_add, cell_add hh]
    simpa using hj)
  simp [execOp, hx, Instr.loadAt, Instr.sureAddr, this]

def FieldAt {α β : Type} (T : Ty α) (off : Nat) (Tf : Ty β) (proj : α → β) : Prop := ∀ σ cs x, T.rel σ cs x → Tf.rel σ ((cs.drop off).take Tf.size) (proj x)
theorem FieldAt.self {α : Type} (T : Ty α) : FieldAt T 0 T id := fun σ cs x h => by
  have := T.len h
  simp only [List.drop_zero, id]; rw [← this, List.take_length]; exact h
theorem FieldAt.comp {α β γ : Type} {T : Ty α} {T1 : Ty β} {T2 : Ty γ} {o1 o2 : Nat} {f : α → β} {g : β → γ} (h : FieldAt T o1 T1 f) (k : FieldAt T1 o2 T2 g) (hl : o2 + T2.size ≤ T1.size) :
    FieldAt T (o1 + o2) T2 (g ∘ f) := fun σ cs x r => by
  have := k σ _ _ (h σ cs x r)
  rw [List.drop_take, List.take_take, List.drop_drop] at this
  rwa [Nat.min_eq_left (by omega)] at this
theorem FieldAt.fst {α β : Type} {A : Ty α} {C : Ty β} : FieldAt (tProd A C) 0 A Prod.fst := by
  rintro σ cs x ⟨c, d, rfl, h, k⟩
  have := A.len h
  simp only [List.drop_zero]; rw [← this, List.take_left]; exact h
theorem FieldAt.snd {α β : Type} {A : Ty α} {C : Ty β} : FieldAt (tProd A C) A.size C Prod.snd := by
  rintro σ cs x ⟨c, d, rfl, h, k⟩
  have h1 := A.len h
  have h2 := C.len k
  rw [← h1, List.drop_left, ← h2, List.take_length]; exact k

theorem l_elem_frozen {α β : Type} {T : Ty α} {Tf : Ty β} {proj : α → β} {s : Sl α} {q : α} {off : Nat} {td : TypeDesc} {ti : TypeInfo} (hu : P.underlying t = some td) (hi : P.info? t = some ti) (hz : ti.size = Tf.size)
    (hag : Tf.agg = aggDesc td) (hx : opv L b x = .pointer (some (elemAddr v (i.toNat * T.size + off)))) (hv : (tSl T).vrel σ v s) (hq : gidx s i = some q) (hf : FieldAt T off Tf proj) (hoff : off + Tf.size ≤ T.size) :
    Reads P B σ PV L b ⟨some d, .load t x, ty, ps, af, g⟩ (fun u => Tf.vrel σ u (proj q)) := by
  obtain ⟨a, m, c, rfl, h1, h2, h3, h4, h5, cells, h6, h7⟩ := tSl_v.1 hv
  have hel := T.rels_get i.toNat h6 (gidx_some.1 hq).2
  have hfl := hf σ _ _ hel
  refine ⟨_, vrel_of_rel hfl, fun w hw => ?_⟩
  have hlen := Tf.len hfl
  have hsub : ∀ (j : Nat) (u : Value), ((((cells.drop (i.toNat * T.size)).take T.size).drop off).take Tf.size)[j]? = some u → w.cell? ((elemAddr (.slice a m c) (i.toNat * T.size + off)).add j) = some u := by
    intro j u hj
    have hj' : j < Tf.size := by
      have := (List.getElem?_eq_some_iff.1 hj).1
      rw [hlen] at this; exact this
    rw [List.getElem?_take_of_lt hj', List.getElem?_drop, List.getElem?_take_of_lt (by omega), List.getElem?_drop] at hj
    obtain ⟨ad, rfl, hc⟩ := h7 _ _ hj
    have := hw.1.cell hc
    simp only [elemAddr, Addr.add_add]
    rw [show i.toNat * T.size + off + j = i.toNat * T.size + (off + j) by omega]
    exact this
  have := run_loadVar_cells (P := P) (w := w) (elemAddr (.slice a m c) (i.toNat * T.size + off)) _ hu hi (by rw [hlen, hz]) (fun h => by rw [hlen]; exact Tf.sz (by rw [hag, h])) hsub
  rw [← hag] at this
  simp [execOp, hx, Instr.loadAt, Instr.sureAddr, this]
theorem l_elem_row {α β : Type} {T : Ty α} {Tf : Ty β} {proj : α → β} {s : Sl α} {q : α} {off : Nat} {e : TypeId} {td : TypeDesc} {ti : TypeInfo} (mm : Nat) (hu : P.underlying t = some td) (hi : P.info? t = some ti) (hz : ti.size = Tf.size)
    (hag : Tf.agg = aggDesc td) (hx : opv L b x = .pointer (some (elemAddr v (i.toNat * T.size + off)))) (hp : PV[mm]? = some (.row α T e v s)) (hq : gidx s i = some q) (hf : FieldAt T off Tf proj) (hoff : off + Tf.size ≤ T.size)
    [pl : Plain Tf] :
    Reads P B σ PV L b ⟨some d, .load t x, ty, ps, af, g⟩ (fun u => Tf.vrel σ u (proj q)) := by
  obtain ⟨cs0, hcs0⟩ : ∃ cs, Tf.rel σ cs (proj q) := ⟨_, (pl.spec σ _ _).2 rfl⟩
  have hdet : ∀ cs cs' y, Tf.rel σ cs y → Tf.rel σ cs' y → cs = cs' := fun cs cs' y h k => ((pl.spec σ _ _).1 h).trans ((pl.spec σ _ _).1 k).symm
  refine ⟨_, vrel_of_rel hcs0, fun w hw => ?_⟩
  obtain ⟨cells, hown, h6, h3⟩ := hw.2 _ (List.mem_of_getElem? hp)
  have hel := T.rels_get i.toNat h6 (gidx_some.1 hq).2
  have hfl := hf σ _ _ hel
  have hlt := gidx_lt hq
  obtain ⟨_, hh⟩ := hown
  rcases hh with ⟨_, h0⟩ | ⟨gb, cap, cur, rfl, k1, k2, k3, k4, k5, k6⟩
  · omega
  have hlen := Tf.len hfl
  have hsub : ∀ (j : Nat) (u : Value), cs0[j]? = some u → w.cell? ((elemAddr (.slice (some ⟨gb, 0, none⟩) s.xs.length cap) (i.toNat * T.size + off)).add j) = some u := by
    intro j u hj
    rw [hdet cs0 _ _ hcs0 hfl] at hj
    have hj' : j < Tf.size := by
      have := (List.getElem?_eq_some_iff.1 hj).1
      rw [hlen] at this; exact this
    rw [List.getElem?_take_of_lt hj', List.getElem?_drop, List.getElem?_take_of_lt (by omega), List.getElem?_drop] at hj
    rw [← k6] at hj
    have hb : i.toNat * T.size + (off + j) < s.xs.length * T.size := by
      have : (i.toNat + 1) * T.size ≤ s.xs.length * T.size := Nat.mul_le_mul_right _ (by omega)
      rw [Nat.add_mul] at this; omega
    rw [List.getElem?_take_of_lt hb] at hj
    simp only [elemAddr, Addr.add_add]
    rw [show i.toNat * T.size + off + j = i.toNat * T.size + (off + j) by omega]
    rw [cell_add k2]; simpa using hj
  have hl0 := Tf.len hcs0
  have := run_loadVar_cells (P := P) (w := w) _ cs0 hu hi (by rw [hl0, hz]) (fun h => by rw [hl0]; exact Tf.sz (by rw [hag, h])) hsub
  rw [← hag] at this
  simp [execOp, hx, Instr.loadAt, Instr.sureAddr, this]
end
end Go.Px
