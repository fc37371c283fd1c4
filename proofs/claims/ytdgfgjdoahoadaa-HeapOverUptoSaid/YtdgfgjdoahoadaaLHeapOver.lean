/- Facts of cells hold of numbers just when the type's facts hold of what the cells are then. No condition beyond the statement's own. -/
import Derived.Test.YtdgfgjdoahoadaaP13K
namespace Go.Px
set_option linter.unusedVariables false

theorem sumc {α : Type} (l : List α) (c : Nat) : (l.map fun _ => c).sum = c * l.length := by
  induction l with
  | nil => rfl
  | cons a l ih => simp only [List.map_cons, List.sum_cons, List.length_cons, ih, Nat.mul_add]; omega
def osym (n : Int) (s : Gheap_Sym) : Gheap_Sym := ⟨1, pos s.Var % n, clp s.K, 0⟩
theorem sym1_ok (x : Sl Gheap_Chunk) (n : Int) (fs : Sl Leq) (s : Gheap_Sym) (hn : 0 < n) (hn2 : n ≤ 1000000) : lychgatelaw13_sym x n fs (⟨1, s.Var, s.K, 0⟩ : Gheap_Sym) = some (osym n s) := by
  unfold lychgatelaw13_sym
  simp only [decide_true, if_true]
  show Option.bind (Option.bind (Option.bind (gmod .i64 (pos s.Var) n) _) _) _ = _
  rw [gmod_ok (pos_nn _) hn (by omega)]
  rfl
/-- the numbers of the variables -/
def vals (ns : List Int) (m : Nat) : List Int := (0 : Int) :: (ns.take m).map clp
theorem vals_loop (ns : Sl Int) (m : Nat) (hm : m ≤ 9) (hml : m ≤ ns.xs.length) (hmin : (if 9 < ns.len then 9 else ns.len) = (m : Int)) (v0 : Sl Int) (hv : v0 = ⟨List.replicate (m + 1) 0, true⟩) :
    loopO (lychgatelaw13_HeapOver_L1 ns) ((⟨[], false⟩ : Sl Gheap_Chunk), (⟨[], false⟩ : Sl Gdiff_Leq), v0, 0) = some ((⟨[], false⟩ : Sl Gheap_Chunk), (⟨[], false⟩ : Sl Gdiff_Leq), (⟨vals ns.xs m, true⟩ : Sl Int)) := by
  have hw : IntKind.i64.wrap ((IntKind.i64.wrap (1 + (m : Int))) - 1) = (m : Int) := by rw [wrap_id (n := 1 + (m : Int)) (by omega) (by omega), wrap_id (by omega) (by omega)]; omega
  have key : ∀ k j, j + k = m → loopO (lychgatelaw13_HeapOver_L1 ns) ((⟨[], false⟩ : Sl Gheap_Chunk), (⟨[], false⟩ : Sl Gdiff_Leq), (⟨(0 : Int) :: ((ns.xs.take j).map clp ++ List.replicate k 0), true⟩ : Sl Int), (j : Int)) = some ((⟨[], false⟩ : Sl Gheap_Chunk), (⟨[], false⟩ : Sl Gdiff_Leq), (⟨vals ns.xs m, true⟩ : Sl Int)) := by
    intro k
    induction k with
    | zero =>
      intro j hj
      obtain rfl : j = m := by omega
      rw [loopO_eq]
      unfold lychgatelaw13_HeapOver_L1
      rw [hmin, hw, if_neg (by simp)]
      simp [vals]
    | succ k ih =>
      intro j hj
      have hlt : j < ns.xs.length := by omega
      have hn1 : IntKind.i64.wrap ((j : Int) + 1) = ((j + 1 : Nat) : Int) := by rw [wrap_id (by omega) (by omega)]; omega
      refine (fun hstep : lychgatelaw13_HeapOver_L1 ns ((⟨[], false⟩ : Sl Gheap_Chunk), (⟨[], false⟩ : Sl Gdiff_Leq), (⟨(0 : Int) :: ((ns.xs.take j).map clp ++ List.replicate (k + 1) 0), true⟩ : Sl Int), (j : Int)) = some (.next ((⟨[], false⟩ : Sl Gheap_Chunk), (⟨[], false⟩ : Sl Gdiff_Leq), (⟨(0 : Int) :: ((ns.xs.take (j + 1)).map clp ++ List.replicate k 0), true⟩ : Sl Int), ((j + 1 : Nat) : Int))) => ?_) ?_
      · rw [loopO_eq, hstep]; exact ih (j + 1) (by omega)
      unfold lychgatelaw13_HeapOver_L1
      rw [hmin, hw, if_pos (by simp; omega)]
      simp only
      rw [gidx_ok default (by omega) (by omega), hn1]
      simp only [Option.bind_some, Int.toNat_natCast]
      rw [show lychgatelaw13_cut (ns.xs.getD j default) = some () from rfl]
      simp only [Option.bind_some]
      rw [gidx_ok default (by omega) (by simp; omega)]
      simp only [Option.bind_some]
      have hset := gset_ok (s := (⟨(0 : Int) :: ((ns.xs.take j).map clp ++ List.replicate (k + 1) 0), true⟩ : Sl Int)) (i := ((j + 1 : Nat) : Int)) (v := clp (ns.xs.getD j default)) (by omega) (by simp; omega)
      rw [show gset (⟨(0 : Int) :: ((ns.xs.take j).map clp ++ List.replicate (k + 1) 0), true⟩ : Sl Int) ((j + 1 : Nat) : Int) (if (-1099511627776) < (if 1099511627776 < (ns.xs.getD j default) then 1099511627776 else (ns.xs.getD j default)) then (if 1099511627776 < (ns.xs.getD j default) then 1099511627776 else (ns.xs.getD j default)) else (-1099511627776)) = _ from hset]
      simp only [Option.bind_some, Int.toNat_natCast, List.set_cons_succ]
      have hl : ((ns.xs.take j).map clp).length = j := by simp; omega
      rw [List.set_append_right _ _ (by omega), hl, Nat.sub_self, List.replicate_succ, List.set_cons_zero]
      rw [List.take_add_one]
      have e : ns.xs[j]?.toList = [ns.xs.getD j default] := by simp [List.getElem?_eq_getElem hlt, List.getD_eq_getElem?_getD]
      rw [e, List.map_append, List.append_assoc]
      rfl
  have := key m 0 (by omega)
  subst hv
  simpa [List.replicate_succ] using this
theorem vals_le (ns : List Int) (m : Nat) (i : Nat) : -1099511627776 ≤ (vals ns m).getD i 0 ∧ (vals ns m).getD i 0 ≤ 1099511627776 := by
  unfold vals
  cases i with
  | zero => simp
  | succ i =>
    rw [List.getD_cons_succ, List.getD_eq_getElem?_getD]
    cases h : ((ns.take m).map clp)[i]? with
    | none => simp
    | some x =>
      obtain ⟨y, _, rfl⟩ := List.mem_map.1 (List.mem_of_getElem? h)
      simpa using clp_le y
/-- what a cell is -/
def cellv (vs : List Int) (own : List Gheap_Sym) (v : Int) : Int := if v = 0 then 0 else vs.getD (own.getD (v - 1).toNat default).Var.toNat 0 + (own.getD (v - 1).toNat default).K
theorem heapOver_law (a0 : Sl Gdiff_Leq) (a1 : Sl Gheap_Sym) (a2 : Sl Int) (hw : ((a0.xs.map (fun y => (1 + 1 + 1 + 1))).sum + 1) + ((a1.xs.map (fun y => (1 + 1 + 1 + 1 + 1))).sum + 1) + ((a2.xs.map (fun y => 1)).sum + 1) ≤ 1048576) (g0 : ((a0.nn = false → a0.xs = []) ∧ a0.xs.length ≤ maxLen ∧ ∀ y ∈ a0.xs, ((IntKind.i64.min ≤ y.X ∧ y.X ≤ IntKind.i64.max) ∧ (IntKind.i64.min ≤ y.Y ∧ y.Y ≤ IntKind.i64.max) ∧ (IntKind.i64.min ≤ y.C ∧ y.C ≤ IntKind.i64.max)))) (g1 : ((a1.nn = false → a1.xs = []) ∧ a1.xs.length ≤ maxLen ∧ ∀ y ∈ a1.xs, ((IntKind.i64.min ≤ y.Kind ∧ y.Kind ≤ IntKind.i64.max) ∧ (IntKind.i64.min ≤ y.Var ∧ y.Var ≤ IntKind.i64.max) ∧ (IntKind.i64.min ≤ y.K ∧ y.K ≤ IntKind.i64.max) ∧ (IntKind.i64.min ≤ y.Block ∧ y.Block ≤ IntKind.i64.max)))) (g2 : ((a2.nn = false → a2.xs = []) ∧ a2.xs.length ≤ maxLen ∧ ∀ y ∈ a2.xs, (IntKind.i64.min ≤ y ∧ y ≤ IntKind.i64.max))) : lychgatelaw13_HeapOver a0 a1 a2 = some true := by
  unfold lychgatelaw13_HeapOver
  rw [lychgatelaw13_wakes_val]
  simp only [Option.bind_some, Bool.not_true, Bool.false_eq_true, if_false]
  have e0 := sumc a0.xs (1 + 1 + 1 + 1)
  have e1 := sumc a1.xs (1 + 1 + 1 + 1 + 1)
  have e2 := sumc a2.xs 1
  have l0 : a0.xs.length ≤ 140737488355328 := by omega
  have l1 : a1.xs.length ≤ 140737488355328 := by omega
  have l2 : a2.xs.length ≤ 140737488355328 := by omega
  obtain ⟨m, hm, hml, hmin⟩ : ∃ m : Nat, m ≤ 9 ∧ m ≤ a2.xs.length ∧ (if 9 < a2.len then 9 else a2.len) = (m : Int) := by
    rw [sl_len]
    by_cases h : (9 : Int) < a2.xs.length
    · exact ⟨9, by omega, by omega, by rw [if_pos h]; rfl⟩
    · exact ⟨a2.xs.length, by omega, by omega, by rw [if_neg h]⟩
  rw [hmin]
  have hw1 : IntKind.i64.wrap (1 + (m : Int)) = ((m + 1 : Nat) : Int) := by rw [wrap_id (by omega) (by omega)]; omega
  rw [hw1, gmake_ok (by omega) (by simp; omega) (by omega)]
  simp only [Option.bind_some, Int.toNat_natCast]
  rw [vals_loop a2 m hm hml hmin _ rfl]
  simp only [Option.bind_some]
  rw [take9 a1 9 (by omega) l1]
  simp only [Option.bind_some]
  -- what the cells are
  have hown := map_loop (b := 32) (f := lychgatelaw13_HeapOver_L2 ⟨a1.xs.take (Int.toNat 9), a1.nn⟩ ((⟨[], false⟩ : Sl Gheap_Chunk), (⟨[], false⟩ : Sl Gdiff_Leq), (⟨vals a2.xs m, true⟩ : Sl Int))) (fun acc i => (((m + 1 : Nat) : Int), acc, i)) id (s := ⟨a1.xs.take (Int.toNat 9), a1.nn⟩) (fun x acc i =>
    Option.bind (lychgatelaw13_sym (⟨[], false⟩ : Sl Gheap_Chunk) ((m + 1 : Nat) : Int) (⟨[], false⟩ : Sl Gdiff_Leq) (⟨1, x.Var, x.K, 0⟩ : Gheap_Sym)) fun r_85 =>
    Option.bind (gapp 32 acc [r_85]) fun s_98 =>
    some (.next (((m + 1 : Nat) : Int), s_98, IntKind.i64.wrap (i + 1)))) (osym ((m + 1 : Nat) : Int)) ⟨[], false⟩ (fun acc i => rfl) (fun x hx acc i => by rw [sym1_ok _ _ _ _ (by omega) (by omega)]; rfl) (by simp; omega) (by simp; omega)
  rw [show loopO (lychgatelaw13_HeapOver_L2 ⟨a1.xs.take (Int.toNat 9), a1.nn⟩ ((⟨[], false⟩ : Sl Gheap_Chunk), (⟨[], false⟩ : Sl Gdiff_Leq), (⟨vals a2.xs m, true⟩ : Sl Int))) (((m + 1 : Nat) : Int), (⟨[], false⟩ : Sl Gheap_Sym), 0) = _ from hown]
  simp only [Option.bind_some, id, List.nil_append, Bool.false_or]
  generalize hos : (a1.xs.take (Int.toNat 9)).map (osym ((m + 1 : Nat) : Int)) = own
  have hol : own.length ≤ 9 := by rw [← hos]; simp; omega
  have ho : ∀ s ∈ own, s.Kind = 1 ∧ 0 ≤ s.Var ∧ s.Var < (m + 1 : Nat) ∧ -1099511627776 ≤ s.K ∧ s.K ≤ 1099511627776 := by
    intro s hs
    rw [← hos] at hs
    obtain ⟨x, _, rfl⟩ := List.mem_map.1 hs
    exact ⟨rfl, Int.emod_nonneg _ (by omega), Int.emod_lt_of_pos _ (by omega), (clp_le _).1, (clp_le _).2⟩
  generalize (!(a1.xs.take (Int.toNat 9)).isEmpty) = nn1
  have hwl : IntKind.i64.wrap ((⟨own, nn1⟩ : Sl Gheap_Sym).len + 1) = ((own.length + 1 : Nat) : Int) := by rw [sl_len, wrap_id (by simp only; omega) (by simp only; omega)]; simp
  rw [hwl]
  obtain ⟨nn2, hfe, _⟩ := facts_ok a0 ((own.length + 1 : Nat) : Int) (by omega) (by omega) l0
  rw [hfe]
  simp only [Option.bind_some]
  generalize hfs : (a0.xs.take 9).map (fxn ((own.length + 1 : Nat) : Int)) = fs
  have hf : ∀ f ∈ fs, 0 ≤ f.X ∧ f.X ≤ own.length ∧ 0 ≤ f.Y ∧ f.Y ≤ own.length ∧ -1099511627776 ≤ f.C ∧ f.C ≤ 1099511627776 := by
    intro f hf
    rw [← hfs] at hf
    obtain ⟨x, _, rfl⟩ := List.mem_map.1 hf
    have := fxn_ok (n := ((own.length + 1 : Nat) : Int)) (by omega) x
    omega
  have hfl : fs.length ≤ 9 := by rw [← hfs]; simp; omega
  rw [over2_ok ⟨fs, nn2⟩ ⟨own, nn1⟩ (by simp only; omega) (by simp only; omega) (fun f h => by have := hf f h; simp only; omega)]
  simp only [Option.bind_some]
  rw [if_neg (by simp [sl_len])]
  have hcell : ∀ v : Int, 0 ≤ v → v ≤ own.length → lychgatelaw13_HeapOver_1 v ⟨vals a2.xs m, true⟩ ⟨own, nn1⟩ = some (cellv (vals a2.xs m) own v) ∧
      cellv (vals a2.xs m) own v = (vals a2.xs m).getD (sd own v).1.toNat 0 + (sd own v).2 ∧ 0 ≤ (sd own v).1 ∧ (sd own v).1 < (m + 1 : Nat) ∧ -1099511627776 ≤ (sd own v).2 ∧ (sd own v).2 ≤ 1099511627776 := by
    intro v h0 h1
    unfold lychgatelaw13_HeapOver_1 cellv sd
    by_cases h : v = 0
    · rw [if_pos (decide_eq_true h), if_pos h, if_pos h]
      exact ⟨rfl, by simp [vals], by simp, by simp only; omega, by simp, by simp⟩
    · have hlt : (v - 1).toNat < own.length := by omega
      obtain ⟨o1, o2, o3, o4, o5⟩ := ho _ (getD_mem default hlt)
      have e1 : gidx (⟨own, nn1⟩ : Sl Gheap_Sym) (IntKind.i64.wrap (v - 1)) = some (own.getD (v - 1).toNat default) := by
        rw [wrap_id (by omega) (by omega), gidx_ok default (by omega) (by simp only; omega)]
      generalize own.getD (v - 1).toNat default = c at o1 o2 o3 o4 o5 e1
      have hvl : (vals a2.xs m).length = m + 1 := by simp [vals]; omega
      have e2 : gidx (⟨vals a2.xs m, true⟩ : Sl Int) c.Var = some ((vals a2.xs m).getD c.Var.toNat 0) := gidx_ok 0 (by omega) (by simp only; omega)
      have hv := vals_le a2.xs m c.Var.toNat
      rw [if_neg (by simpa using h), if_neg h, if_neg h, e1]
      simp only [Option.bind_some]
      rw [e2]
      simp only [Option.bind_some]
      rw [wrap_id (by omega) (by omega), if_neg (by simp [o1])]
      exact ⟨rfl, rfl, o2, o3, o4, o5⟩
  have hno : ∀ (p : Nat → Bool) (N : Nat), (∀ j, j < N → p j = false) → (List.range N).any p = false := by
    intro p N h
    simp only [List.any_eq_false, List.mem_range]
    intro j hj; rw [h j hj]; simp
  have hloop := find_loop (f := lychgatelaw13_HeapOver_L3 ⟨fs, nn2⟩ ⟨fs.map (ov own), !fs.isEmpty⟩ ⟨own, nn1⟩ ((⟨[], false⟩ : Sl Gheap_Chunk), (⟨[], false⟩ : Sl Gdiff_Leq), (⟨vals a2.xs m, true⟩ : Sl Int))) fs.length (by omega) (fun _ => false) (.a ()) (.b ()) ?_ ?_
  · rw [hloop, if_neg (by rw [hno _ _ (fun j _ => rfl)]; simp)]
    rfl
  · intro j hj
    unfold lychgatelaw13_HeapOver_L3
    rw [if_pos (by simp [sl_len]; omega), gidx_ok default (by omega) (by simp only; omega)]
    simp only [Option.bind_some, Int.toNat_natCast]
    rw [gidx_ok default (by omega) (by simp; omega)]
    simp only [Option.bind_some, Int.toNat_natCast]
    have e : (fs.map (ov own)).getD j default = ov own (fs.getD j default) := by
      simp [List.getD_eq_getElem?_getD, List.getElem?_eq_getElem hj]
    rw [e]
    have hfj := hf _ (getD_mem default hj)
    generalize fs.getD j default = f at hfj
    obtain ⟨c1, c2, c3, c4, c5, c6⟩ := hcell f.X hfj.1 hfj.2.1
    obtain ⟨d1, d2, d3, d4, d5, d6⟩ := hcell f.Y hfj.2.2.1 hfj.2.2.2.1
    have hvl : (vals a2.xs m).length = m + 1 := by simp [vals]; omega
    rw [gidx_ok 0 (i := (ov own f).X) c3 (by show (sd own f.X).1 < _; simp only; omega)]
    simp only [Option.bind_some]
    rw [gidx_ok 0 (i := (ov own f).Y) d3 (by show (sd own f.Y).1 < _; simp only; omega)]
    simp only [Option.bind_some]
    rw [c1, d1]
    simp only [Option.bind_some]
    rw [c2, d2]
    have v1 := vals_le a2.xs m (sd own f.X).1.toNat
    have v2 := vals_le a2.xs m (sd own f.Y).1.toNat
    have o1 : (ov own f).X = (sd own f.X).1 := rfl
    have o2 : (ov own f).Y = (sd own f.Y).1 := rfl
    have o3 : (ov own f).C = f.C - (sd own f.X).2 + (sd own f.Y).2 := by
      show IntKind.i64.wrap (IntKind.i64.wrap (f.C - (sd own f.X).2) + (sd own f.Y).2) = _
      rw [wrap_id (n := f.C - (sd own f.X).2) (by omega) (by omega), wrap_id (by omega) (by omega)]
    rw [o1, o2, o3, wrap_id (by omega) (by omega), wrap_id (by omega) (by omega)]
    have hb : decide ((vals a2.xs m).getD (sd own f.X).1.toNat 0 + (sd own f.X).2 - ((vals a2.xs m).getD (sd own f.Y).1.toNat 0 + (sd own f.Y).2) ≤ f.C) = decide ((vals a2.xs m).getD (sd own f.X).1.toNat 0 - (vals a2.xs m).getD (sd own f.Y).1.toNat 0 ≤ f.C - (sd own f.X).2 + (sd own f.Y).2) := by
      apply Bool.eq_iff_iff.2; simp only [decide_eq_true_eq]; omega
    rw [hb]
    simp
  · unfold lychgatelaw13_HeapOver_L3
    rw [if_neg (by simp [sl_len])]
end Go.Px
