/- Part La: Px01A Px01B Px01C Px01D Px02A Px02B Px02C Px02D Px02E Px02F Px02G Px02H Px02I. -/
import Derived.Test.YtghhopjjddppbaaGreatDoorSh
import Derived.Test.YtghhopjjddppbaaGreatDoorA9
import Derived.Test.YtghhopjjddppbaaGreatDoorB2
/-! Chapter 1: bytes of texts; runs of bytes of one sort. -/
namespace Go.Px
set_option linter.unusedVariables false
set_option linter.unusedSimpArgs false
abbrev bs (s : ByteArray) : List UInt8 := s.data.toList
theorem bs_len (s : ByteArray) : (bs s).length = s.size := by cases s; simp [bs, ByteArray.size]
theorem bs_ext {s t : ByteArray} (h : bs s = bs t) : s = t := by
 cases s; cases t
 congr 1
 exact Array.toList_inj.1 h
theorem bs_lit (l : List UInt8) : bs (lit l) = l := rfl
theorem lpO_eq {s β : Type} (f : s → Option (Step s β)) (x : s) : lpO f x = (f x).bind fun | .next x' => lpO f x' | .done y => some y := loopO_eq f x
theorem gsidx_nat {s : ByteArray} {i : Nat} {c : UInt8} (h : (bs s)[i]? = some c) : gsidx s (i : Int) = some (c.toNat : Int) := by
 unfold gsidx
 rw [if_pos (Int.natCast_nonneg i)]
 simp only [Int.toNat_natCast]
 have h : s.data.toList[i]? = some c := h
 rw [h]; rfl
theorem drop_cons {l : List UInt8} {i : Nat} (h : i < l.length) : ∃ c, l[i]? = some c ∧ l.drop i = c :: l.drop (i + 1) :=
 ⟨l[i], List.getElem?_eq_getElem h, List.drop_eq_getElem_cons h⟩
theorem bs_extract (s : ByteArray) (i j : Nat) : bs (s.extract i j) = ((bs s).take j).drop i := by
 show (s.extract i j).data.toList = _
 rw [ByteArray.data_extract]
 simp [Array.toList_extract, List.extract, List.take_drop]
 by_cases h : i ≤ j
 ·rw [Nat.add_sub_cancel' h]
 ·have h1 : j - i = 0 := by omega
  rw [h1]
  simp
  omega
theorem gsslice_nat {s : ByteArray} {i j : Nat} (h1 : i ≤ j) (h2 : j ≤ s.size) : gsslice s (i : Int) (j : Int) = some (s.extract i j) := by
 unfold gsslice
 rw [if_pos ⟨Int.natCast_nonneg i, Int.ofNat_le.2 h1, Int.ofNat_le.2 h2⟩]
 rfl
theorem wrap_nat {n : Nat} (h : n < 9223372036854775808) : IntKind.i64.wrap (n : Int) = n := wrap_id (by omega) (by omega)
theorem wrap_add {n k : Nat} (h : n + k < 9223372036854775808) : IntKind.i64.wrap ((n : Int) + (k : Int)) = ((n + k : Nat) : Int) := by
 rw [wrap_id (by omega) (by omega)]; simp
theorem wrap_one {n : Nat} (h : n + 1 < 9223372036854775808) : IntKind.i64.wrap ((n : Int) + 1) = ((n + 1 : Nat) : Int) := by
 rw [wrap_id (by omega) (by omega)]; simp
/-- how many bytes of a sort stand at the beginning -/
def nrun (p : UInt8 → Bool) (l : List UInt8) : Nat := (l.takeWhile p).length
theorem nrun_nil (p : UInt8 → Bool) : nrun p [] = 0 := rfl
theorem nrun_cons (p : UInt8 → Bool) (c : UInt8) (l : List UInt8) : nrun p (c :: l) = if p c then nrun p l + 1 else 0 := by
 unfold nrun; rw [List.takeWhile_cons]; split <;> simp
theorem nrun_le (p : UInt8 → Bool) : ∀ l : List UInt8, nrun p l ≤ l.length
 | [] => Nat.le_refl _
 | c :: l => by rw [nrun_cons]; split <;> simp; exact nrun_le p l
def isL (b : UInt8) : Bool := (decide (97 ≤ b.toNat) && decide (b.toNat ≤ 122)) || decide (b.toNat = 95)
def isD (b : UInt8) : Bool := decide (48 ≤ b.toNat) && decide (b.toNat ≤ 57)
def isW (b : UInt8) : Bool := isL b || isD b
def notNl (b : UInt8) : Bool := decide (b.toNat ≠ 10)
theorem digit_ok (b : UInt8) : q2h (b.toNat : Int) = some (isD b) := by
 simp only [q2h, q6x, isD, decide_eq_true_eq]
 split
 ·rename_i h
  have : 48 ≤ b.toNat := by omega
  simp [this]; omega
 ·rename_i h
  have : ¬ 48 ≤ b.toNat := by omega
  simp [this]
theorem letter_ok (b : UInt8) : q1y (b.toNat : Int) = some (isL b) := by
 simp only [q1y, q6a, isL, decide_eq_true_eq]
 have e1 : (97 ≤ (b.toNat : Int)) ↔ 97 ≤ b.toNat := by omega
 have e2 : ((b.toNat : Int) ≤ 122) ↔ b.toNat ≤ 122 := by omega
 have e3 : ((b.toNat : Int) = 95) ↔ b.toNat = 95 := by omega
 simp only [e1, e2, e3]
 by_cases h1 : 97 ≤ b.toNat <;> by_cases h2 : b.toNat ≤ 122 <;> simp [h1, h2]
theorem within_ok (b : UInt8) : q3z (b.toNat : Int) = some (isW b) := by
 simp only [q3z, q6b, letter_ok, digit_ok, isW, Option.bind_some]
 cases isL b <;> simp
theorem notnl_ok (b : UInt8) : q34 (b.toNat : Int) = some (notNl b) := by
 simp only [q34, q59, notNl]
 congr 1
 exact decide_eq_decide.2 (by omega)
theorem run_loop {f : Int → Option Bool} {p : UInt8 → Bool} (hf : ∀ c : UInt8, f (c.toNat : Int) = some (p c)) {s : ByteArray} (hs : s.size < 4611686018427387904) :
    ∀ (n i : Nat), s.size - i = n → i ≤ s.size → lpO (q1b f) (s, (i : Int)) = some ((i + nrun p ((bs s).drop i) : Nat) : Int)
  | 0, i, hn, hi => by
    have : i = s.size := by omega
    subst this
    rw [lpO_eq]
    simp [q1b, List.drop_eq_nil_of_le, bs_len, nrun_nil]
  | n + 1, i, hn, hi => by
    have hlt : i < s.size := by omega
    obtain ⟨c, hc, hd⟩ := drop_cons (l := bs s) (i := i) (by rw [bs_len]; exact hlt)
    rw [lpO_eq]
    simp only [q1b, decide_eq_true_eq]
    rw [if_pos (Int.ofNat_lt.2 hlt), gsidx_nat hc]
    simp only [Option.bind_some, hf]
    rw [hd, nrun_cons]
    cases hp : p c with
    | true =>
      simp only [if_true, Option.bind_some]
      rw [wrap_one (by omega), run_loop hf hs n (i + 1) (by omega) (by omega)]
      congr 2
      omega
    | false => simp
theorem run_digit {s : ByteArray} {i : Nat} (hs : s.size < 4611686018427387904) (hi : i ≤ s.size) : q3u (s, (i : Int)) = some ((i + nrun isD ((bs s).drop i) : Nat) : Int) := by
 show (lpO (q1b q2h) (s, (i : Int))).bind some = _
 rw [run_loop digit_ok hs _ i rfl hi]; rfl
theorem run_within {s : ByteArray} {i : Nat} (hs : s.size < 4611686018427387904) (hi : i ≤ s.size) : q3h (s, (i : Int)) = some ((i + nrun isW ((bs s).drop i) : Nat) : Int) := by
 show (lpO (q1b q3z) (s, (i : Int))).bind some = _
 rw [run_loop within_ok hs _ i rfl hi]; rfl
theorem run_notnl {s : ByteArray} {i : Nat} (hs : s.size < 4611686018427387904) (hi : i ≤ s.size) : q32 (s, (i : Int)) = some ((i + nrun notNl ((bs s).drop i) : Nat) : Int) := by
 show (lpO (q1b q34) (s, (i : Int))).bind some = _
 rw [run_loop notnl_ok hs _ i rfl hi]; rfl
end Go.Px
/-! Chapter 1: the tokens of a text, as plain Lean. -/
namespace Go.Px
set_option linter.unusedVariables false
set_option linter.unusedSimpArgs false
def isKey (l : List UInt8) : Bool := decide (l = [116, 121, 112, 101]) || (decide (l = [102, 110]) || (decide (l = [111, 119, 110]) || (decide (l = [99, 101, 108, 108]) || (decide (l = [99, 111, 117, 110, 116, 101, 100]) || (decide (l = [108, 111, 99, 107]) || (decide (l = [103, 117, 97, 114, 100]) || (decide (l = [119, 104, 101, 114, 101]) || (decide (l = [105, 110, 116]) || (decide (l = [109, 117, 116]) || (decide (l = [102, 114, 101, 101]) || (decide (l = [117, 110, 108, 111, 99, 107]) || (decide (l = [105, 102]) || (decide (l = [101, 108, 115, 101]) || (decide (l = [119, 104, 105, 108, 101]) || (decide (l = [114, 101, 116, 117, 114, 110]) || (decide (l = [97, 98, 111, 114, 116]) || (decide (l = [102, 111, 114, 107]) || (decide (l = [110, 101, 119]) || (decide (l = [97, 114, 114, 97, 121]))))))))))))))))))))
theorem key_step {p : Prop} [Decidable p] {X : Option Bool} {b : Bool} (h : X = some b) : (if decide p = true then some (decide p) else X) = some (decide p || b) := by
 subst h
 by_cases hp : p <;> simp [hp]
theorem key_bind {X : Option Bool} {b : Bool} (h : X = some b) : (X.bind fun y => some y) = some b := by subst h; rfl
theorem key_top {X : Option Bool} {b : Bool} (h : X = some b) : (X.bind fun y => if y = true then some true else some false) = some b := by subst h; cases b <;> rfl
theorem lit_dec (s : ByteArray) (l : List UInt8) : decide (s = lit l) = decide (bs s = l) := by
 refine decide_eq_decide.2 ⟨fun h => by rw [h]; rfl, fun h => bs_ext h⟩
theorem key_ok (s : ByteArray) : q4h s = some (isKey (bs s)) := by
 simp only [q4h, q6y, isKey, ← lit_dec]
 refine key_top ?_
 repeat (first | exact rfl | apply key_step | apply key_bind)
theorem key_lit (l : List UInt8) : q4h (lit l) = some (isKey l) := key_ok (lit l)
/-- the number that digits spell -/
def numF (a : Nat) : List UInt8 → Nat
 | [] => a
 | c :: r => numF (a * 10 + (c.toNat - 48)) r
def numVal (l : List UInt8) : Nat := numF 0 l
theorem numF_ge : ∀ (l : List UInt8) (a : Nat), a ≤ numF a l
 | [], a => Nat.le_refl _
 | c :: r, a => Nat.le_trans (by omega) (numF_ge r _)
def sgn (c : UInt8) : Bool := [123, 125, 40, 41, 91, 93, 44, 58, 59, 61, 43, 45, 38, 60].contains c
def two (l : List UInt8) : Bool := decide (l.take 2 = [45, 62]) || (decide (l.take 2 = [60, 61]) || decide (l.take 2 = [61, 61]))
/-- how long the sign is that begins a text; 0: none -/
def signLen (l : List UInt8) : Nat := if two l then 2 else match l with
 | [] => 0
 | c :: _ => if sgn c then 1 else 0
/-- what begins a text -/
inductive Nx where
 | skip (n : Nat)
 | tok (k : Int) (n : Nat) (v : Int)
 | err (e : Int)
/-- is there a letter at the place? -/
def letterAt : Option UInt8 → Bool
 | some c => isL c
 | none => false
def numBad (l : List UInt8) : Bool := decide (1099511627776 < numVal (l.take (nrun isD l))) || ((decide (1 < nrun isD l) && decide (l.head? = some 48)) || letterAt l[nrun isD l]?)
def nxNum (l : List UInt8) : Nx := if numBad l then .err 12 else .tok 3 (nrun isD l) (numVal (l.take (nrun isD l)))
def nxWord (l : List UInt8) : Nx := if 16 < nrun isW l then .err 13 else .tok (if isKey (l.take (nrun isW l)) then 2 else 1) (nrun isW l) 0
def nxSign (l : List UInt8) : Nx := if signLen l = 0 then .err 11 else .tok 4 (signLen l) 0
def nxt (l : List UInt8) : Nx := match l with
 | [] => .err 11
 | c :: r => if c.toNat = 32 ∨ c.toNat = 10 then .skip 1 else if c.toNat = 35 then .skip (nrun notNl (c :: r)) else if isD c then nxNum (c :: r) else if isL c then nxWord (c :: r) else nxSign (c :: r)
def lexF : Nat → Nat → List UInt8 → (Nat × Int) ⊕ List q8
 | 0, _, _ => .inr []
 | f + 1, at_, l => if l.isEmpty then .inr [] else match nxt l with
  | .skip n => lexF f (at_ + n) (l.drop n)
  | .err e => .inl (at_, e)
  | .tok k n v => match lexF f (at_ + n) (l.drop n) with
   | .inl x => .inl x
   | .inr ts => .inr (⟨k, lit (l.take n), v, at_⟩ :: ts)
/-- the tokens of a text that begins at a place, but for the end; or the fault -/
def lexT (at_ : Nat) (l : List UInt8) : (Nat × Int) ⊕ List q8 := lexF l.length at_ l
theorem signLen_le (l : List UInt8) : signLen l ≤ l.length := by
 unfold signLen
 split
 ·rename_i h
  unfold two at h
  match l with
  | [] => simp at h
  | [a] => simp at h
  | a :: b :: r => simp
 ·match l with
  | [] => simp
  | a :: r => simp only; split <;> simp
def NxOK (m : Nat) : Nx → Prop
 | .skip n => 1 ≤ n ∧ n ≤ m
 | .tok _ n _ => 1 ≤ n ∧ n ≤ m
 | .err _ => True
theorem nxt_pos {l : List UInt8} (h : l ≠ []) : NxOK l.length (nxt l) := by
 match l, h with
 | c :: r, _ =>
  show NxOK (c :: r).length (if c.toNat = 32 ∨ c.toNat = 10 then .skip 1 else if c.toNat = 35 then .skip (nrun notNl (c :: r)) else if isD c then nxNum (c :: r) else if isL c then nxWord (c :: r) else nxSign (c :: r))
  split
  ·exact ⟨by omega, by simp⟩
  ·rename_i h1
   split
   ·rename_i h2
    refine ⟨?_, nrun_le _ _⟩
    rw [nrun_cons]
    have : notNl c = true := by unfold notNl; simp; omega
    simp [this]
   ·split
    ·rename_i hd
     unfold nxNum
     cases numBad (c :: r) with
     | true => trivial
     | false =>
      refine ⟨?_, nrun_le _ _⟩
      rw [nrun_cons]; simp [hd]
    ·split
     ·rename_i hl
      unfold nxWord
      split
      ·trivial
      ·refine ⟨?_, nrun_le _ _⟩
       rw [nrun_cons]; simp [isW, hl]
     ·unfold nxSign
      split
      ·trivial
      ·exact ⟨by omega, signLen_le _⟩
theorem lexF_fuel : ∀ (f : Nat) (l : List UInt8) (at_ : Nat) (g : Nat), l.length ≤ f → l.length ≤ g → lexF f at_ l = lexF g at_ l
 | 0, l, at_, g, h, hg => by
  have : l = [] := List.eq_nil_of_length_eq_zero (by omega)
  subst this
  cases g <;> rfl
 | f + 1, l, at_, g, h, hg => by
  match l with
  | [] => cases g <;> rfl
  | c :: r =>
   match g, hg with
   | g + 1, hg =>
    have hp := nxt_pos (l := c :: r) (by simp)
    unfold lexF
    simp only [List.isEmpty_cons, Bool.false_eq_true, if_false]
    cases hn : nxt (c :: r) with
    | err e => rfl
    | skip n =>
     rw [hn] at hp
     simp only [NxOK] at hp ⊢
     exact lexF_fuel f _ _ g (by rw [List.length_drop]; simp only [List.length_cons] at *; omega) (by rw [List.length_drop]; simp only [List.length_cons] at *; omega)
    | tok k n v =>
     rw [hn] at hp
     simp only [NxOK] at hp ⊢
     rw [lexF_fuel f ((c :: r).drop n) _ g (by rw [List.length_drop]; simp only [List.length_cons] at *; omega) (by rw [List.length_drop]; simp only [List.length_cons] at *; omega)]
theorem lexT_nil (at_ : Nat) : lexT at_ [] = .inr [] := rfl
theorem lexT_cons (at_ : Nat) {l : List UInt8} (h : l ≠ []) : lexT at_ l = match nxt l with
    | .skip n => lexT (at_ + n) (l.drop n)
    | .err e => .inl (at_, e)
    | .tok k n v => match lexT (at_ + n) (l.drop n) with
      | .inl x => .inl x
      | .inr ts => .inr (⟨k, lit (l.take n), v, at_⟩ :: ts) := by
  match l, h with
  | c :: r, _ =>
    have hp := nxt_pos (l := c :: r) (by simp)
    unfold lexT
    show lexF (r.length + 1) at_ (c :: r) = _
    rw [lexF]
    simp only [List.isEmpty_cons, Bool.false_eq_true, if_false]
    cases hn : nxt (c :: r) with
    | err e => rfl
    | skip n =>
      rw [hn] at hp
      simp only [NxOK] at hp ⊢
      exact lexF_fuel _ _ _ _ (by rw [List.length_drop]; simp only [List.length_cons] at *; omega) (Nat.le_refl _)
    | tok k n v =>
      rw [hn] at hp
      simp only [NxOK] at hp ⊢
      rw [lexF_fuel r.length ((c :: r).drop n) _ ((c :: r).drop n).length (by rw [List.length_drop]; simp only [List.length_cons] at *; omega) (Nat.le_refl _)]
end Go.Px
/-! Chapter 1: what the program's functions find. -/
namespace Go.Px
set_option linter.unusedVariables false
set_option linter.unusedSimpArgs false
theorem take_nrun (p : UInt8 → Bool) : ∀ l : List UInt8, l.take (nrun p l) = l.takeWhile p
 | [] => rfl
 | c :: l => by
  rw [nrun_cons, List.takeWhile_cons]
  cases p c with
  | true => simp [take_nrun p l]
  | false => simp
theorem all_run (p : UInt8 → Bool) (l : List UInt8) : ∀ c ∈ l.take (nrun p l), p c = true := by
 rw [take_nrun]
 induction l with
 | nil => simp
 | cons a l ih =>
  rw [List.takeWhile_cons]
  cases h : p a with
  | true => simpa [h] using ih
  | false => simp
theorem drop_len {s : ByteArray} {i : Nat} {l : List UInt8} (h : (bs s).drop i = l) (hl : l ≠ []) : i < s.size ∧ l.length = s.size - i := by
 subst h
 rw [List.length_drop, bs_len]
 refine ⟨?_, rfl⟩
 rcases Nat.lt_or_ge i s.size with h | h
 ·exact h
 ·exact absurd (List.drop_eq_nil_of_le (by rw [bs_len]; exact h)) hl
theorem cut_ok {s : ByteArray} {i n : Nat} {l : List UInt8} (h : (bs s).drop i = l) (hl : l ≠ []) (hn : n ≤ l.length) : gsslice s (i : Int) ((i + n : Nat) : Int) = some (lit (l.take n)) := by
 obtain ⟨h1, h2⟩ := drop_len h hl
 rw [gsslice_nat (by omega) (by omega)]
 congr 1
 apply bs_ext
 rw [bs_extract, bs_lit, ← h, List.take_drop]
theorem byte_ok {s : ByteArray} {i n : Nat} {l : List UInt8} (h : (bs s).drop i = l) {c : UInt8} (hc : l[n]? = some c) : gsidx s ((i + n : Nat) : Int) = some (c.toNat : Int) := by
 apply gsidx_nat
 rw [← h, List.getElem?_drop] at hc
 exact hc
theorem size_lit (l : List UInt8) : (lit l).size = l.length := by rw [← bs_len, bs_lit]
theorem parse_digits {M : Nat} (hM : M = 18446744073709551615) : ∀ (l : List UInt8) (a : Nat), (∀ c ∈ l, isD c = true) → a ≤ M → Lib.parseUintM M a l = if numF a l ≤ M then .ok (numF a l) else .range
 | [], a, _, ha => by rw [if_pos (show numF a [] ≤ M from ha)]; rfl
 | c :: r, a, h, ha => by
  have hc := h c (by simp)
  simp only [isD, Bool.and_eq_true, decide_eq_true_eq] at hc
  have hge := numF_ge r (a * 10 + (c.toNat - 48))
  have e : numF a (c :: r) = numF (a * 10 + (c.toNat - 48)) r := rfl
  rw [e]
  unfold Lib.parseUintM
  rw [if_pos hc]
  split
  ·rw [if_neg (by omega)]
  ·split
   ·rw [if_neg (by omega)]
   ·exact parse_digits hM r _ (fun x hx => h x (by simp [hx])) (by omega)
theorem parse_num {l : List UInt8} (hl : l ≠ []) (h : ∀ c ∈ l, isD c = true) : Lib.parseIntB 64 l = if numVal l < 9223372036854775808 then .ok (numVal l : Int) else .range := by
 match l, hl with
 | c :: r, _ =>
  have hc := h c (by simp)
  simp only [isD, Bool.and_eq_true, decide_eq_true_eq] at hc
  have e43 : ¬ (c.toNat = 43 ∨ c.toNat = 45) := by omega
  have e45 : ¬ c.toNat = 45 := by omega
  unfold Lib.parseIntB Lib.parseUintB
  simp only
  rw [if_neg e43, if_neg (by simp)]
  generalize hM : (2 ^ 64 - 1 : Nat) = M
  generalize hB : (2 ^ (64 - 1) : Nat) = B
  have hM : M = 18446744073709551615 := by rw [← hM]
  have hB : B = 9223372036854775808 := by rw [← hB]
  rw [parse_digits hM _ _ h (by omega)]
  simp only [e45, false_and, not_false_eq_true, true_and, if_false]
  show (match (if numVal (c :: r) ≤ M then Lib.NumEnd.ok (numVal (c :: r)) else .range) with
   | .syntax => Lib.NumEnd.syntax
   | .range => .range
   | .ok u => if B ≤ u then .range else .ok (u : Int)) = _
  by_cases h1 : numVal (c :: r) ≤ M
  ·rw [if_pos h1]
   simp only
   by_cases h2 : numVal (c :: r) < 9223372036854775808
   ·rw [if_pos h2, if_neg (by omega)]
   ·rw [if_neg h2, if_pos (by omega)]
  ·rw [if_neg h1, if_neg (by omega)]
abbrev tk0 : q8 := ⟨0, lit [], 0, 0⟩
theorem number_ok {s : ByteArray} {i : Nat} {c : UInt8} {r : List UInt8} (hs : s.size ≤ 16384) (hl : (bs s).drop i = c :: r) (hd : isD c = true) :
    q40 (s, (i : Int), ((i + nrun isD (c :: r) : Nat) : Int)) = some (if numBad (c :: r) then (tk0, 12) else (⟨3, lit ((c :: r).take (nrun isD (c :: r))), (numVal ((c :: r).take (nrun isD (c :: r))) : Nat), i⟩, 0)) := by
  obtain ⟨h1, h2⟩ := drop_len hl (by simp)
  have hn := nrun_le isD (c :: r)
  have hn1 : 1 ≤ nrun isD (c :: r) := by rw [nrun_cons]; simp [hd]
  generalize hN : nrun isD (c :: r) = n at *
  have hall := all_run isD (c :: r)
  rw [hN] at hall
  have hne : (c :: r).take n ≠ [] := by
    match n, hn1 with
    | n + 1, _ => simp
  have hlen : ((c :: r).take n).length = n := by rw [List.length_take]; omega
  have hhead : ((c :: r).take n)[0]? = some c := by
    match n, hn1 with
    | n + 1, _ => simp
  have hlast : ∀ (X Y : Option (q8 × Int)), (if decide (((i + n : Nat) : Int) < (s.size : Int)) = true then (gsidx s ((i + n : Nat) : Int)).bind fun y => (q1y y).bind fun z => if z = true then X else Y else Y) = if letterAt (c :: r)[n]? = true then X else Y := by
    intro X Y
    by_cases hb : i + n < s.size
    · have : n < (c :: r).length := by omega
      have hg := List.getElem?_eq_getElem this
      generalize (c :: r)[n] = b at hg
      rw [byte_ok hl hg, hg]
      simp only [decide_eq_true_eq, Option.bind_some, letter_ok]
      rw [if_pos (Int.ofNat_lt.2 hb)]
      rfl
    · have : (c :: r)[n]? = none := List.getElem?_eq_none (by omega)
      rw [this]
      simp only [decide_eq_true_eq]
      rw [if_neg (fun h => hb (Int.ofNat_lt.1 h))]
      rfl
  unfold q40 q6c
  rw [show ((s, (i : Int), ((i + n : Nat) : Int)) : ByteArray × Int × Int).fst = s from rfl]
  simp only
  rw [cut_ok hl (by simp) (by omega)]
  simp only [Option.bind_some, q41, libParseInt, true_and]
  rw [if_pos (by rw [size_lit, hlen]; omega), show (lit ((c :: r).take n)).data.toList = (c :: r).take n from rfl, parse_num hne hall]
  by_cases hv : numVal ((c :: r).take n) < 9223372036854775808
  · rw [if_pos hv]
    simp only [Option.bind_some, Sum.elim_inl]
    unfold numBad
    rw [hN]
    by_cases h40 : 1099511627776 < numVal ((c :: r).take n)
    · simp only [decide_eq_true_eq]
      rw [if_pos (by omega)]
      simp [h40]
    · simp only [decide_eq_true_eq]
      rw [if_neg (by omega), size_lit, hlen]
      have hl2 := hlast (some (q8.mk 0 (lit []) 0 0, 12)) (some (q8.mk 3 (lit ((c :: r).take n)) (numVal ((c :: r).take n) : Nat) i, 0))
      simp only [decide_eq_true_eq] at hl2
      have e0 : gsidx (lit ((c :: r).take n)) 0 = some (c.toNat : Int) := gsidx_nat (i := 0) hhead
      by_cases h1n : 1 < n
      · rw [if_pos (by omega), e0]
        simp only [Option.bind_some]
        by_cases h48 : c.toNat = 48
        · rw [if_pos (by omega)]
          have : c = 48 := UInt8.toNat_inj.1 (by simpa using h48)
          simp [h40, h1n, this]
        · rw [if_neg (by omega), hl2]
          have : ¬ c = 48 := fun h => h48 (by rw [h]; rfl)
          simp only [h40, h1n, this, decide_true, decide_false, List.head?_cons, Option.some.injEq, Bool.and_false, Bool.false_or]
          cases letterAt (c :: r)[n]? <;> rfl
      · rw [if_neg (by omega), hl2]
        simp only [h40, h1n, decide_false, Bool.false_and, Bool.false_or]
        cases letterAt (c :: r)[n]? <;> rfl
  · rw [if_neg hv]
    simp only [Option.bind_some, Sum.elim_inr]
    unfold numBad
    rw [hN]
    have h40 : 1099511627776 < numVal ((c :: r).take n) := by omega
    simp [h40]
theorem word_ok {s : ByteArray} {i : Nat} {l : List UInt8} {n : Nat} (hs : s.size ≤ 16384) (hl : (bs s).drop i = l) (hne : l ≠ []) (hn : n ≤ l.length) :
    q5a (s, (i : Int), ((i + n : Nat) : Int)) = some (if 16 < n then (tk0, 13) else (⟨if isKey (l.take n) then 2 else 1, lit (l.take n), 0, i⟩, 0)) := by
  unfold q5a q7w
  simp only
  rw [cut_ok hl hne hn]
  have hlen : (l.take n).length = n := by rw [List.length_take]; omega
  simp only [Option.bind_some, size_lit, hlen, decide_eq_true_eq, key_lit]
  by_cases h : 16 < n
  · rw [if_pos (by omega), if_pos h]
  · rw [if_neg (by omega), if_neg h]
    by_cases hk : isKey (l.take n) = true
    · rw [if_pos hk, if_pos hk]; rfl
    · rw [if_neg hk, if_neg hk]; rfl
end Go.Px
/-! Chapter 1: the program's tokens are those of the plain Lean. -/
namespace Go.Px
set_option linter.unusedVariables false
set_option linter.unusedSimpArgs false
theorem prefix_ok (l : List UInt8) (a b : UInt8) : q1m (lit l, lit [a, b]) = some (decide (l.take 2 = [a, b])) := by
 show ((qz (lit l, lit [a, b])).bind fun y => some y) = _
 unfold qz
 simp only [size_lit, List.length_cons, List.length_nil, decide_eq_true_eq]
 by_cases h : 2 ≤ l.length
 ·rw [if_pos (by omega)]
  have : gsslice (lit l) 0 ((2 : Nat) : Int) = some (lit (l.take 2)) := by
   have := cut_ok (s := lit l) (i := 0) (n := 2) (l := l) rfl (by intro e; subst e; simp at h) h
   simpa using this
  rw [show ((0 + 1 + 1 : Nat) : Int) = ((2 : Nat) : Int) from rfl, this]
  simp only [Option.bind_some]
  congr 1
  refine decide_eq_decide.2 ⟨fun h => ?_, fun h => by rw [h]⟩
  have := congrArg bs h
  simpa [bs_lit] using this
 ·rw [if_neg (by omega)]
  have : l.take 2 ≠ [a, b] := by
   intro e
   have := congrArg List.length e
   rw [List.length_take] at this
   simp at this; omega
  simp [this]
theorem indexByte_nonneg : ∀ (l : List UInt8) (c : UInt8), (0 ≤ Lib.indexByte l c) ↔ l.contains c = true
 | [], c => by simp [Lib.indexByte]
 | b :: l, c => by
  have ih := indexByte_nonneg l c
  have hg := Lib.indexByte_ge l c
  unfold Lib.indexByte
  by_cases h : b = c
  ·subst h; simp
  ·have h' : (b == c) = false := by simpa using h
   have h2 : (c == b) = false := by simpa using fun e => h e.symm
   simp only [h', Bool.false_eq_true, if_false, List.contains_cons, h2, Bool.false_or]
   rw [← ih]
   by_cases e : Lib.indexByte l c = -1
   ·rw [if_pos (by simpa using e)]; omega
   ·rw [if_neg (by simpa using e)]; omega
theorem sign_ok {l : List UInt8} (hne : l ≠ []) : q6s (lit l) = some (lit (l.take (signLen l))) := by
 show (lpO (q2y q1m q1n) (lit l, (lit [45, 62], lit [60, 61], lit [61, 61]), 0)).bind _ = _
 have w1 : IntKind.i64.wrap (0 + 1) = 1 := by decide
 have w2 : IntKind.i64.wrap (1 + 1) = 2 := by decide
 have w3 : IntKind.i64.wrap (2 + 1) = 3 := by decide
 have g0 : ∀ A B C : ByteArray, gnth [A, B, C] 0 = some A := fun _ _ _ => rfl
 have g1 : ∀ A B C : ByteArray, gnth [A, B, C] 1 = some B := fun _ _ _ => rfl
 have g2 : ∀ A B C : ByteArray, gnth [A, B, C] 2 = some C := fun _ _ _ => rfl
 have two_take : two l = true → l.take 2 = [45, 62] ∨ l.take 2 = [60, 61] ∨ l.take 2 = [61, 61] := by
  intro h; simpa [two] using h
 have loop : lpO (q2y q1m q1n) (lit l, (lit [45, 62], lit [60, 61], lit [61, 61]), 0) = some (if two l then .inl (lit (l.take 2)) else .inr (lit l)) := by
  rw [lpO_eq]
  simp only [q2y, prefix_ok, Option.bind_some, g0, w1]
  by_cases h1 : l.take 2 = [45, 62]
  ·simp [h1, two]
  ·simp only [h1, decide_false, Bool.false_eq_true, if_false, Option.bind_some]
   rw [show decide ((0 : Int) < 3) = true from rfl]
   simp only [if_true, Option.bind_some]
   rw [lpO_eq]
   simp only [q2y, prefix_ok, Option.bind_some, g1, w2]
   rw [show decide ((1 : Int) < 3) = true from rfl]
   by_cases h2 : l.take 2 = [60, 61]
   ·simp [h2, two]
   ·simp only [h2, decide_false, Bool.false_eq_true, if_false, Option.bind_some, if_true]
    rw [lpO_eq]
    simp only [q2y, prefix_ok, Option.bind_some, g2, w3]
    rw [show decide ((2 : Int) < 3) = true from rfl]
    by_cases h3 : l.take 2 = [61, 61]
    ·simp [h3, two]
    ·simp only [h3, decide_false, Bool.false_eq_true, if_false, Option.bind_some, if_true]
     rw [lpO_eq]
     simp only [q2y]
     rw [show decide ((3 : Int) < 3) = false from rfl]
     simp [two, h1, h2, h3]
 rw [loop]
 unfold signLen
 by_cases ht : two l = true
 ·rw [if_pos ht, if_pos ht]; rfl
 ·rw [if_neg ht, if_neg ht]
  match l, hne with
  | c :: r, _ =>
   have e0 : gsidx (lit (c :: r)) 0 = some (c.toNat : Int) := gsidx_nat (i := 0) rfl
   have e1 : gsslice (lit (c :: r)) 0 1 = some (lit [c]) := by
    have := cut_ok (s := lit (c :: r)) (i := 0) (n := 1) (l := c :: r) rfl (by simp) (by simp)
    simpa using this
   simp only [Option.bind_some, Sum.elim_inr]
   rw [e0, e1]
   simp only [Option.bind_some, q1n, libIndexByte, Int.toNat_natCast]
   have hb : (0 ≤ Lib.indexByte (lit [123, 125, 40, 41, 91, 93, 44, 58, 59, 61, 43, 45, 38, 60]).data.toList c.toNat.toUInt8) ↔ sgn c = true := by
    have : c.toNat.toUInt8 = c := by simp [Nat.toUInt8]
    rw [this]
    exact indexByte_nonneg _ c
   by_cases hs : sgn c = true
   ·rw [if_pos (decide_eq_true (hb.2 hs)), if_pos hs]; rfl
   ·rw [if_neg (fun h => hs (hb.1 (of_decide_eq_true h))), if_neg hs]; rfl
noncomputable abbrev progStep := q4n q32 q2h q3u q40 q1y q3h q5a q6s
theorem lexStep_ok {s : ByteArray} {i : Nat} {l : List UInt8} (hs : s.size ≤ 16384) (hl : (bs s).drop i = l) (hne : l ≠ []) (out : Sl q8) :
    progStep (s, (i : Int), out) = match nxt l with
      | .skip n => some (.next (s, ((i + n : Nat) : Int), out))
      | .err e => some (.done (.inl ((i : Int), e)))
      | .tok k n v => (gapp 40 out [⟨k, lit (l.take n), v, i⟩]).bind fun o => some (.next (s, ((i + n : Nat) : Int), o)) := by
  obtain ⟨h1, h2⟩ := drop_len hl hne
  match l, hne with
  | c :: r, _ =>
    have hc : gsidx s (i : Int) = some (c.toNat : Int) := byte_ok (n := 0) hl rfl
    have hpos := nxt_pos (l := c :: r) (by simp)
    simp only [progStep, q4n]
    rw [if_pos (decide_eq_true (Int.ofNat_lt.2 h1)), hc]
    simp only [Option.bind_some]
    have e32 : ((c.toNat : Int) = 32) ↔ c.toNat = 32 := by omega
    have e10 : ((c.toNat : Int) = 10) ↔ c.toNat = 10 := by omega
    have e35 : ((c.toNat : Int) = 35) ↔ c.toNat = 35 := by omega
    have rest : ∀ (k : Int) (n : Nat) (v : Int), n ≤ (c :: r).length → (gapp 40 out [⟨k, lit ((c :: r).take n), v, i⟩]).bind (fun o => some (Step.next (β := Int × Int ⊕ ByteArray × Sl q8) (s, IntKind.i64.wrap ((i : Int) + ((lit ((c :: r).take n)).size : Int)), o))) = (gapp 40 out [⟨k, lit ((c :: r).take n), v, i⟩]).bind fun o => some (.next (s, ((i + n : Nat) : Int), o)) := by
      intro k n v hn
      have hz : (lit ((c :: r).take n)).size = n := by rw [size_lit, List.length_take]; omega
      rw [hz, wrap_add (by omega)]
    unfold nxt at hpos ⊢
    simp only at hpos ⊢
    by_cases hb : c.toNat = 32 ∨ c.toNat = 10
    · rw [if_pos hb]
      simp only
      rcases hb with hb | hb
      · rw [if_pos (decide_eq_true (e32.2 hb))]
        simp [wrap_one (n := i) (by omega)]
      · have : ¬ c.toNat = 32 := by omega
        rw [if_neg (fun h => this (e32.1 (of_decide_eq_true h)))]
        simp only [Option.bind_some, decide_eq_true_eq]
        rw [if_pos (e10.2 hb)]
        simp [wrap_one (n := i) (by omega)]
    · rw [if_neg hb] at hpos ⊢
      have n32 : ¬ c.toNat = 32 := fun h => hb (.inl h)
      have n10 : ¬ c.toNat = 10 := fun h => hb (.inr h)
      rw [if_neg (fun h => n32 (e32.1 (of_decide_eq_true h)))]
      simp only [Option.bind_some, decide_eq_true_eq]
      rw [if_neg (fun h => n10 (e10.1 h))]
      by_cases h35 : c.toNat = 35
      · rw [if_pos (e35.2 h35), if_pos h35, run_notnl (by omega) (by omega), hl]
        simp
      · rw [if_neg (fun h => h35 (e35.1 h))]
        rw [if_neg h35] at hpos ⊢
        simp only [digit_ok, letter_ok, Option.bind_some]
        by_cases hd : isD c = true
        · rw [if_pos hd] at hpos
          rw [if_pos hd, if_pos hd, run_digit (by omega) (by omega), hl]
          simp only [Option.bind_some]
          rw [number_ok hs hl hd]
          unfold nxNum at hpos ⊢
          by_cases hbad : numBad (c :: r) = true
          · rw [if_pos hbad, if_pos hbad]
            simp
          · rw [if_neg hbad] at hpos
            rw [if_neg hbad, if_neg hbad]
            simp only [NxOK] at hpos
            simp only [Option.bind_some, Sum.elim_inr, ne_eq, not_true_eq_false, if_false, Option.bind_assoc, Sum.elim_inl]
            exact rest _ _ _ hpos.2
        · rw [if_neg hd] at hpos
          rw [if_neg hd, if_neg hd]
          by_cases hL : isL c = true
          · rw [if_pos hL] at hpos
            rw [if_pos hL, if_pos hL, run_within (by omega) (by omega), hl]
            simp only [Option.bind_some]
            rw [word_ok hs hl (by simp) (nrun_le _ _)]
            unfold nxWord at hpos ⊢
            by_cases h16 : 16 < nrun isW (c :: r)
            · rw [if_pos h16, if_pos h16]
              simp
            · rw [if_neg h16] at hpos
              rw [if_neg h16, if_neg h16]
              simp only [NxOK] at hpos
              simp only [Option.bind_some, Sum.elim_inr, ne_eq, not_true_eq_false, if_false, Option.bind_assoc, Sum.elim_inl]
              exact rest _ _ _ hpos.2
          · rw [if_neg hL] at hpos
            rw [if_neg hL, if_neg hL]
            have hcut : gsslice s (i : Int) (s.size : Int) = some (lit (c :: r)) := by
              have := cut_ok (n := (c :: r).length) hl (by simp) (Nat.le_refl _)
              rw [List.take_length] at this
              rw [← this]; congr 1; omega
            rw [hcut]
            simp only [Option.bind_some]
            rw [sign_ok (by simp)]
            simp only [Option.bind_some, decide_eq_true_eq]
            unfold nxSign at hpos ⊢
            by_cases h0 : signLen (c :: r) = 0
            · rw [if_pos h0, if_pos (by rw [h0]; rfl)]
              simp
            · rw [if_neg h0] at hpos
              have hx : ¬ lit ((c :: r).take (signLen (c :: r))) = lit [] := by
                intro e
                have := congrArg (fun x => (bs x).length) e
                simp only [bs_lit] at this
                rw [List.length_take] at this
                have := signLen_le (c :: r)
                simp only [List.length_nil] at *; omega
              rw [if_neg h0, if_neg hx]
              simp only [NxOK] at hpos
              simp only [Option.bind_some, Sum.elim_inr, ne_eq, not_true_eq_false, if_false, Option.bind_assoc, Sum.elim_inl]
              exact rest _ _ _ hpos.2
theorem lex_loop {s : ByteArray} (hs : s.size ≤ 16384) : ∀ (n i : Nat) (acc : List q8) (nn : Bool), s.size - i ≤ n → i ≤ s.size → acc.length ≤ i →
    lpO progStep (s, (i : Int), ⟨acc, nn⟩) = some (match lexT i ((bs s).drop i) with
      | .inl x => .inl ((x.1 : Int), x.2)
      | .inr ts => .inr (s, ⟨acc ++ ts, nn || !ts.isEmpty⟩)) := by
  intro n
  induction n with
  | zero =>
    intro i acc nn hn hi ha
    have : i = s.size := by omega
    subst this
    rw [lpO_eq]
    have hd : (bs s).drop s.size = [] := List.drop_eq_nil_of_le (by rw [bs_len]; exact Nat.le_refl _)
    rw [hd, lexT_nil]
    simp [progStep, q4n]
  | succ n ih =>
    intro i acc nn hn hi ha
    rcases Nat.lt_or_ge i s.size with hlt | hge
    · have hne : (bs s).drop i ≠ [] := by
        intro e
        have := congrArg List.length e
        rw [List.length_drop, bs_len] at this
        simp at this; omega
      have hp := nxt_pos hne
      have hlen : ((bs s).drop i).length = s.size - i := by rw [List.length_drop, bs_len]
      rw [lpO_eq, lexStep_ok hs rfl hne, lexT_cons _ hne]
      cases hx : nxt ((bs s).drop i) with
      | err e => rfl
      | skip k =>
        rw [hx] at hp
        simp only [NxOK] at hp
        simp only [Option.bind_some, List.drop_drop]
        rw [ih (i + k) acc nn (by omega) (by omega) (by omega)]
      | tok k m v =>
        rw [hx] at hp
        simp only [NxOK] at hp
        simp only [List.drop_drop]
        rw [gapp_ok (by simp only [List.length_cons, List.length_nil]; omega) (by simp only [List.length_cons, List.length_nil]; omega)]
        simp only [Option.bind_some]
        rw [ih (i + m) _ _ (by omega) (by omega) (by simp only [List.length_append, List.length_cons, List.length_nil]; omega)]
        cases lexT (i + m) ((bs s).drop (i + m)) with
        | inl x => rfl
        | inr ts => simp
    · have : i = s.size := by omega
      exact ih i acc nn (by omega) hi ha
/-- the place of the fault, its number, the tokens -/
def lexR (s : ByteArray) : Int × Int × Sl q8 := if 16384 < s.size then (0, 10, ⟨[], false⟩) else match lexT 0 (bs s) with
 | .inl x => ((x.1 : Int), x.2, ⟨[], false⟩)
 | .inr ts => (0, 0, ⟨ts ++ [⟨0, lit [], 0, s.size⟩], true⟩)
theorem lexT_len : ∀ (m : Nat) (l : List UInt8) (i : Nat) (ts : List q8), l.length ≤ m → lexT i l = .inr ts → ts.length ≤ l.length
 | 0, l, i, ts, hm, h => by
  have : l = [] := List.eq_nil_of_length_eq_zero (by omega)
  subst this
  rw [lexT_nil] at h; cases h; simp
 | m + 1, l, i, ts, hm, h => by
  by_cases hne : l = []
  ·subst hne
   rw [lexT_nil] at h; cases h; simp
  ·have hp := nxt_pos hne
   rw [lexT_cons _ hne] at h
   cases hx : nxt l with
   | err e => rw [hx] at h; cases h
   | skip k =>
    rw [hx] at h hp
    simp only [NxOK] at hp
    have := lexT_len m _ _ _ (by rw [List.length_drop]; omega) h
    rw [List.length_drop] at this; omega
   | tok k n v =>
    rw [hx] at h hp
    simp only [NxOK] at hp
    simp only at h
    cases hr : lexT (i + n) (l.drop n) with
    | inl x => rw [hr] at h; cases h
    | inr us =>
     rw [hr] at h
     cases h
     have := lexT_len m _ _ _ (by rw [List.length_drop]; omega) hr
     rw [List.length_drop] at this
     simp only [List.length_cons]; omega
theorem tokens_ok (s : ByteArray) : q35 s = some (lexR s) := by
 unfold q35 q6d lexR
 simp only [decide_eq_true_eq]
 by_cases h : 16384 < s.size
 ·rw [if_pos (by omega), if_pos h]; rfl
 ·rw [if_neg (by omega), if_neg h]
  have := lex_loop (s := s) (by omega) s.size 0 [] false (by omega) (by omega) (by simp)
  rw [List.drop_zero] at this
  rw [show ((s, 0, Sl.mk [] false) : ByteArray × Int × Sl q8) = (s, ((0 : Nat) : Int), ⟨[], false⟩) from rfl, this]
  cases hx : lexT 0 (bs s) with
  | inl x => rfl
  | inr ts =>
   have hl := lexT_len _ _ _ _ (Nat.le_refl _) hx
   rw [bs_len] at hl
   simp only [Option.bind_some, Sum.elim_inr, List.nil_append, Bool.false_or]
   rw [gapp_ok (by simp only [List.length_cons, List.length_nil]; omega) (by simp only [List.length_cons, List.length_nil]; omega)]
   simp
end Go.Px
/-! Chapter 2: the parser as plain Lean, on lists of tokens. -/
namespace Go.Px
set_option linter.unusedVariables false
set_option linter.unusedSimpArgs false
abbrev Tk := q8
abbrev Nd := q9
abbrev nilS {α : Type} : Sl α := ⟨[], false⟩
def hd : List Tk → Tk
 | [] => ⟨0, lit [], 0, 0⟩
 | t :: _ => t
abbrev PR (α : Type) := Except (Int × Int) (α × List Tk)
def PR.bd {α β : Type} (r : PR α) (f : α → List Tk → PR β) : PR β := match r with
 | .error e => .error e
 | .ok (a, ts) => f a ts
def isP (s : List UInt8) (ts : List Tk) : Bool := (decide ((hd ts).Kind_ = 2) || decide ((hd ts).Kind_ = 4)) && decide ((hd ts).Text_ = lit s)
def failP {α : Type} (e : Int) (ts : List Tk) : PR α := .error ((hd ts).At_, e)
def mustP (s : List UInt8) (ts : List Tk) : PR Unit := if isP s ts = true then .ok ((), ts.tail) else failP 20 ts
def takeP (k : Int) (ts : List Tk) : PR Tk := if (hd ts).Kind_ = k then .ok (hd ts, ts.tail) else failP 20 ts
def nameP (ts : List Tk) : PR Nd := (takeP 1 ts).bd fun t ts => .ok (⟨5, t.Text_, 0, t.At_, nilS⟩, ts)
def numberP (sg : Int) (ts : List Tk) : PR Int := (takeP 3 ts).bd fun t ts => .ok (sg * t.Num_, ts)
def Nd.num (n : Nd) (v : Int) : Nd := ⟨n.Kind_, n.Text_, v, n.At_, n.Kids_⟩
def moreP (n : Nd) (ts : List Tk) : PR Nd :=
 if isP [43] ts = true then (numberP 1 ts.tail).bd fun v ts => .ok (Nd.num n v, ts)
 else if isP [45] ts = true then (numberP (-1) ts.tail).bd fun v ts => .ok (Nd.num n v, ts)
 else .ok (n, ts)
def termP (ts : List Tk) : PR Nd :=
 if (hd ts).Kind_ = 3 then (numberP 1 ts).bd fun v t1 => .ok (⟨5, lit [], v, (hd ts).At_, nilS⟩, t1)
 else if isP [45] ts = true then (numberP (-1) ts.tail).bd fun v t1 => .ok (⟨5, lit [], v, (hd ts).At_, nilS⟩, t1)
 else (nameP ts).bd moreP
def cmpP (ts : List Tk) : PR ByteArray :=
 if isP [60] ts = true then .ok (lit [60], ts.tail) else if isP [60, 61] ts = true then .ok (lit [60, 61], ts.tail) else if isP [61, 61] ts = true then .ok (lit [61, 61], ts.tail) else failP 20 ts
def listLoop (one : List Tk → PR Nd) : Nat → List Nd → List Tk → PR (List Nd)
 | 0, acc, ts => .ok (acc, ts)
 | k + 1, acc, ts => if isP [44] ts = true then (one ts.tail).bd fun a ts => listLoop one k (acc ++ [a]) ts else .ok (acc, ts)
def listP (one : List Tk → PR Nd) (ts : List Tk) : PR (List Nd) := (one ts).bd fun a t1 => listLoop one ts.length [a] t1
def argsP (ts : List Tk) : PR (Sl Nd) := (mustP [40] ts).bd fun _ t1 =>
 if isP [41] t1 = true then .ok (nilS, t1.tail) else (listP termP t1).bd fun l t2 => (mustP [41] t2).bd fun _ t3 => .ok (⟨l, true⟩, t3)
def sortP (ts : List Tk) : PR Nd :=
 if isP [111, 119, 110] ts = true then .ok (⟨2, (hd ts).Text_, 0, (hd ts).At_, nilS⟩, ts.tail)
 else if isP [99, 101, 108, 108] ts = true then .ok (⟨2, (hd ts).Text_, 0, (hd ts).At_, nilS⟩, ts.tail)
 else if isP [99, 111, 117, 110, 116, 101, 100] ts = true then (nameP ts.tail).bd fun k t1 => .ok (⟨2, (hd ts).Text_, 0, (hd ts).At_, ⟨[k], true⟩⟩, t1)
 else if isP [108, 111, 99, 107] ts = true then (nameP ts.tail).bd fun k t1 => .ok (⟨2, (hd ts).Text_, 0, (hd ts).At_, ⟨[k], true⟩⟩, t1)
 else if isP [103, 117, 97, 114, 100] ts = true then (nameP ts.tail).bd fun k t1 => .ok (⟨2, (hd ts).Text_, 0, (hd ts).At_, ⟨[k], true⟩⟩, t1)
 else failP 20 ts
def fieldP (ts : List Tk) : PR Nd := (nameP ts).bd fun n t1 =>
 if isP [91] t1 = true then (nameP t1.tail).bd fun k t2 => (mustP [93] t2).bd fun _ t3 => .ok (⟨3, n.Text_, n.Num_, n.At_, ⟨[k], true⟩⟩, t3)
 else .ok (⟨3, n.Text_, n.Num_, n.At_, nilS⟩, t1)
def factP (ts : List Tk) : PR Nd := (termP ts).bd fun a t1 => (cmpP t1).bd fun op t2 => (termP t2).bd fun b t3 => .ok (⟨4, op, 0, a.At_, ⟨[a, b], true⟩⟩, t3)
def typP (at_ : Int) (ts : List Tk) : PR Nd := (nameP ts).bd fun n t1 => (sortP t1).bd fun s t2 =>
 (if isP [123] t2 = true then (listP fieldP t2.tail).bd fun l t3 => (mustP [125] t3).bd fun _ t4 => .ok ([s] ++ l, t4) else .ok ([s], t2) : PR (List Nd)).bd fun ks t5 =>
 (if isP [119, 104, 101, 114, 101] t5 = true then (listP factP t5.tail).bd fun l t6 => .ok (ks ++ l, t6) else .ok (ks, t5) : PR (List Nd)).bd fun ks t7 =>
 (mustP [59] t7).bd fun _ t8 => .ok (⟨1, n.Text_, n.Num_, at_, ⟨ks, true⟩⟩, t8)
def modeP (ts : List Tk) : PR Nd :=
 if isP [105, 110, 116] ts = true then .ok (⟨8, (hd ts).Text_, 0, (hd ts).At_, nilS⟩, ts.tail)
 else if isP [111, 119, 110] ts = true then (nameP ts.tail).bd fun k t1 => .ok (⟨8, (hd ts).Text_, 0, (hd ts).At_, ⟨[k], true⟩⟩, t1)
 else (mustP [38] ts).bd fun _ t1 =>
  if isP [109, 117, 116] t1 = true then (nameP t1.tail).bd fun k t2 => .ok (⟨8, lit [38, 109, 117, 116], 0, (hd ts).At_, ⟨[k], true⟩⟩, t2)
  else (nameP t1).bd fun k t2 => .ok (⟨8, (hd ts).Text_, 0, (hd ts).At_, ⟨[k], true⟩⟩, t2)
def paramP (ts : List Tk) : PR Nd := (nameP ts).bd fun n t1 => (mustP [58] t1).bd fun _ t2 => (modeP t2).bd fun m t3 => .ok (⟨7, n.Text_, n.Num_, n.At_, ⟨[m], true⟩⟩, t3)
def atP (k : Int) (ts : List Tk) : PR Nd := (nameP ts).bd fun n t1 => (mustP [91] t1).bd fun _ t2 => (numberP 1 t2).bd fun v t3 => (mustP [93] t3).bd fun _ t4 => .ok (⟨k, n.Text_, v, n.At_, nilS⟩, t4)
def exprP (ts : List Tk) : PR Nd :=
 if isP [110, 101, 119] ts = true then (numberP 1 ts.tail).bd fun v t1 => .ok (⟨23, lit [], v, (hd ts).At_, nilS⟩, t1)
 else if isP [97, 114, 114, 97, 121] ts = true then (nameP ts.tail).bd fun k t1 => .ok (⟨24, k.Text_, 0, (hd ts).At_, nilS⟩, t1)
 else if isP [38] ts = true then
  (if isP [109, 117, 116] ts.tail = true then (nameP ts.tail.tail).bd fun k t1 => .ok (⟨27, k.Text_, 0, (hd ts).At_, nilS⟩, t1) else (nameP ts.tail).bd fun k t1 => .ok (⟨26, k.Text_, 0, (hd ts).At_, nilS⟩, t1))
 else if (hd ts).Kind_ ≠ 1 then termP ts
 else (nameP ts).bd fun n t1 =>
  if isP [40] t1 = true then (argsP t1).bd fun ks t2 => .ok (⟨28, n.Text_, n.Num_, n.At_, ks⟩, t2)
  else if isP [91] t1 = true then (termP t1.tail).bd fun a t2 => (mustP [93] t2).bd fun _ t3 => .ok (⟨25, n.Text_, n.Num_, n.At_, ⟨[a], true⟩⟩, t3)
  else if isP [43] t1 = true ∧ (hd t1.tail).Kind_ = 1 then (nameP t1.tail).bd fun b t2 => .ok (⟨21, lit [], 0, n.At_, ⟨[n, b], true⟩⟩, t2)
  else if isP [45] t1 = true ∧ (hd t1.tail).Kind_ = 1 then (nameP t1.tail).bd fun b t2 => .ok (⟨22, lit [], 0, n.At_, ⟨[n, b], true⟩⟩, t2)
  else moreP n t1
def namedP (n : Nd) (ts : List Tk) : PR Nd :=
 if isP [40] ts = true then (argsP ts).bd fun ks t1 => .ok (⟨20, lit [], 0, n.At_, ⟨[⟨28, n.Text_, n.Num_, n.At_, ks⟩], true⟩⟩, t1)
 else if isP [91] ts = true then (termP ts.tail).bd fun a t1 => (mustP [93] t1).bd fun _ t2 => (mustP [61] t2).bd fun _ t3 => (termP t3).bd fun b t4 => .ok (⟨11, n.Text_, n.Num_, n.At_, ⟨[a, b], true⟩⟩, t4)
 else (mustP [61] ts).bd fun _ t1 => (exprP t1).bd fun e t2 => .ok (⟨10, n.Text_, n.Num_, n.At_, ⟨[e], true⟩⟩, t2)
def endP (n : Nd) (ts : List Tk) : PR Nd := (mustP [59] ts).bd fun _ t1 => .ok (n, t1)
def branchP (blk : List Tk → PR Nd) (k at_ : Int) (ts : List Tk) : PR Nd := (factP ts).bd fun n t1 => (blk t1).bd fun b t2 => .ok (⟨k, n.Text_, n.Num_, at_, ⟨n.Kids_.xs ++ [b], true⟩⟩, t2)
def stmtP (blk : List Tk → PR Nd) (ts : List Tk) : PR Nd :=
 if isP [102, 114, 101, 101] ts = true then (nameP ts.tail).bd fun n t1 => endP ⟨12, n.Text_, n.Num_, (hd ts).At_, nilS⟩ t1
 else if isP [108, 111, 99, 107] ts = true then (atP 13 ts.tail).bd fun n t1 => endP ⟨n.Kind_, n.Text_, n.Num_, (hd ts).At_, nilS⟩ t1
 else if isP [117, 110, 108, 111, 99, 107] ts = true then (atP 14 ts.tail).bd fun n t1 => endP ⟨n.Kind_, n.Text_, n.Num_, (hd ts).At_, nilS⟩ t1
 else if isP [105, 102] ts = true then (branchP blk 15 (hd ts).At_ ts.tail).bd fun n t1 =>
  if isP [101, 108, 115, 101] t1 = true then (blk t1.tail).bd fun b t2 => .ok (⟨n.Kind_, n.Text_, n.Num_, n.At_, ⟨n.Kids_.xs ++ [b], true⟩⟩, t2)
  else .ok (⟨n.Kind_, n.Text_, n.Num_, n.At_, ⟨n.Kids_.xs ++ [⟨9, lit [], 0, (hd ts).At_, nilS⟩], true⟩⟩, t1)
 else if isP [119, 104, 105, 108, 101] ts = true then branchP blk 16 (hd ts).At_ ts.tail
 else if isP [114, 101, 116, 117, 114, 110] ts = true then
  (if isP [59] ts.tail = true then endP ⟨17, lit [], 0, (hd ts).At_, nilS⟩ ts.tail else (termP ts.tail).bd fun a t1 => endP ⟨17, lit [], 0, (hd ts).At_, ⟨[a], true⟩⟩ t1)
 else if isP [97, 98, 111, 114, 116] ts = true then endP ⟨18, lit [], 0, (hd ts).At_, nilS⟩ ts.tail
 else if isP [102, 111, 114, 107] ts = true then (nameP ts.tail).bd fun n t1 => (argsP t1).bd fun ks t2 => endP ⟨19, n.Text_, n.Num_, (hd ts).At_, ks⟩ t2
 else (nameP ts).bd fun n t1 => (namedP n t1).bd endP
def stmtsP (one : List Tk → PR Nd) : Nat → List Nd → List Tk → PR (List Nd)
 | 0, acc, ts => failP 20 ts
 | k + 1, acc, ts => if isP [125] ts = true then .ok (acc, ts.tail) else (one ts).bd fun a t1 => stmtsP one k (acc ++ [a]) t1
def mkS {α : Type} (l : List α) : Sl α := ⟨l, !l.isEmpty⟩
def blockP : Nat → List Tk → PR Nd
 | 0, ts => if isP [123] ts = true then failP 21 ts else failP 20 ts
 | r + 1, ts => (mustP [123] ts).bd fun _ t1 => (stmtsP (stmtP (blockP r)) t1.length [] t1).bd fun l t2 => .ok (⟨9, lit [], 0, (hd ts).At_, mkS l⟩, t2)
def fnP (at_ : Int) (ts : List Tk) : PR Nd := (nameP ts).bd fun n t1 => (mustP [40] t1).bd fun _ t2 =>
 (if isP [41] t2 = true then .ok ([], t2) else listP paramP t2 : PR (List Nd)).bd fun ps t3 => (mustP [41] t3).bd fun _ t4 =>
 (if isP [45, 62] t4 = true then (if isP [38] t4.tail = true then failP 20 t4.tail else modeP t4.tail) else .ok (⟨8, lit [], 0, (hd t4).At_, nilS⟩, t4) : PR Nd).bd fun ret t5 =>
 (blockP 8 t5).bd fun b t6 => .ok (⟨6, n.Text_, n.Num_, at_, ⟨ps ++ [ret, b], true⟩⟩, t6)
def declsP : Nat → List Nd → List Tk → PR (List Nd)
 | 0, acc, ts => failP 20 ts
 | k + 1, acc, ts => if (hd ts).Kind_ = 0 then .ok (acc, ts)
  else if isP [102, 110] ts = true then (fnP (hd ts).At_ ts.tail).bd fun a t1 => declsP k (acc ++ [a]) t1
  else (mustP [116, 121, 112, 101] ts).bd fun _ t1 => (typP (hd ts).At_ t1).bd fun a t2 => declsP k (acc ++ [a]) t2
/-! what a list of tokens is like -/
structure TGood (ts : List Tk) : Prop where
 ne : ts ≠ []
 last : ∀ h : ts ≠ [], (ts.getLast h).Kind_ = 0
 len : ts.length ≤ 20000
 num : ∀ t ∈ ts, 0 ≤ t.Num_ ∧ t.Num_ ≤ 1099511627776
theorem TGood.tail {ts : List Tk} (g : TGood ts) (h : (hd ts).Kind_ ≠ 0) : TGood ts.tail := by
 match ts, g, h with
 | [], g, _ => exact absurd rfl g.ne
 | [t], g, h => exact absurd (g.last (by simp)) h
 | t :: u :: r, g, h =>
  refine ⟨by simp, fun _ => ?_, ?_, fun x hx => g.num x (List.mem_cons_of_mem _ hx)⟩
  ·have := g.last (by simp)
   rw [List.getLast_cons (by simp)] at this
   exact this
  ·have := g.len; simp only [List.tail_cons, List.length_cons] at this ⊢; omega
theorem TGood.hd_idx {ts : List Tk} (g : TGood ts) (b : Bool) : gidx (⟨ts, b⟩ : Sl Tk) 0 = some (hd ts) := by
 match ts, g with
 | [], g => exact absurd rfl g.ne
 | t :: r, _ => rfl
theorem TGood.tl {ts : List Tk} (g : TGood ts) (b : Bool) : gslice (⟨ts, b⟩ : Sl Tk) 1 (Sl.len (⟨ts, b⟩ : Sl Tk)) = some ⟨ts.tail, b⟩ := by
 match ts, g with
 | [], g => exact absurd rfl g.ne
 | t :: r, _ =>
  unfold gslice
  rw [if_pos ⟨by omega, by simp [Sl.len]; omega, by simp [Sl.len]⟩]
  simp [Sl.len]
theorem isP_kind {s : List UInt8} {ts : List Tk} (h : isP s ts = true) : (hd ts).Kind_ ≠ 0 := by
 unfold isP at h
 simp only [Bool.and_eq_true, Bool.or_eq_true, decide_eq_true_eq] at h
 omega
theorem TGood.is {s : List UInt8} {ts : List Tk} (g : TGood ts) (h : isP s ts = true) : TGood ts.tail := g.tail (isP_kind h)
theorem TGood.tail_len {ts : List Tk} (g : TGood ts) : ts.tail.length + 1 = ts.length := by
 match ts, g with
 | [], g => exact absurd rfl g.ne
 | t :: r, _ => simp
/-! what a model of the parser answers, against the plain Lean -/
abbrev PSt := Sl q8 × Int
def Sm {α β : Type} (d : Int) (n : Nat) (r : PR α) (m : Option β) (er : (Int × Int) × PSt → β) (ok : α → PSt → β) : Prop := match r with
 | .error e => ∃ st, m = some (er (e, st))
 | .ok (a, ts) => m = some (ok a (⟨ts, true⟩, d)) ∧ TGood ts ∧ ts.length ≤ n
theorem Sm.bd {α β γ δ : Type} {d : Int} {n n' : Nat} {r : PR α} {f : α → List Tk → PR γ} {m : Option β} {K : β → Option δ} {er : (Int × Int) × PSt → β} {ok : α → PSt → β} {er' : (Int × Int) × PSt → δ} {ok' : γ → PSt → δ}
    (h : Sm d n r m er ok) (he : ∀ e, K (er e) = some (er' e)) (hk : ∀ a ts, r = .ok (a, ts) → TGood ts → ts.length ≤ n → Sm d n' (f a ts) (K (ok a (⟨ts, true⟩, d))) er' ok') : Sm d n' (r.bd f) (m.bind K) er' ok' := by
  cases r with
  | error e =>
    obtain ⟨st, rfl⟩ := h
    exact ⟨st, he _⟩
  | ok p =>
    obtain ⟨a, ts⟩ := p
    obtain ⟨rfl, g, l⟩ := h
    exact hk a ts rfl g l
theorem Sm.ok {α β : Type} {d : Int} {n : Nat} {a : α} {ts : List Tk} {m : Option β} {er : (Int × Int) × PSt → β} {ok : α → PSt → β} (g : TGood ts) (l : ts.length ≤ n) (h : m = some (ok a (⟨ts, true⟩, d))) : Sm d n (.ok (a, ts)) m er ok := ⟨h, g, l⟩
theorem Sm.mono {α β : Type} {d : Int} {n n' : Nat} {r : PR α} {m : Option β} {er : (Int × Int) × PSt → β} {ok : α → PSt → β} (h : Sm d n r m er ok) (l : n ≤ n') : Sm d n' r m er ok := by
 cases r with
 | error e => exact h
 | ok p => exact ⟨h.1, h.2.1, Nat.le_trans h.2.2 l⟩
variable {d : Int} {n : Nat} {ts : List Tk}
theorem peek_ok (g : TGood ts) : qb (⟨ts, true⟩, d) = some (hd ts, ⟨ts, true⟩, d) := by
 show ((gidx (⟨ts, true⟩ : Sl Tk) 0).bind fun y0 => some (y0, ((⟨ts, true⟩ : Sl Tk), d))) = _
 rw [g.hd_idx]; rfl
theorem is_ok (g : TGood ts) (s : List UInt8) : qh (lit s, ⟨ts, true⟩, d) = some (isP s ts, ⟨ts, true⟩, d) := by
 show ((qb (⟨ts, true⟩, d)).bind _) = _
 rw [peek_ok g, Option.bind_some]
 simp only [decide_eq_true_eq]
 unfold isP
 by_cases h2 : (hd ts).Kind_ = 2
 ·rw [if_pos h2]; simp [h2]
 ·rw [if_neg h2]
  by_cases h4 : (hd ts).Kind_ = 4
  ·rw [if_pos h4]; simp [h4]
  ·rw [if_neg h4]; simp [h2, h4]
theorem has_ok (g : TGood ts) (s : List UInt8) : qa (lit s, ⟨ts, true⟩, d) = some (isP s ts, if isP s ts = true then (⟨ts.tail, true⟩, d) else (⟨ts, true⟩, d)) := by
 show ((qh (lit s, ⟨ts, true⟩, d)).bind _) = _
 rw [is_ok g, Option.bind_some]
 cases h : isP s ts with
 | false => rfl
 | true =>
  simp only [Bool.not_true, Bool.false_eq_true, if_false, if_true]
  rw [g.tl]; rfl
theorem fail_ok (g : TGood ts) (e : Int) : qf (e, ⟨ts, true⟩, d) = some (((hd ts).At_, e), ⟨ts, true⟩, d) := by
 show ((qb (⟨ts, true⟩, d)).bind _) = _
 rw [peek_ok g]; rfl
theorem has_bd {α β : Type} (g : TGood ts) {s : List UInt8} {K : Bool × PSt → Option β} {p q : PR α} {er : (Int × Int) × PSt → β} {ok : α → PSt → β} (h1 : isP s ts = true → TGood ts.tail → ts.tail.length + 1 = ts.length → Sm d n p (K (true, ⟨ts.tail, true⟩, d)) er ok)
    (h0 : isP s ts = false → Sm d n q (K (false, ⟨ts, true⟩, d)) er ok) : Sm d n (if isP s ts = true then p else q) ((qa (lit s, ⟨ts, true⟩, d)).bind K) er ok := by
  rw [has_ok g, Option.bind_some]
  cases h : isP s ts with
  | true => simp only [if_true]; exact h1 h (g.is h) g.tail_len
  | false => simp only [Bool.false_eq_true, if_false]; exact h0 h
theorem must_ok (g : TGood ts) (s : List UInt8) : Sm d (ts.length - 1) (mustP s ts) (qc (lit s, ⟨ts, true⟩, d)) Sum.inl (fun _ st => Sum.inr st) := by
 show Sm d _ _ ((qa (lit s, ⟨ts, true⟩, d)).bind _) _ _
 unfold mustP
 refine has_bd g (fun h g1 l => ?_) fun h => ?_
 ·exact .ok g1 (by omega) rfl
 ·refine ⟨(⟨ts, true⟩, d), ?_⟩
  show ((qf (20, ⟨ts, true⟩, d)).bind _) = _
  rw [fail_ok g]; rfl
theorem take_ok (g : TGood ts) (k : Int) (hk : k ≠ 0) : Sm d (ts.length - 1) (takeP k ts) (q13 (k, ⟨ts, true⟩, d)) Sum.inl (fun t st => Sum.inr (t, st)) := by
 show Sm d _ _ ((qb (⟨ts, true⟩, d)).bind _) _ _
 rw [peek_ok g, Option.bind_some]
 unfold takeP
 simp only [decide_eq_true_eq]
 by_cases h : (hd ts).Kind_ = k
 ·rw [if_pos h, if_neg (by simpa using h), g.tl]
  exact .ok (g.tail (by omega)) (by have := g.tail_len; omega) rfl
 ·rw [if_neg h, if_pos h, fail_ok g]
  exact ⟨_, rfl⟩
theorem takeP_num {ts t1 : List Tk} {t : Tk} {k : Int} (g : TGood ts) (h : takeP k ts = .ok (t, t1)) : 0 ≤ t.Num_ ∧ t.Num_ ≤ 1099511627776 := by
 unfold takeP at h
 split at h
 ·cases h
  match ts, g with
  | [], g => exact absurd rfl g.ne
  | t :: r, g => exact g.num t (by simp [hd])
 ·cases h
def ndT (n : Nd) : Int × ByteArray × Int × Int := (n.Kind_, n.Text_, n.Num_, n.At_)
theorem name_ok (g : TGood ts) : Sm d (ts.length - 1) (nameP ts) (qd (⟨ts, true⟩, d)) Sum.inl (fun n st => Sum.inr (ndT n, st)) := by
 show Sm d _ _ ((q13 (1, ⟨ts, true⟩, d)).bind _) _ _
 exact (take_ok g 1 (by omega)).bd (fun e => rfl) fun t t1 _ g1 l => .ok g1 l rfl
theorem pnumber_ok (g : TGood ts) (sg : Int) (hs : sg = 1 ∨ sg = -1) : Sm d (ts.length - 1) (numberP sg ts) (q11 (sg, ⟨ts, true⟩, d)) Sum.inl (fun v st => Sum.inr (v, st)) := by
 show Sm d _ _ ((q13 (3, ⟨ts, true⟩, d)).bind _) _ _
 refine (take_ok g 3 (by omega)).bd (fun e => rfl) fun t t1 ht g1 l => .ok g1 l ?_
 have := takeP_num g ht
 show some (Sum.inr (IntKind.i64.wrap (sg * t.Num_), _)) = _
 rw [wrap_id (by rcases hs with rfl | rfl <;> omega) (by rcases hs with rfl | rfl <;> omega)]
end Go.Px
/-! Chapter 2: the program's parser is the plain Lean: terms, lists, types, modes. -/
namespace Go.Px
set_option linter.unusedVariables false
set_option linter.unusedSimpArgs false
variable {d : Int} {n : Nat} {ts : List Tk}
theorem Sm.out {α β : Type} {r : PR α} {m : Option β} {er : (Int × Int) × PSt → β} {ok : α → PSt → β} (h : Sm d n r m er ok) {a : α} {t1 : List Tk} (e : r = .ok (a, t1)) : m = some (ok a (⟨t1, true⟩, d)) ∧ TGood t1 ∧ t1.length ≤ n := by
 rw [e] at h; exact h
theorem Sm.err {α β : Type} {r : PR α} {m : Option β} {er : (Int × Int) × PSt → β} {ok : α → PSt → β} (h : Sm d n r m er ok) {e : Int × Int} (he : r = .error e) : ∃ st, m = some (er (e, st)) := by
 rw [he] at h; exact h
theorem bd_ok {α β : Type} {r : PR α} {f : α → List Tk → PR β} {b : β} {t : List Tk} (h : r.bd f = .ok (b, t)) : ∃ a t1, r = .ok (a, t1) ∧ f a t1 = .ok (b, t) := by
 cases r with
 | error e => cases h
 | ok p => exact ⟨p.1, p.2, rfl, h⟩
/-- the model first, its result turned -/
theorem Sm.map {α β γ : Type} {r : PR α} {m : Option β} {K : β → Option γ} {er : (Int × Int) × PSt → β} {ok : α → PSt → β} {er' : (Int × Int) × PSt → γ} {ok' : α → PSt → γ} (h : Sm d n r m er ok) (he : ∀ e, K (er e) = some (er' e)) (hk : ∀ a t1, r = .ok (a, t1) → TGood t1 → K (ok a (⟨t1, true⟩, d)) = some (ok' a (⟨t1, true⟩, d))) : Sm d n r (m.bind K) er' ok' := by
 cases r with
 | error e => obtain ⟨st, rfl⟩ := h; exact ⟨st, he _⟩
 | ok p => obtain ⟨rfl, g, l⟩ := h; exact ⟨hk _ _ rfl g, g, l⟩
theorem nameP_kids {ts t1 : List Tk} {n : Nd} (h : nameP ts = .ok (n, t1)) : n.Kids_ = nilS := by
 obtain ⟨a, t, _, h⟩ := bd_ok h
 cases h; rfl
theorem more_ok {n0 : Nd} (g : TGood ts) : Sm d ts.length (moreP n0 ts) (q14 (ndT n0, ⟨ts, true⟩, d)) Sum.inl (fun n st => Sum.inr (ndT n, st)) := by
 show Sm d _ _ ((qa (lit [43], ⟨ts, true⟩, d)).bind _) _ _
 unfold moreP
 refine has_bd g (fun h g1 l => ?_) fun h => ?_
 ·simp only [if_true, Option.bind_assoc]
  exact (pnumber_ok g1 1 (.inl rfl)).bd (fun e => rfl) fun v t1 _ g2 l2 => .ok g2 (by omega) rfl
 ·simp only [Bool.false_eq_true, if_false, Option.bind_assoc]
  refine has_bd g (fun h g1 l => ?_) fun h => ?_
  ·simp only [if_true, Option.bind_assoc]
   exact (pnumber_ok g1 (-1) (.inr rfl)).bd (fun e => rfl) fun v t1 _ g2 l2 => .ok g2 (by omega) rfl
  ·exact .ok g (by omega) rfl
theorem moreP_kids {ts t1 : List Tk} {n n0 : Nd} (h0 : n0.Kids_ = nilS) (h : moreP n0 ts = .ok (n, t1)) : n.Kids_ = nilS := by
 unfold moreP at h
 split at h
 ·obtain ⟨a, t, _, h⟩ := bd_ok h; cases h; exact h0
 ·split at h
  ·obtain ⟨a, t, _, h⟩ := bd_ok h; cases h; exact h0
  ·cases h; exact h0
theorem termP_kids {ts t1 : List Tk} {n : Nd} (h : termP ts = .ok (n, t1)) : n.Kids_ = nilS := by
 unfold termP at h
 split at h
 ·obtain ⟨a, t, _, h⟩ := bd_ok h; cases h; rfl
 ·split at h
  ·obtain ⟨a, t, _, h⟩ := bd_ok h; cases h; rfl
  ·obtain ⟨a, t, h1, h⟩ := bd_ok h; exact moreP_kids (nameP_kids h1) h
theorem term_ok (g : TGood ts) : Sm d (ts.length - 1) (termP ts) (qi (⟨ts, true⟩, d)) Sum.inl (fun n st => Sum.inr (ndT n, st)) := by
 show Sm d _ _ ((qb (⟨ts, true⟩, d)).bind _) _ _
 rw [peek_ok g, Option.bind_some, peek_ok g, Option.bind_some]
 unfold termP
 simp only [decide_eq_true_eq]
 by_cases h3 : (hd ts).Kind_ = 3
 ·rw [if_pos h3, if_pos h3]
  simp only [Option.bind_assoc]
  exact (pnumber_ok g 1 (.inl rfl)).bd (fun e => rfl) fun v t1 _ g2 l2 => .ok g2 (by omega) rfl
 ·rw [if_neg h3, if_neg h3]
  simp only [Option.bind_assoc]
  refine has_bd g (fun h g1 l => ?_) fun h => ?_
  ·simp only [if_true, Option.bind_assoc]
   exact (pnumber_ok g1 (-1) (.inr rfl)).bd (fun e => rfl) fun v t1 _ g2 l2 => .ok g2 (by omega) rfl
  ·show Sm d _ _ ((qd (⟨ts, true⟩, d)).bind _) _ _
   refine (name_ok g).bd (fun e => rfl) fun n t1 _ g1 l1 => ?_
   show Sm d _ _ (((q14 (ndT n, ⟨t1, true⟩, d)).bind _).bind _) _ _
   rw [Option.bind_assoc]
   refine Sm.mono ?_ l1
   exact Sm.map (more_ok g1) (fun e => rfl) fun a t2 _ _ => rfl
theorem cmp_ok (g : TGood ts) : Sm d (ts.length - 1) (cmpP ts) (q3s (⟨ts, true⟩, d)) Sum.inr (fun s st => Sum.inl (s, st)) := by
  have body : ∀ (i : Int) (s : List UInt8), 0 ≤ i → i < 3 → gnth [lit [60], lit [60, 61], lit [61, 61]] i = some (lit s) →
      q1g qa qf ((lit [60], lit [60, 61], lit [61, 61]), i, ⟨ts, true⟩, d) = if isP s ts = true then some (.done (.inl (lit s, ⟨ts.tail, true⟩, d))) else some (.next ((lit [60], lit [60, 61], lit [61, 61]), i + 1, ⟨ts, true⟩, d)) := by
    intro i s h0 h3 hn
    unfold q1g
    simp only [decide_eq_true_eq, if_pos h3, hn, Option.bind_some, has_ok g]
    cases h : isP s ts with
    | true => simp only [if_true]
    | false => simp only [Bool.false_eq_true, if_false]; rw [wrap_id (by omega) (by omega)]
  have e0 := body 0 [60] (by omega) (by omega) rfl
  have e1 := body 1 [60, 61] (by omega) (by omega) rfl
  have e2 := body 2 [61, 61] (by omega) (by omega) rfl
  show Sm d _ _ ((lpO (q1g qa qf) ((lit [60], lit [60, 61], lit [61, 61]), 0, ⟨ts, true⟩, d)).bind _) _ _
  unfold cmpP
  rw [lpO_eq, e0]
  cases h0 : isP [60] ts with
  | true => exact .ok (g.is h0) (by have := g.tail_len; omega) rfl
  | false =>
    simp only [Bool.false_eq_true, if_false, Option.bind_some]
    rw [lpO_eq, show (0 : Int) + 1 = 1 from rfl, e1]
    cases h1 : isP [60, 61] ts with
    | true => exact .ok (g.is h1) (by have := g.tail_len; omega) rfl
    | false =>
      simp only [Bool.false_eq_true, if_false, Option.bind_some]
      rw [lpO_eq, show (1 : Int) + 1 = 2 from rfl, e2]
      cases h2 : isP [61, 61] ts with
      | true => exact .ok (g.is h2) (by have := g.tail_len; omega) rfl
      | false =>
        simp only [Bool.false_eq_true, if_false, Option.bind_some]
        rw [lpO_eq, show (2 : Int) + 1 = 3 from rfl]
        have e3 : q1g qa qf ((lit [60], lit [60, 61], lit [61, 61]), 3, ⟨ts, true⟩, d) = some (.done (.inr (⟨ts, true⟩, d))) := rfl
        rw [e3]
        simp only [Option.bind_some, Sum.elim_inr, fail_ok g]
        exact ⟨_, rfl⟩
/-! lists -/
theorem gapp64 {acc : List Nd} {a : Nd} (h : acc.length ≤ 30000) (b : Bool) : gapp 64 (⟨acc, b⟩ : Sl Nd) [a] = some ⟨acc ++ [a], true⟩ := by
 rw [gapp_ok (by simp; omega) (by simp; omega)]
 simp
abbrev LStep := Step (PSt × Sl Nd) (((Int × Int) × PSt) ⊕ (PSt × Sl Nd))
def LBody (d : Int) (one : List Tk → PR Nd) (f : PSt × Sl Nd → Option LStep) : Prop := ∀ (ts : List Tk) (acc : List Nd), TGood ts → acc.length ≤ 30000 →
 (isP [44] ts = false → f ((⟨ts, true⟩, d), ⟨acc, true⟩) = some (.done (.inr ((⟨ts, true⟩, d), ⟨acc, true⟩)))) ∧
 (isP [44] ts = true → match one ts.tail with
  | .error e => ∃ st, f ((⟨ts, true⟩, d), ⟨acc, true⟩) = some (.done (.inl (e, st)))
  | .ok (a, t1) => TGood t1 ∧ t1.length + 1 ≤ ts.length ∧ f ((⟨ts, true⟩, d), ⟨acc, true⟩) = some (.next ((⟨t1, true⟩, d), ⟨acc ++ [a], true⟩)))
theorem list_loop {one : List Tk → PR Nd} {f : PSt × Sl Nd → Option LStep} (hf : LBody d one f) : ∀ (k : Nat) (ts : List Tk) (acc : List Nd), TGood ts → ts.length ≤ k → acc.length + ts.length ≤ 30000 →
    Sm d ts.length (listLoop one k acc ts) (lpO f ((⟨ts, true⟩, d), ⟨acc, true⟩)) Sum.inl (fun l st => Sum.inr (st, ⟨l, true⟩)) ∧ ∀ l t1, listLoop one k acc ts = .ok (l, t1) → l.length + t1.length ≤ acc.length + ts.length
  | 0, ts, acc, g, hk, ha => absurd (List.eq_nil_of_length_eq_zero (by omega)) g.ne
  | k + 1, ts, acc, g, hk, ha => by
    obtain ⟨h0, h1⟩ := hf ts acc g (by omega)
    rw [lpO_eq]
    show Sm d _ (if isP [44] ts = true then _ else _) _ _ _ ∧ ∀ l t1, (if isP [44] ts = true then _ else _) = _ → _
    cases h : isP [44] ts with
    | false =>
      rw [h0 h]
      simp only [Bool.false_eq_true, if_false, Option.bind_some]
      exact ⟨.ok g (Nat.le_refl _) rfl, fun l t1 e => by cases e; exact Nat.le_refl _⟩
    | true =>
      have h1 := h1 h
      simp only [if_true]
      cases e : one ts.tail with
      | error er =>
        rw [e] at h1
        obtain ⟨st, h1⟩ := h1
        rw [h1]
        exact ⟨⟨st, rfl⟩, fun l t1 e => by cases e⟩
      | ok p =>
        obtain ⟨a, t1⟩ := p
        rw [e] at h1
        obtain ⟨g1, l1, h1⟩ := h1
        rw [h1]
        have ih := list_loop hf k t1 (acc ++ [a]) g1 (by omega) (by simp; omega)
        exact ⟨ih.1.mono (by omega), fun l t2 e2 => by have := ih.2 l t2 e2; simp at this; omega⟩
theorem list_term_body : LBody d termP (q27 qi qa) := by
 intro ts acc g ha
 unfold q27
 simp only [has_ok g, Option.bind_some]
 refine ⟨fun h => by rw [h]; rfl, fun h => ?_⟩
 rw [h]
 simp only [if_true]
 have s := term_ok (d := d) (g.is h)
 cases e : termP ts.tail with
 | error er => obtain ⟨st, s⟩ := s.err e; exact ⟨st, by rw [s]; rfl⟩
 | ok p =>
  obtain ⟨a, t1⟩ := p
  obtain ⟨s, g1, l1⟩ := s.out e
  have := g.tail_len
  refine ⟨g1, by omega, ?_⟩
  have hk := termP_kids e
  rw [s]
  simp only [Option.bind_some, Sum.elim_inr, ndT]
  rw [gapp64 ha, show q9.mk a.Kind_ a.Text_ a.Num_ a.At_ (Sl.mk [] false) = a by cases a; simp at hk; rw [hk]]
  rfl
end Go.Px
/-! Chapter 2: the program's parser is the plain Lean: arguments, types, modes, parameters. -/
namespace Go.Px
set_option linter.unusedVariables false
set_option linter.unusedSimpArgs false
variable {d : Int} {n : Nat} {ts : List Tk}
theorem nd_nil {a : Nd} (h : a.Kids_ = nilS) : q9.mk a.Kind_ a.Text_ a.Num_ a.At_ (Sl.mk [] false) = a := by
 cases a; simp only at h; rw [h]
theorem nd_eta (a : Nd) : q9.mk a.Kind_ a.Text_ a.Num_ a.At_ a.Kids_ = a := by cases a; rfl
theorem listP_bd {one : List Tk → PR Nd} {f : PSt × Sl Nd → Option LStep} (hf : LBody d one f) {β : Type} {m : Option β} {er : (Int × Int) × PSt → β} {ok : Nd → PSt → β} {K : β → Option (((Int × Int) × PSt) ⊕ (PSt × Sl Nd))} (g : TGood ts) (h : Sm d (ts.length - 1) (one ts) m er ok)
    (he : ∀ e, K (er e) = some (Sum.inl e)) (hk : ∀ a t1, one ts = .ok (a, t1) → K (ok a (⟨t1, true⟩, d)) = (lpO f ((⟨t1, true⟩, d), ⟨[a], true⟩)).bind fun y9 => Sum.elim (fun y10 => some (Sum.inl y10)) (fun y11 => some (Sum.inr y11)) y9) :
    Sm d (ts.length - 1) (listP one ts) (m.bind K) Sum.inl (fun l st => Sum.inr (st, ⟨l, true⟩)) ∧ ∀ l t1, listP one ts = .ok (l, t1) → l.length + t1.length ≤ ts.length := by
  have hlen := g.len
  have h0 := g.tail_len
  constructor
  · refine h.bd he fun a t1 e g1 l1 => ?_
    rw [hk a t1 e]
    have := (list_loop hf ts.length t1 [a] g1 (by omega) (by simp; omega)).1
    refine Sm.mono ?_ l1
    exact Sm.map this (fun e => rfl) fun l t2 _ _ => rfl
  · intro l t2 e
    obtain ⟨a, t1, e1, e2⟩ := bd_ok e
    obtain ⟨_, g1, l1⟩ := h.out e1
    have := (list_loop hf ts.length t1 [a] g1 (by omega) (by simp; omega)).2 l t2 e2
    simp at this; omega
theorem list_term_ok (g : TGood ts) : Sm d (ts.length - 1) (listP termP ts) (q2e (⟨ts, true⟩, d)) Sum.inl (fun l st => Sum.inr (st, ⟨l, true⟩)) ∧ ∀ l t1, listP termP ts = .ok (l, t1) → l.length + t1.length ≤ ts.length := by
 refine listP_bd list_term_body g (term_ok g) (fun e => rfl) fun a t1 e => ?_
 show (lpO _ (((⟨t1, true⟩ : Sl Tk), d), Sl.mk [q9.mk a.Kind_ a.Text_ a.Num_ a.At_ (Sl.mk [] false)] true)).bind _ = _
 rw [nd_nil (termP_kids e)]
theorem args_ok (g : TGood ts) : Sm d (ts.length - 1) (argsP ts) (q15 (⟨ts, true⟩, d)) Sum.inl (fun l st => Sum.inr (st, l)) := by
 show Sm d _ _ ((qc (lit [40], ⟨ts, true⟩, d)).bind _) _ _
 refine (must_ok g [40]).bd (fun e => rfl) fun _ t1 _ g1 l1 => ?_
 refine has_bd g1 (fun h g2 l => ?_) fun h => ?_
 ·exact .ok g2 (by omega) rfl
 ·refine (list_term_ok g1).1.bd (fun e => rfl) fun l t2 _ g2 l2 => ?_
  refine (must_ok g2 [41]).bd (fun e => rfl) fun _ t3 _ g3 l3 => .ok g3 (by omega) rfl
def ndK (n : Nd) (st : PSt) : (Int × ByteArray × Int × Int) × PSt × Sl Nd := (ndT n, st, n.Kids_)
theorem sort_ok (g : TGood ts) : Sm d (ts.length - 1) (sortP ts) (q3i (⟨ts, true⟩, d)) Sum.inr (fun n st => Sum.inl (ndK n st)) := by
  show Sm d _ _ ((qb (⟨ts, true⟩, d)).bind _) _ _
  rw [peek_ok g, Option.bind_some, peek_ok g, Option.bind_some, has_ok g, Option.bind_some]
  have ht := g.tail_len
  unfold sortP
  have nm : ∀ {K : ((Int × Int) × PSt ⊕ (Int × ByteArray × Int × Int) × PSt) → Option ((Int × ByteArray × Int × Int) × PSt × Sl Nd ⊕ (Int × Int) × PSt)}, TGood ts.tail →
      (∀ e, K (Sum.inl e) = some (Sum.inr e)) → (∀ k t1, nameP ts.tail = .ok (k, t1) → K (Sum.inr (ndT k, ⟨t1, true⟩, d)) = some (Sum.inl (ndK ⟨2, (hd ts).Text_, 0, (hd ts).At_, ⟨[k], true⟩⟩ (⟨t1, true⟩, d)))) →
      Sm d (ts.length - 1) ((nameP ts.tail).bd fun k t1 => .ok (⟨2, (hd ts).Text_, 0, (hd ts).At_, ⟨[k], true⟩⟩, t1)) ((qd (⟨ts.tail, true⟩, d)).bind K) Sum.inr (fun n st => Sum.inl (ndK n st)) :=
    fun {K} g1 h1 h2 => (name_ok g1).bd h1 fun k t1 e g2 l2 => .ok g2 (by omega) (h2 k t1 e)
  have kk : ∀ k t1, nameP ts.tail = .ok (k, t1) → q9.mk (ndT k).1 (ndT k).2.1 (ndT k).2.2.1 (ndT k).2.2.2 (Sl.mk [] false) = k := fun k t1 e => nd_nil (nameP_kids e)
  cases h1 : isP [111, 119, 110] ts with
  | true => exact .ok (g.is h1) (by omega) rfl
  | false =>
    simp only [Bool.false_eq_true, if_false, has_ok g, Option.bind_some]
    cases h2 : isP [99, 101, 108, 108] ts with
    | true => exact .ok (g.is h2) (by omega) rfl
    | false =>
      simp only [Bool.false_eq_true, if_false, has_ok g, Option.bind_some]
      cases h3 : isP [99, 111, 117, 110, 116, 101, 100] ts with
      | true =>
        simp only [if_true, Option.bind_some, Option.bind_assoc]
        exact nm (g.is h3) (fun e => rfl) fun k t1 e => by
          simp only [Sum.elim_inr, Option.bind_some, kk k t1 e]; rfl
      | false =>
        simp only [Bool.false_eq_true, if_false, has_ok g, Option.bind_some]
        cases h4 : isP [108, 111, 99, 107] ts with
        | true =>
          simp only [if_true, Option.bind_some, Option.bind_assoc]
          exact nm (g.is h4) (fun e => rfl) fun k t1 e => by
            simp only [Sum.elim_inr, Option.bind_some, kk k t1 e]; rfl
        | false =>
          simp only [Bool.false_eq_true, if_false, has_ok g, Option.bind_some]
          cases h5 : isP [103, 117, 97, 114, 100] ts with
          | true =>
            simp only [if_true, Option.bind_some, Option.bind_assoc]
            exact nm (g.is h5) (fun e => rfl) fun k t1 e => by
              simp only [Sum.elim_inr, Option.bind_some, kk k t1 e]; rfl
          | false =>
            simp only [Bool.false_eq_true, if_false, Option.bind_some, fail_ok g]
            exact ⟨_, rfl⟩
theorem field_ok (g : TGood ts) : Sm d (ts.length - 1) (fieldP ts) (q21 (⟨ts, true⟩, d)) Sum.inl (fun n st => Sum.inr (ndK n st)) := by
 show Sm d _ _ ((qd (⟨ts, true⟩, d)).bind _) _ _
 refine (name_ok g).bd (fun e => rfl) fun n t1 _ g1 l1 => ?_
 refine has_bd g1 (fun h g2 l => ?_) fun h => ?_
 ·simp only [if_true, Option.bind_assoc]
  refine (name_ok g2).bd (fun e => rfl) fun k t2 e g3 l3 => ?_
  show Sm d _ _ (((qc (lit [93], ⟨t2, true⟩, d)).bind _).bind _) _ _
  rw [Option.bind_assoc]
  refine (must_ok g3 [93]).bd (fun e => rfl) fun _ t4 _ g4 l4 => .ok g4 (by omega) ?_
  have := nd_nil (nameP_kids e)
  simp only [Sum.elim_inr, Option.bind_some, ndT, this]; rfl
 ·exact .ok g1 (by omega) rfl
theorem fact_ok (g : TGood ts) : Sm d (ts.length - 1) (factP ts) (q10 (⟨ts, true⟩, d)) Sum.inl (fun n st => Sum.inr (ndK n st)) := by
 show Sm d _ _ ((qi (⟨ts, true⟩, d)).bind _) _ _
 refine (term_ok g).bd (fun e => rfl) fun a t1 ea g1 l1 => ?_
 refine (cmp_ok g1).bd (fun e => rfl) fun op t2 _ g2 l2 => ?_
 refine (term_ok g2).bd (fun e => rfl) fun b t3 eb g3 l3 => .ok g3 (by omega) ?_
 have h1 := nd_nil (termP_kids ea)
 have h2 := nd_nil (termP_kids eb)
 simp only [Sum.elim_inr, ndT, h1, h2]; rfl
theorem list_field_body : LBody d fieldP (q1z q21 qa) := by
 intro ts acc g ha
 unfold q1z
 simp only [has_ok g, Option.bind_some]
 refine ⟨fun h => by rw [h]; rfl, fun h => ?_⟩
 rw [h]
 simp only [if_true]
 have s := field_ok (d := d) (g.is h)
 cases e : fieldP ts.tail with
 | error er => obtain ⟨st, s⟩ := s.err e; exact ⟨st, by rw [s]; rfl⟩
 | ok p =>
  obtain ⟨a, t1⟩ := p
  obtain ⟨s, g1, l1⟩ := s.out e
  have := g.tail_len
  refine ⟨g1, by omega, ?_⟩
  rw [s]
  simp only [Option.bind_some, Sum.elim_inr, ndK, ndT, nd_eta, gapp64 ha]
theorem list_fact_body : LBody d factP (q28 q10 qa) := by
 intro ts acc g ha
 unfold q28
 simp only [has_ok g, Option.bind_some]
 refine ⟨fun h => by rw [h]; rfl, fun h => ?_⟩
 rw [h]
 simp only [if_true]
 have s := fact_ok (d := d) (g.is h)
 cases e : factP ts.tail with
 | error er => obtain ⟨st, s⟩ := s.err e; exact ⟨st, by rw [s]; rfl⟩
 | ok p =>
  obtain ⟨a, t1⟩ := p
  obtain ⟨s, g1, l1⟩ := s.out e
  have := g.tail_len
  refine ⟨g1, by omega, ?_⟩
  rw [s]
  simp only [Option.bind_some, Sum.elim_inr, ndK, ndT, nd_eta, gapp64 ha]
theorem list_field_ok (g : TGood ts) : Sm d (ts.length - 1) (listP fieldP ts) (q29 (⟨ts, true⟩, d)) Sum.inl (fun l st => Sum.inr (st, ⟨l, true⟩)) ∧ ∀ l t1, listP fieldP ts = .ok (l, t1) → l.length + t1.length ≤ ts.length := by
 refine listP_bd list_field_body g (field_ok g) (fun e => rfl) fun a t1 e => ?_
 show (lpO _ (((⟨t1, true⟩ : Sl Tk), d), Sl.mk [q9.mk a.Kind_ a.Text_ a.Num_ a.At_ a.Kids_] true)).bind _ = _
 rw [nd_eta]
theorem list_fact_ok (g : TGood ts) : Sm d (ts.length - 1) (listP factP ts) (q2f (⟨ts, true⟩, d)) Sum.inl (fun l st => Sum.inr (st, ⟨l, true⟩)) ∧ ∀ l t1, listP factP ts = .ok (l, t1) → l.length + t1.length ≤ ts.length := by
 refine listP_bd list_fact_body g (fact_ok g) (fun e => rfl) fun a t1 e => ?_
 show (lpO _ (((⟨t1, true⟩ : Sl Tk), d), Sl.mk [q9.mk a.Kind_ a.Text_ a.Num_ a.At_ a.Kids_] true)).bind _ = _
 rw [nd_eta]
theorem gapp64l {xs l : List Nd} (h : xs.length + l.length ≤ 60000) : gapp 64 (⟨xs, true⟩ : Sl Nd) l = some ⟨xs ++ l, true⟩ := by
 rw [gapp_ok (by simp; omega) (by simp; omega)]
 simp
theorem typ_ok (g : TGood ts) (at_ : Int) : Sm d (ts.length - 1) (typP at_ ts) (q2s (at_, ⟨ts, true⟩, d)) Sum.inl (fun n st => Sum.inr (ndK n st)) := by
 have hlen := g.len
 show Sm d _ _ ((qd (⟨ts, true⟩, d)).bind _) _ _
 refine (name_ok g).bd (fun e => rfl) fun n t1 _ g1 l1 => ?_
 refine (sort_ok g1).bd (fun e => rfl) fun s t2 _ g2 l2 => ?_
 show Sm d _ _ ((qa (lit [123], ⟨t2, true⟩, d)).bind _) _ _
 rw [has_ok g2, Option.bind_some]
 have hs : q9.mk (ndK s (⟨t2, true⟩, d)).1.1 (ndK s (⟨t2, true⟩, d)).1.2.1 (ndK s (⟨t2, true⟩, d)).1.2.2.1 (ndK s (⟨t2, true⟩, d)).1.2.2.2 (ndK s (⟨t2, true⟩, d)).2.2 = s := nd_eta s
 simp only [hs]
 have hlen2 := g2.len
 refine Sm.bd (er := Sum.inl) (ok := fun (l : List Nd) (st : PSt) => Sum.inr (st, (0, lit [], 0, 0), (1, n.Text_, n.Num_, at_), (⟨l, true⟩ : Sl Nd))) (n := t2.length) ?_ (fun e => rfl) fun ks t5 e5 g5 l5 => ?_
 ·cases h : isP [123] t2 with
  | false => exact .ok g2 (Nat.le_refl _) rfl
  | true =>
   simp only [if_true]
   have g3 := g2.is h
   have hl3 := g2.tail_len
   obtain ⟨k1, k2⟩ := list_field_ok (d := d) g3
   refine k1.bd (fun e => rfl) fun l t3 e g4 l4 => ?_
   have := k2 l t3 e
   simp only [Sum.elim_inr]
   rw [gapp64l (by simp; omega), Option.bind_some]
   exact (must_ok g4 [125]).bd (fun e => rfl) fun _ t4 _ g5 l5 => .ok g5 (by omega) rfl
 have hks : ks.length ≤ 20001 := by
  split at e5
  ·rename_i h
   have hl3 := g2.tail_len
   obtain ⟨l, t3, e1, e2⟩ := bd_ok e5
   obtain ⟨_, t4, _, e3⟩ := bd_ok e2
   cases e3
   have := (list_field_ok (d := d) (g2.is h)).2 l t3 e1
   simp; omega
  ·cases e5; simp
 show Sm d _ _ ((qa (lit [119, 104, 101, 114, 101], ⟨t5, true⟩, d)).bind _) _ _
 rw [has_ok g5, Option.bind_some]
 have hlen5 := g5.len
 refine Sm.bd (er := Sum.inl) (ok := fun (l : List Nd) (st : PSt) => Sum.inr (st, (0, lit [], 0, 0), (1, n.Text_, n.Num_, at_), (⟨l, true⟩ : Sl Nd))) (n := t5.length) ?_ (fun e => rfl) fun ks2 t7 e7 g7 l7 => ?_
 ·cases h : isP [119, 104, 101, 114, 101] t5 with
  | false => exact .ok g5 (Nat.le_refl _) rfl
  | true =>
   simp only [if_true]
   have g3 := g5.is h
   have hl3 := g5.tail_len
   obtain ⟨k1, k2⟩ := list_fact_ok (d := d) g3
   refine k1.bd (fun e => rfl) fun l t3 e g4 l4 => ?_
   have := k2 l t3 e
   simp only [Sum.elim_inr]
   rw [gapp64l (by omega), Option.bind_some]
   exact .ok g4 (by omega) rfl
 exact (must_ok g7 [59]).bd (fun e => rfl) fun _ t8 _ g8 l8 => .ok g8 (by omega) rfl
end Go.Px
/-! Chapter 2: the program's parser is the plain Lean: modes, parameters, expressions. -/
namespace Go.Px
set_option linter.unusedVariables false
set_option linter.unusedSimpArgs false
variable {d : Int} {n : Nat} {ts : List Tk}
theorem mode_ok (g : TGood ts) : Sm d (ts.length - 1) (modeP ts) (q2g (⟨ts, true⟩, d)) Sum.inr (fun n st => Sum.inl (n, st)) := by
 show Sm d _ _ ((qb (⟨ts, true⟩, d)).bind _) _ _
 rw [peek_ok g, Option.bind_some, peek_ok g, Option.bind_some, has_ok g, Option.bind_some]
 have ht := g.tail_len
 unfold modeP
 cases h1 : isP [105, 110, 116] ts with
 | true => exact .ok (g.is h1) (by omega) rfl
 | false =>
  simp only [Bool.false_eq_true, if_false, has_ok g, Option.bind_some]
  cases h2 : isP [111, 119, 110] ts with
  | true =>
   simp only [if_true, Option.bind_some, Sum.elim_inl]
   refine (name_ok (g.is h2)).bd (fun e => rfl) fun k t1 e g1 l1 => .ok g1 (by omega) ?_
   have := nd_nil (nameP_kids e)
   simp only [Sum.elim_inr, ndT, this]
  | false =>
   simp only [Bool.false_eq_true, if_false, Option.bind_assoc]
   refine (must_ok g [38]).bd (fun e => rfl) fun _ t1 _ g1 l1 => ?_
   simp only [Sum.elim_inr, has_ok g1, Option.bind_some, Option.bind_assoc]
   cases h3 : isP [109, 117, 116] t1 with
   | true =>
    simp only [if_true, Option.bind_some, Sum.elim_inl]
    have := g1.tail_len
    refine (name_ok (g1.is h3)).bd (fun e => rfl) fun k t2 e g2 l2 => .ok g2 (by omega) ?_
    have := nd_nil (nameP_kids e)
    simp only [Sum.elim_inr, ndT, this]
   | false =>
    simp only [Bool.false_eq_true, if_false, Option.bind_some, Sum.elim_inl]
    refine (name_ok g1).bd (fun e => rfl) fun k t2 e g2 l2 => .ok g2 (by omega) ?_
    have := nd_nil (nameP_kids e)
    simp only [Sum.elim_inr, ndT, this]
theorem param_ok (g : TGood ts) : Sm d (ts.length - 1) (paramP ts) (q22 (⟨ts, true⟩, d)) Sum.inl (fun n st => Sum.inr (ndK n st)) := by
 show Sm d _ _ ((qd (⟨ts, true⟩, d)).bind _) _ _
 refine (name_ok g).bd (fun e => rfl) fun n t1 _ g1 l1 => ?_
 refine (must_ok g1 [58]).bd (fun e => rfl) fun _ t2 _ g2 l2 => ?_
 exact (mode_ok g2).bd (fun e => rfl) fun m t3 _ g3 l3 => .ok g3 (by omega) (by simp only [Sum.elim_inl, nd_eta]; rfl)
theorem list_param_body : LBody d paramP (q20 q22 qa) := by
 intro ts acc g ha
 unfold q20
 simp only [has_ok g, Option.bind_some]
 refine ⟨fun h => by rw [h]; rfl, fun h => ?_⟩
 rw [h]
 simp only [if_true]
 have s := param_ok (d := d) (g.is h)
 cases e : paramP ts.tail with
 | error er => obtain ⟨st, s⟩ := s.err e; exact ⟨st, by rw [s]; rfl⟩
 | ok p =>
  obtain ⟨a, t1⟩ := p
  obtain ⟨s, g1, l1⟩ := s.out e
  have := g.tail_len
  refine ⟨g1, by omega, ?_⟩
  rw [s]
  simp only [Option.bind_some, Sum.elim_inr, ndK, ndT, nd_eta, gapp64 ha]
theorem list_param_ok (g : TGood ts) : Sm d (ts.length - 1) (listP paramP ts) (q2a (⟨ts, true⟩, d)) Sum.inl (fun l st => Sum.inr (st, ⟨l, true⟩)) ∧ ∀ l t1, listP paramP ts = .ok (l, t1) → l.length + t1.length ≤ ts.length := by
 refine listP_bd list_param_body g (param_ok g) (fun e => rfl) fun a t1 e => ?_
 show (lpO _ (((⟨t1, true⟩ : Sl Tk), d), Sl.mk [q9.mk a.Kind_ a.Text_ a.Num_ a.At_ a.Kids_] true)).bind _ = _
 rw [nd_eta]
theorem at_ok (g : TGood ts) (k : Int) : Sm d (ts.length - 1) (atP k ts) (q2v (k, ⟨ts, true⟩, d)) Sum.inl (fun n st => Sum.inr (ndT n, st)) := by
 show Sm d _ _ ((qd (⟨ts, true⟩, d)).bind _) _ _
 refine (name_ok g).bd (fun e => rfl) fun n t1 _ g1 l1 => ?_
 refine (must_ok g1 [91]).bd (fun e => rfl) fun _ t2 _ g2 l2 => ?_
 refine (pnumber_ok g2 1 (.inl rfl)).bd (fun e => rfl) fun v t3 _ g3 l3 => ?_
 exact (must_ok g3 [93]).bd (fun e => rfl) fun _ t4 _ g4 l4 => .ok g4 (by omega) rfl
theorem end_ok (g : TGood ts) (n : Nd) : Sm d (ts.length - 1) (endP n ts) (q23 (ndT n, ⟨ts, true⟩, d)) Sum.inl (fun n st => Sum.inr (ndT n, st)) := by
 show Sm d _ _ ((qc (lit [59], ⟨ts, true⟩, d)).bind _) _ _
 exact (must_ok g [59]).bd (fun e => rfl) fun _ t1 _ g1 l1 => .ok g1 (by omega) rfl
theorem end2_ok (g : TGood ts) (n : Nd) : Sm d (ts.length - 1) (endP n ts) (q18 (n, ⟨ts, true⟩, d)) Sum.inl (fun n st => Sum.inr (n, st)) := by
 show Sm d _ _ ((qc (lit [59], ⟨ts, true⟩, d)).bind _) _ _
 exact (must_ok g [59]).bd (fun e => rfl) fun _ t1 _ g1 l1 => .ok g1 (by omega) (by simp only [Sum.elim_inr, nd_eta])
theorem TGood.idx1 {ts : List Tk} (g : TGood ts.tail) : gidx (⟨ts, true⟩ : Sl Tk) 1 = some (hd ts.tail) := by
 match ts, g with
 | [], g => exact absurd rfl g.ne
 | [t], g => exact absurd rfl g.ne
 | t :: u :: r, _ => rfl
theorem isP_two {ts : List Tk} (h : isP [43] ts = true) : isP [45] ts = false := by
 unfold isP at h ⊢
 simp only [Bool.and_eq_true, decide_eq_true_eq] at h
 have : ¬ (hd ts).Text_ = lit [45] := by
  rw [h.2]; intro e
  have := congrArg bs e
  simp [bs_lit] at this
 simp [this]
theorem expr_ok (g : TGood ts) : Sm d (ts.length - 1) (exprP ts) (q3j (⟨ts, true⟩, d)) Sum.inl (fun n st => Sum.inr (n, st)) := by
 show Sm d _ _ ((qb (⟨ts, true⟩, d)).bind _) _ _
 rw [peek_ok g, Option.bind_some, has_ok g, Option.bind_some]
 have ht := g.tail_len
 unfold exprP
 cases h1 : isP [110, 101, 119] ts with
 | true =>
  simp only [if_true, Option.bind_assoc]
  exact (pnumber_ok (g.is h1) 1 (.inl rfl)).bd (fun e => rfl) fun v t1 _ g1 l1 => .ok g1 (by omega) rfl
 | false =>
 simp only [Bool.false_eq_true, if_false, has_ok g, Option.bind_some]
 cases h2 : isP [97, 114, 114, 97, 121] ts with
 | true =>
  simp only [if_true, Option.bind_assoc]
  exact (name_ok (g.is h2)).bd (fun e => rfl) fun v t1 _ g1 l1 => .ok g1 (by omega) rfl
 | false =>
 simp only [Bool.false_eq_true, if_false, has_ok g, Option.bind_some]
 cases h3 : isP [38] ts with
 | true =>
  have g1 := g.is h3
  simp only [if_true, has_ok g1, Option.bind_some]
  cases h4 : isP [109, 117, 116] ts.tail with
  | true =>
   have := g1.tail_len
   simp only [if_true, Option.bind_some, Option.bind_assoc]
   exact (name_ok (g1.is h4)).bd (fun e => rfl) fun v t1 _ g2 l2 => .ok g2 (by omega) rfl
  | false =>
   simp only [Bool.false_eq_true, if_false, Option.bind_some, Option.bind_assoc]
   exact (name_ok g1).bd (fun e => rfl) fun v t1 _ g2 l2 => .ok g2 (by omega) rfl
 | false =>
 simp only [Bool.false_eq_true, if_false, peek_ok g, Option.bind_some, decide_eq_true_eq]
 by_cases hk : (hd ts).Kind_ = 1
 case neg =>
  simp only [ne_eq, hk, not_false_eq_true, if_true, Option.bind_assoc]
  refine Sm.map (term_ok g) (fun e => rfl) fun v t1 e g2 => ?_
  have := nd_nil (termP_kids e)
  simp only [Sum.elim_inr, Sum.elim_inl, Option.bind_some, ndT, this]
 case pos =>
 simp only [ne_eq, hk, not_true_eq_false, if_false, Option.bind_some, Sum.elim_inr]
 refine (name_ok g).bd (fun e => rfl) fun n t1 en g1 l1 => ?_
 have hn := nd_nil (nameP_kids en)
 have ht1 := g1.tail_len
 simp only [Sum.elim_inr, is_ok g1, Option.bind_some]
 cases h4 : isP [40] t1 with
 | true =>
  simp only [if_true, Option.bind_assoc]
  exact (args_ok g1).bd (fun e => rfl) fun v t2 _ g2 l2 => .ok g2 (by omega) rfl
 | false =>
 simp only [Bool.false_eq_true, if_false, has_ok g1, Option.bind_some]
 cases h5 : isP [91] t1 with
 | true =>
  simp only [if_true, Option.bind_assoc]
  refine (term_ok (g1.is h5)).bd (fun e => rfl) fun a t2 ea g2 l2 => ?_
  have ha := nd_nil (termP_kids ea)
  show Sm d _ _ (((qc (lit [93], ⟨t2, true⟩, d)).bind _).bind _) _ _
  rw [Option.bind_assoc]
  exact (must_ok g2 [93]).bd (fun e => rfl) fun _ t3 _ g3 l3 => .ok g3 (by omega) (by simp only [Sum.elim_inr, Sum.elim_inl, Option.bind_some, ndT, ha])
 | false =>
 simp only [Bool.false_eq_true, if_false, Option.bind_some, Sum.elim_inr, is_ok g1]
 by_cases hp : isP [43] t1 = true ∧ (hd t1.tail).Kind_ = 1
 ·obtain ⟨hp1, hp2⟩ := hp
  have hm := isP_two hp1
  have gt := g1.is hp1
  have mo := (must_ok (d := d) g1 [43]).out (show mustP [43] t1 = .ok ((), t1.tail) by unfold mustP; rw [if_pos hp1])
  rw [if_pos ⟨hp1, hp2⟩]
  simp only [hp1, hm, if_true, Bool.false_eq_true, if_false, Option.bind_some, gt.idx1, hp2, decide_true, mo.1, Sum.elim_inr]
  have nm := name_ok (d := d) gt
  cases e : nameP t1.tail with
  | error er =>
   obtain ⟨st, h⟩ := nm.err e
   simp only [h, is_ok g1, hp1, hm, if_true, Bool.false_eq_true, if_false, gt.idx1, hp2, decide_true, mo.1, Option.bind_some, Sum.elim_inr, Sum.elim_inl, gagree_self]
   exact ⟨st, rfl⟩
  | ok q =>
   obtain ⟨k, t2⟩ := q
   obtain ⟨h, g2, l2⟩ := nm.out e
   have hk2 := nd_nil (nameP_kids e)
   simp only [h, is_ok g1, hp1, hm, if_true, Bool.false_eq_true, if_false, gt.idx1, hp2, decide_true, mo.1, Option.bind_some, Sum.elim_inr, Sum.elim_inl, gagree_self]
   simp only [ndT, hk2, hn]
   exact .ok g2 (by omega) rfl
 ·rw [if_neg hp]
  by_cases hq : isP [45] t1 = true ∧ (hd t1.tail).Kind_ = 1
  ·obtain ⟨hp1, hp2⟩ := hq
   have hm : isP [43] t1 = false := by
    cases h : isP [43] t1 with
    | false => rfl
    | true => have := isP_two h; rw [hp1] at this; cases this
   have gt := g1.is hp1
   have mo := (must_ok (d := d) g1 [45]).out (show mustP [45] t1 = .ok ((), t1.tail) by unfold mustP; rw [if_pos hp1])
   rw [if_pos ⟨hp1, hp2⟩]
   simp only [hp1, hm, if_true, Bool.false_eq_true, if_false, Option.bind_some, gt.idx1, hp2, decide_true, mo.1, Sum.elim_inr]
   have nm := name_ok (d := d) gt
   cases e : nameP t1.tail with
   | error er =>
    obtain ⟨st, h⟩ := nm.err e
    simp only [h, is_ok g1, hp1, hm, if_true, Bool.false_eq_true, if_false, gt.idx1, hp2, decide_true, mo.1, Option.bind_some, Sum.elim_inr, Sum.elim_inl, gagree_self]
    exact ⟨st, rfl⟩
   | ok q =>
    obtain ⟨k, t2⟩ := q
    obtain ⟨h, g2, l2⟩ := nm.out e
    have hk2 := nd_nil (nameP_kids e)
    simp only [h, is_ok g1, hp1, hm, if_true, Bool.false_eq_true, if_false, gt.idx1, hp2, decide_true, mo.1, Option.bind_some, Sum.elim_inr, Sum.elim_inl, gagree_self]
    simp only [ndT, hk2, hn]
    exact .ok g2 (by omega) rfl
  ·rw [if_neg hq]
   have fin : Sm d (ts.length - 1) (moreP n t1) ((q14 (ndT n, ⟨t1, true⟩, d)).bind fun y => Sum.elim (fun e => some (Sum.inl e)) (fun z => some (Sum.inr (q9.mk z.1.1 z.1.2.1 z.1.2.2.1 z.1.2.2.2 (Sl.mk [] false), z.2))) y) Sum.inl (fun n st => Sum.inr (n, st)) := by
    refine Sm.mono ?_ l1
    refine Sm.map (more_ok g1) (fun e => rfl) fun a t2 e _ => ?_
    have := nd_nil (moreP_kids (nameP_kids en) e)
    simp only [Sum.elim_inr, ndT, this]
   cases hp1 : isP [43] t1 with
   | true =>
    have gt := g1.is hp1
    have hm := isP_two hp1
    have hk1 : ¬ (hd t1.tail).Kind_ = 1 := fun e => hp ⟨hp1, e⟩
    simp only [is_ok g1, hp1, hm, if_true, Bool.false_eq_true, if_false, Option.bind_some, gt.idx1, hk1, decide_false, Sum.elim_inr, gagree_self]
    exact fin
   | false =>
    cases hq1 : isP [45] t1 with
    | true =>
     have gt := g1.is hq1
     have hk1 : ¬ (hd t1.tail).Kind_ = 1 := fun e => hq ⟨hq1, e⟩
     simp only [is_ok g1, hp1, hq1, if_true, Bool.false_eq_true, if_false, Option.bind_some, gt.idx1, hk1, decide_false, Sum.elim_inr, gagree_self]
     exact fin
    | false =>
     simp only [is_ok g1, hp1, hq1, Bool.false_eq_true, if_false, Option.bind_some, Sum.elim_inr, gagree_self]
     exact fin
end Go.Px
/-! Chapter 2: the program's parser is the plain Lean: statements, blocks. -/
namespace Go.Px
set_option linter.unusedVariables false
set_option linter.unusedSimpArgs false
variable {d : Int} {n : Nat} {ts : List Tk}
theorem named_ok (g : TGood ts) (n : Nd) : Sm d (ts.length - 1) (namedP n ts) (q24 (ndT n, ⟨ts, true⟩, d)) Sum.inl (fun n st => Sum.inr (ndK n st)) := by
 show Sm d _ _ ((qh (lit [40], ⟨ts, true⟩, d)).bind _) _ _
 rw [is_ok g, Option.bind_some]
 have ht := g.tail_len
 unfold namedP
 cases h1 : isP [40] ts with
 | true =>
  simp only [if_true, Option.bind_assoc]
  exact (args_ok g).bd (fun e => rfl) fun v t1 _ g1 l1 => .ok g1 (by omega) rfl
 | false =>
 simp only [Bool.false_eq_true, if_false, has_ok g, Option.bind_some]
 cases h2 : isP [91] ts with
 | true =>
  simp only [if_true, Option.bind_assoc]
  refine (term_ok (g.is h2)).bd (fun e => rfl) fun a t1 ea g1 l1 => ?_
  have ha := nd_nil (termP_kids ea)
  show Sm d _ _ (((qc (lit [93], ⟨t1, true⟩, d)).bind _).bind _) _ _
  rw [Option.bind_assoc]
  refine (must_ok g1 [93]).bd (fun e => rfl) fun _ t2 _ g2 l2 => ?_
  show Sm d _ _ (((qc (lit [61], ⟨t2, true⟩, d)).bind _).bind _) _ _
  rw [Option.bind_assoc]
  refine (must_ok g2 [61]).bd (fun e => rfl) fun _ t3 _ g3 l3 => ?_
  show Sm d _ _ (((qi (⟨t3, true⟩, d)).bind _).bind _) _ _
  rw [Option.bind_assoc]
  refine (term_ok g3).bd (fun e => rfl) fun b t4 eb g4 l4 => .ok g4 (by omega) ?_
  have hb := nd_nil (termP_kids eb)
  simp only [Sum.elim_inr, Sum.elim_inl, Option.bind_some, ndT, ha, hb]; rfl
 | false =>
 simp only [Bool.false_eq_true, if_false, Option.bind_some, Sum.elim_inr]
 refine (must_ok g [61]).bd (fun e => rfl) fun _ t1 _ g1 l1 => ?_
 refine (expr_ok g1).bd (fun e => rfl) fun a t2 _ g2 l2 => .ok g2 (by omega) ?_
 simp only [Sum.elim_inr, nd_eta]; rfl
def BlkOK (d : Int) (h : PSt → Option ((Int × Int) × PSt ⊕ (Int × ByteArray × Int × Int) × PSt × Sl Nd)) (blk : List Tk → PR Nd) : Prop := ∀ ts, TGood ts → Sm d (ts.length - 1) (blk ts) (h (⟨ts, true⟩, d)) Sum.inl (fun n st => Sum.inr (ndK n st))
variable {h : PSt → Option ((Int × Int) × PSt ⊕ (Int × ByteArray × Int × Int) × PSt × Sl Nd)} {blk : List Tk → PR Nd}
theorem factP_kids {ts t1 : List Tk} {n : Nd} (h : factP ts = .ok (n, t1)) : ∃ a b, n.Kids_ = ⟨[a, b], true⟩ := by
 obtain ⟨a, t, _, h⟩ := bd_ok h
 obtain ⟨op, t2, _, h⟩ := bd_ok h
 obtain ⟨b, t3, _, h⟩ := bd_ok h
 cases h; exact ⟨a, b, rfl⟩
theorem branch_ok (hb : BlkOK d h blk) (g : TGood ts) (k a : Int) : Sm d (ts.length - 1) (branchP blk k a ts) (qt h (k, a, ⟨ts, true⟩, d)) Sum.inl (fun n st => Sum.inr (ndK n st)) := by
 show Sm d _ _ ((q10 (⟨ts, true⟩, d)).bind _) _ _
 refine (fact_ok g).bd (fun e => rfl) fun n t1 e1 g1 l1 => ?_
 refine (hb t1 g1).bd (fun e => rfl) fun b t2 e2 g2 l2 => .ok g2 (by omega) ?_
 obtain ⟨x, y, hk⟩ := factP_kids e1
 simp only [Sum.elim_inr, ndK, ndT, hk, nd_eta]
 rw [gapp64 (by simp)]; rfl
theorem branchP_kids {ts t1 : List Tk} {n : Nd} {k a : Int} (h : branchP blk k a ts = .ok (n, t1)) : ∃ a b c, n.Kids_ = ⟨[a, b, c], true⟩ := by
 obtain ⟨m, t, e, h⟩ := bd_ok h
 obtain ⟨b, t2, _, h⟩ := bd_ok h
 obtain ⟨x, y, hk⟩ := factP_kids e
 cases h; exact ⟨x, y, b, by simp [hk]⟩
theorem stmt1_ok (x : (Int × ByteArray × Int × Int) × Int) : q1s x = some ((x.1.1, x.1.2.1, x.1.2.2.1, x.2), x.2) := rfl
theorem stmt12_ok (x : Nd × Int) : q1h x = some (⟨x.1.Kind_, x.1.Text_, x.1.Num_, x.2, x.1.Kids_⟩, x.2) := rfl
set_option maxHeartbeats 1000000 in
theorem stmt_ok (hb : BlkOK d h blk) (g : TGood ts) : Sm d (ts.length - 1) (stmtP blk ts) (qr h (⟨ts, true⟩, d)) Sum.inl (fun n st => Sum.inr (n, st)) := by
 show Sm d _ _ ((qb (⟨ts, true⟩, d)).bind _) _ _
 rw [peek_ok g, Option.bind_some, has_ok g, Option.bind_some]
 have ht := g.tail_len
 unfold stmtP
 cases h1 : isP [102, 114, 101, 101] ts with
 | true =>
  simp only [if_true, Option.bind_assoc]
  refine (name_ok (g.is h1)).bd (fun e => rfl) fun n t1 _ g1 l1 => ?_
  refine Sm.mono (n := t1.length - 1) ?_ (by omega)
  simp only [Sum.elim_inr, stmt1_ok, Option.bind_some, Option.bind_assoc, ndT]
  exact Sm.map (end_ok g1 ⟨12, n.Text_, n.Num_, (hd ts).At_, nilS⟩) (fun e => rfl) fun a t2 ea g2 => by
   obtain ⟨_, t3, _, e⟩ := bd_ok ea
   cases e; rfl
 | false =>
 simp only [Bool.false_eq_true, if_false, has_ok g, Option.bind_some]
 cases h2 : isP [108, 111, 99, 107] ts with
 | true =>
  simp only [if_true, Option.bind_assoc]
  refine (at_ok (g.is h2) 13).bd (fun e => rfl) fun n t1 _ g1 l1 => ?_
  refine Sm.mono (n := t1.length - 1) ?_ (by omega)
  simp only [Sum.elim_inr, stmt1_ok, Option.bind_some, Option.bind_assoc, ndT]
  exact Sm.map (end_ok g1 ⟨n.Kind_, n.Text_, n.Num_, (hd ts).At_, nilS⟩) (fun e => rfl) fun a t2 ea g2 => by
   obtain ⟨_, t3, _, e⟩ := bd_ok ea
   cases e; rfl
 | false =>
 simp only [Bool.false_eq_true, if_false, has_ok g, Option.bind_some]
 cases h3 : isP [117, 110, 108, 111, 99, 107] ts with
 | true =>
  simp only [if_true, Option.bind_assoc]
  refine (at_ok (g.is h3) 14).bd (fun e => rfl) fun n t1 _ g1 l1 => ?_
  refine Sm.mono (n := t1.length - 1) ?_ (by omega)
  simp only [Sum.elim_inr, stmt1_ok, Option.bind_some, Option.bind_assoc, ndT]
  exact Sm.map (end_ok g1 ⟨n.Kind_, n.Text_, n.Num_, (hd ts).At_, nilS⟩) (fun e => rfl) fun a t2 ea g2 => by
   obtain ⟨_, t3, _, e⟩ := bd_ok ea
   cases e; rfl
 | false =>
 simp only [Bool.false_eq_true, if_false, has_ok g, Option.bind_some]
 cases h4 : isP [105, 102] ts with
 | true =>
  simp only [if_true, Option.bind_assoc]
  refine (branch_ok hb (g.is h4) 15 (hd ts).At_).bd (fun e => rfl) fun n t1 en g1 l1 => ?_
  obtain ⟨x, y, z, hk⟩ := branchP_kids en
  simp only [Sum.elim_inr, ndK, ndT, hk, has_ok g1, Option.bind_some, Option.bind_assoc]
  cases h5 : isP [101, 108, 115, 101] t1 with
  | true =>
   have := g1.tail_len
   simp only [if_true, Option.bind_assoc]
   refine (hb t1.tail (g1.is h5)).bd (fun e => rfl) fun b t2 _ g2 l2 => .ok g2 (by omega) ?_
   simp only [Sum.elim_inr, ndK, ndT, nd_eta]
   rw [gapp64 (by simp)]; rfl
  | false =>
   simp only [Bool.false_eq_true, if_false]
   rw [gapp64 (by simp)]
   exact .ok g1 (by omega) rfl
 | false =>
 simp only [Bool.false_eq_true, if_false, has_ok g, Option.bind_some]
 cases h5 : isP [119, 104, 105, 108, 101] ts with
 | true =>
  simp only [if_true, Option.bind_assoc]
  refine Sm.mono (n := ts.tail.length - 1) ?_ (by omega)
  exact Sm.map (branch_ok hb (g.is h5) 16 (hd ts).At_) (fun e => rfl) fun a t1 ea g1 => by
   simp only [Sum.elim_inr, Sum.elim_inl, Option.bind_some, ndK, ndT, nd_eta]
 | false =>
 simp only [Bool.false_eq_true, if_false, has_ok g, Option.bind_some]
 cases h6 : isP [114, 101, 116, 117, 114, 110] ts with
 | true =>
  have g1 := g.is h6
  simp only [if_true, is_ok g1, Option.bind_some, Option.bind_assoc]
  cases h7 : isP [59] ts.tail with
  | true =>
   simp only [Bool.not_true, Bool.false_eq_true, if_false, if_true, Option.bind_some, Sum.elim_inr]
   refine Sm.mono (n := ts.tail.length - 1) ?_ (by omega)
   show Sm d _ _ (((q18 (_, ⟨ts.tail, true⟩, d)).bind _).bind _) _ _
   rw [Option.bind_assoc]
   exact Sm.map (end2_ok g1 ⟨17, lit [], 0, (hd ts).At_, nilS⟩) (fun e => rfl) fun a t1 ea g1 => by
    simp only [Sum.elim_inr, Sum.elim_inl, Option.bind_some, nd_eta]
  | false =>
   simp only [Bool.not_false, Bool.false_eq_true, if_false, if_true, Option.bind_assoc]
   refine (term_ok g1).bd (fun e => rfl) fun a t1 ea g2 l2 => ?_
   have ha := nd_nil (termP_kids ea)
   simp only [Sum.elim_inr, Option.bind_some, Option.bind_assoc, ndT, ha]
   refine Sm.mono (n := t1.length - 1) ?_ (by omega)
   exact Sm.map (end2_ok g2 ⟨17, lit [], 0, (hd ts).At_, ⟨[a], true⟩⟩) (fun e => rfl) fun b t2 eb g3 => by
    simp only [Sum.elim_inr, Sum.elim_inl, Option.bind_some, nd_eta]
 | false =>
 simp only [Bool.false_eq_true, if_false, has_ok g, Option.bind_some]
 cases h7 : isP [97, 98, 111, 114, 116] ts with
 | true =>
  have g1 := g.is h7
  simp only [if_true, Option.bind_assoc]
  refine Sm.mono (n := ts.tail.length - 1) ?_ (by omega)
  exact Sm.map (end_ok g1 ⟨18, lit [], 0, (hd ts).At_, nilS⟩) (fun e => rfl) fun a t2 ea g2 => by
   obtain ⟨_, t3, _, e⟩ := bd_ok ea
   cases e; rfl
 | false =>
 simp only [Bool.false_eq_true, if_false, has_ok g, Option.bind_some]
 cases h8 : isP [102, 111, 114, 107] ts with
 | true =>
  simp only [if_true, Option.bind_assoc]
  refine (name_ok (g.is h8)).bd (fun e => rfl) fun n t1 _ g1 l1 => ?_
  simp only [Sum.elim_inr, Option.bind_assoc]
  refine (args_ok g1).bd (fun e => rfl) fun ks t2 _ g2 l2 => ?_
  simp only [Sum.elim_inr, stmt12_ok, Option.bind_some, Option.bind_assoc, ndT]
  refine Sm.mono (n := t2.length - 1) ?_ (by omega)
  exact Sm.map (end2_ok g2 ⟨19, n.Text_, n.Num_, (hd ts).At_, ks⟩) (fun e => rfl) fun b t2 eb g3 => by
   simp only [Sum.elim_inr, Sum.elim_inl, Option.bind_some, nd_eta]
 | false =>
 simp only [Bool.false_eq_true, if_false, Option.bind_some, Sum.elim_inr, Option.bind_assoc]
 refine (name_ok g).bd (fun e => rfl) fun n t1 _ g1 l1 => ?_
 simp only [Sum.elim_inr, Option.bind_assoc]
 refine (named_ok g1 n).bd (fun e => rfl) fun m t2 _ g2 l2 => ?_
 simp only [Sum.elim_inr, Option.bind_assoc, ndK, ndT, nd_eta]
 refine Sm.mono (n := t2.length - 1) ?_ (by omega)
 exact Sm.map (end2_ok g2 m) (fun e => rfl) fun b t2 eb g3 => by
  simp only [Sum.elim_inr, Sum.elim_inl, Option.bind_some, nd_eta]
end Go.Px
/-! Chapter 2: the program's parser is the plain Lean: blocks, functions. -/
namespace Go.Px
set_option linter.unusedVariables false
set_option linter.unusedSimpArgs false
variable {d : Int} {n : Nat} {ts : List Tk}
variable {h : PSt → Option ((Int × Int) × PSt ⊕ (Int × ByteArray × Int × Int) × PSt × Sl Nd)} {blk : List Tk → PR Nd}
theorem gappS {acc : List Nd} {a : Nd} (h : acc.length ≤ 30000) : gapp 64 (mkS acc) [a] = some (mkS (acc ++ [a])) := by
 rw [gapp_ok (by simp [mkS]; omega) (by simp [mkS]; omega)]
 simp [mkS]
noncomputable abbrev blkBody (h : PSt → Option ((Int × Int) × PSt ⊕ (Int × ByteArray × Int × Int) × PSt × Sl Nd)) := q4i qb qh qf qc qa (qr h)
theorem stmts_loop (hb : BlkOK d h blk) {u v : Int × ByteArray × Int × Int} : ∀ (k : Nat) (ts : List Tk) (acc : List Nd), TGood ts → ts.length ≤ k → acc.length + ts.length ≤ 30000 →
    Sm d (ts.length - 1) (stmtsP (stmtP blk) k acc ts) (lpO (blkBody h) ((⟨ts, true⟩, d), u, v, mkS acc)) Sum.inl (fun l st => Sum.inr (st, u, v, mkS l)) ∧ ∀ l t1, stmtsP (stmtP blk) k acc ts = .ok (l, t1) → l.length + t1.length ≤ acc.length + ts.length
  | 0, ts, acc, g, hk, ha => absurd (List.eq_nil_of_length_eq_zero (by omega)) g.ne
  | k + 1, ts, acc, g, hk, ha => by
    have ht := g.tail_len
    rw [lpO_eq]
    show Sm d _ (if isP [125] ts = true then _ else _) ((((qa (lit [125], ⟨ts, true⟩, d)).bind _)).bind _) _ _ ∧ ∀ l t1, (if isP [125] ts = true then _ else _) = _ → _
    rw [has_ok g, Option.bind_some]
    cases e : isP [125] ts with
    | true =>
      simp only [if_true, Bool.not_true, Bool.false_eq_true, if_false]
      exact ⟨.ok (g.is e) (by omega) rfl, fun l t1 e => by cases e; omega⟩
    | false =>
      simp only [Bool.false_eq_true, if_false, Bool.not_false, if_true]
      have s := stmt_ok hb g
      cases es : stmtP blk ts with
      | error er =>
        obtain ⟨st, s⟩ := s.err es
        rw [s]
        exact ⟨⟨st, rfl⟩, fun l t1 e => by cases e⟩
      | ok p =>
        obtain ⟨a, t1⟩ := p
        obtain ⟨s, g1, l1⟩ := s.out es
        rw [s]
        simp only [Option.bind_some, Sum.elim_inr, nd_eta]
        rw [gappS (by omega)]
        simp only [Option.bind_some]
        have ih := stmts_loop hb (u := u) (v := v) k t1 (acc ++ [a]) g1 (by omega) (by simp; omega)
        exact ⟨ih.1.mono (by omega), fun l t2 e2 => by have := ih.2 l t2 e2; simp at this; omega⟩
theorem block_ok : ∀ (r : Nat) (k : Nat) (d : Int), d = 8 - (r : Int) → 0 ≤ d → r + 1 ≤ k → BlkOK d (qm k) (blockP r)
  | r, 0, d, _, _, hk => by omega
  | 0, k + 1, d, hd', h0, hk => by
    intro ts g
    show Sm d _ _ ((qb (⟨ts, true⟩, d)).bind _) _ _
    rw [peek_ok g, Option.bind_some, is_ok g, Option.bind_some]
    unfold blockP
    cases e : isP [123] ts with
    | true =>
      have : decide (8 ≤ d) = true := decide_eq_true (by omega)
      simp only [if_true, Option.bind_some, this, fail_ok g]
      exact ⟨_, rfl⟩
    | false =>
      simp only [Bool.false_eq_true, if_false, Option.bind_some]
      have hm : mustP [123] ts = .error ((hd ts).At_, 20) := by unfold mustP; rw [e]; rfl
      obtain ⟨st, s⟩ := (must_ok (d := d) g [123]).err hm
      rw [s]
      exact ⟨st, rfl⟩
  | r + 1, k + 1, d, hd', h0, hk => by
    intro ts g
    show Sm d _ _ ((qb (⟨ts, true⟩, d)).bind _) _ _
    rw [peek_ok g, Option.bind_some, is_ok g, Option.bind_some]
    unfold blockP
    have h8 : decide (8 ≤ d) = false := decide_eq_false (by omega)
    have hb := block_ok r k (d + 1) (by omega) (by omega) (by omega)
    have hw : IntKind.i64.wrap (d + 1) = d + 1 := wrap_id (by omega) (by omega)
    have hw2 : IntKind.i64.wrap (d + 1 - 1) = d := by rw [wrap_id (by omega) (by omega)]; omega
    have hlen := g.len
    have fin : Sm d (ts.length - 1) ((mustP [123] ts).bd fun _ t1 => (stmtsP (stmtP (blockP r)) t1.length [] t1).bd fun l t2 => .ok (⟨9, lit [], 0, (hd ts).At_, mkS l⟩, t2))
        ((qc (lit [123], ⟨ts, true⟩, d)).bind fun y4 => Sum.elim (fun y5 => some (Sum.inl y5)) (fun y6 => (lpO (blkBody (qm k)) ((y6.1, IntKind.i64.wrap (y6.2 + 1)), (0, lit [], 0, 0), (9, lit [], 0, (hd ts).At_), Sl.mk [] false)).bind fun y13 =>
          Sum.elim (fun y14 => some (Sum.inl y14)) (fun y15 => some (Sum.inr (y15.2.2.1, (y15.1.1, IntKind.i64.wrap (y15.1.2 - 1)), y15.2.2.2))) y13) y4) Sum.inl (fun n st => Sum.inr (ndK n st)) := by
      refine (must_ok g [123]).bd (fun e => rfl) fun _ t1 _ g1 l1 => ?_
      have lp := (stmts_loop hb (u := (0, lit [], 0, 0)) (v := (9, lit [], 0, (hd ts).At_)) t1.length t1 [] g1 (Nat.le_refl _) (by simp; omega)).1
      simp only [Sum.elim_inr, hw]
      show Sm d _ _ ((lpO (blkBody (qm k)) ((⟨t1, true⟩, d + 1), (0, lit [], 0, 0), (9, lit [], 0, (hd ts).At_), mkS [])).bind _) _ _
      cases es : stmtsP (stmtP (blockP r)) t1.length [] t1 with
      | error er => obtain ⟨st, s⟩ := lp.err es; rw [s]; exact ⟨st, rfl⟩
      | ok p =>
        obtain ⟨l, t2⟩ := p
        obtain ⟨s, g2, l2⟩ := lp.out es
        rw [s]
        simp only [Option.bind_some, Sum.elim_inr, hw2]
        exact .ok g2 (by omega) rfl
    cases e : isP [123] ts with
    | true =>
      simp only [if_true, Option.bind_some, h8, Bool.false_eq_true, if_false]
      exact fin
    | false =>
      simp only [Bool.false_eq_true, if_false, Option.bind_some]
      exact fin
theorem blk8_ok : BlkOK 0 q36 (blockP 8) := block_ok 8 100000 0 (by omega) (by omega) (by omega)
theorem gappl {xs l : List Nd} {b : Bool} (h : xs.length + l.length ≤ 60000) (hl : l ≠ []) : gapp 64 (⟨xs, b⟩ : Sl Nd) l = some ⟨xs ++ l, true⟩ := by
 rw [gapp_ok (by simp; omega) (by simp; omega)]
 cases l with
 | nil => exact absurd rfl hl
 | cons => simp
theorem fn_ok (g : TGood ts) (at_ : Int) : Sm 0 (ts.length - 1) (fnP at_ ts) (q2w (at_, ⟨ts, true⟩, 0)) Sum.inl (fun n st => Sum.inr (ndK n st)) := by
 have hlen := g.len
 show Sm 0 _ _ ((qd (⟨ts, true⟩, 0)).bind _) _ _
 refine (name_ok g).bd (fun e => rfl) fun n t1 _ g1 l1 => ?_
 refine (must_ok g1 [40]).bd (fun e => rfl) fun _ t2 _ g2 l2 => ?_
 simp only [Sum.elim_inr, is_ok g2, Option.bind_some]
 have h2 := g2.tail_len
 refine Sm.bd (er := Sum.inl) (ok := fun (l : List Nd) (st : PSt) => Sum.inr (st, (0, lit [], 0, 0), (6, n.Text_, n.Num_, at_), (mkS l : Sl Nd))) (n := t2.length) ?_ (fun e => rfl) fun ks t3 e3 g3 l3 => ?_
 ·cases e : isP [41] t2 with
  | true => exact .ok g2 (Nat.le_refl _) rfl
  | false =>
   simp only [Bool.false_eq_true, if_false, Bool.not_false, if_true]
   refine Sm.mono (n := t2.length - 1) ?_ (by omega)
   obtain ⟨k1, k2⟩ := list_param_ok (d := 0) g2
   refine Sm.map k1 (fun e => rfl) fun l t3 el g3 => ?_
   have hne : l ≠ [] := by
    obtain ⟨a, t, _, e2⟩ := bd_ok el
    have : ∀ (k : Nat) (acc : List Nd) (t : List Tk) (l : List Nd) (t3 : List Tk), acc ≠ [] → listLoop paramP k acc t = .ok (l, t3) → l ≠ [] := by
     intro k
     induction k with
     | zero => intro acc t l t3 ha e; cases e; exact ha
     | succ k ih =>
      intro acc t l t3 ha e
      unfold listLoop at e
      split at e
      ·obtain ⟨a, t', _, e⟩ := bd_ok e
       exact ih _ _ _ _ (by simp) e
      ·cases e; exact ha
    exact this _ _ _ _ _ (by simp) e2
   cases l with
   | nil => exact absurd rfl hne
   | cons a l => rfl
 have hks : ks.length ≤ 20001 := by
  have hlen2 := g2.len
  split at e3
  ·cases e3; simp
  ·have := (list_param_ok (d := 0) g2).2 ks t3 e3; omega
 refine (must_ok g3 [41]).bd (fun e => rfl) fun _ t4 _ g4 l4 => ?_
 simp only [Sum.elim_inr, has_ok g4, Option.bind_some]
 have h4 := g4.tail_len
 refine Sm.bd (er := Sum.inl) (ok := fun (m : Nd) (st : PSt) => Sum.inr (st, (0, lit [], 0, 0), (6, n.Text_, n.Num_, at_), (m.Kind_, m.Text_, m.Num_, m.At_, m.Kids_), (mkS ks : Sl Nd))) (n := t4.length) ?_ (fun e => rfl) fun ret t5 e5 g5 l5 => ?_
 ·cases e : isP [45, 62] t4 with
  | true =>
   have g5 := g4.is e
   simp only [if_true, is_ok g5, Option.bind_some]
   cases e2 : isP [38] t4.tail with
   | true => simp only [if_true, fail_ok g5, Option.bind_some]; exact ⟨_, rfl⟩
   | false =>
    simp only [Bool.false_eq_true, if_false]
    refine Sm.mono (n := t4.tail.length - 1) ?_ (by omega)
    exact Sm.map (mode_ok g5) (fun e => rfl) fun a t _ _ => rfl
  | false =>
   simp only [Bool.false_eq_true, if_false, peek_ok g4, Option.bind_some]
   exact .ok g4 (Nat.le_refl _) rfl
 refine (blk8_ok t5 g5).bd (fun e => rfl) fun b t6 _ g6 l6 => .ok g6 (by omega) ?_
 simp only [Sum.elim_inr, ndK, ndT, nd_eta, mkS]
 rw [gappl (by simp; omega) (by simp)]
 rfl
end Go.Px
/-! Chapter 2: how many nodes a tree has. -/
namespace Go.Px
set_option linter.unusedVariables false
set_option linter.unusedSimpArgs false
mutual
def sizeN : Nd → Nat
 | ⟨_, _, _, _, ks⟩ => sizeS ks + 1
def sizeS : Sl Nd → Nat
 | ⟨xs, _⟩ => sizesN xs
def sizesN : List Nd → Nat
 | [] => 0
 | a :: r => sizeN a + sizesN r
end
theorem sizeN_eq (n : Nd) : sizeN n = sizesN n.Kids_.xs + 1 := by
 obtain ⟨a, b, c, d, ⟨xs, nn⟩⟩ := n
 simp [sizeN, sizeS]
theorem sizesN_append : ∀ (a b : List Nd), sizesN (a ++ b) = sizesN a + sizesN b
 | [], b => by simp [sizesN]
 | x :: a, b => by simp [sizesN, sizesN_append a b]; omega
theorem isP_len {s : List UInt8} {ts : List Tk} (h : isP s ts = true) : ts.tail.length + 1 = ts.length := by
 cases ts with
 | nil => exact absurd rfl (isP_kind h)
 | cons => simp
theorem mustP_len {s : List UInt8} {ts t1 : List Tk} {u : Unit} (h : mustP s ts = .ok (u, t1)) : t1.length + 1 = ts.length := by
 unfold mustP at h
 split at h
 ·rename_i h1; cases h; exact isP_len h1
 ·cases h
theorem takeP_len {k : Int} (hk : k ≠ 0) {ts t1 : List Tk} {t : Tk} (h : takeP k ts = .ok (t, t1)) : t1.length + 1 = ts.length := by
 unfold takeP at h
 split at h
 ·rename_i h1
  cases h
  cases ts with
  | nil => exact absurd h1.symm hk
  | cons => simp
 ·cases h
theorem numberP_len {sg : Int} {ts t1 : List Tk} {v : Int} (h : numberP sg ts = .ok (v, t1)) : t1.length + 1 = ts.length := by
 obtain ⟨a, t, e, h⟩ := bd_ok h
 cases h; exact takeP_len (by omega) e
/-- a part of the parser that makes no more nodes than three for each token -/
def Sz (p : List Tk → PR Nd) : Prop := ∀ ts n t1, p ts = .ok (n, t1) → sizeN n + 3 * t1.length ≤ 3 * ts.length ∧ t1.length + 1 ≤ ts.length
def SzL (p : List Tk → PR (List Nd)) : Prop := ∀ ts n t1, p ts = .ok (n, t1) → sizesN n + 3 * t1.length ≤ 3 * ts.length ∧ t1.length + 1 ≤ ts.length
theorem nameP_sz {ts t1 : List Tk} {n : Nd} (h : nameP ts = .ok (n, t1)) : sizeN n = 1 ∧ t1.length + 1 = ts.length := by
 obtain ⟨a, t, e, h⟩ := bd_ok h
 cases h
 exact ⟨by simp [sizeN_eq, sizesN], takeP_len (by omega) e⟩
theorem moreP_sz {ts t1 : List Tk} {n m : Nd} (h : moreP n ts = .ok (m, t1)) : sizeN m = sizeN n ∧ t1.length ≤ ts.length := by
 unfold moreP at h
 split at h
 ·rename_i hp
  obtain ⟨a, t, e, h⟩ := bd_ok h
  cases h
  have := numberP_len e; have := isP_len hp
  exact ⟨by simp [sizeN_eq, Nd.num], by omega⟩
 ·split at h
  ·rename_i hp
   obtain ⟨a, t, e, h⟩ := bd_ok h
   cases h
   have := numberP_len e; have := isP_len hp
   exact ⟨by simp [sizeN_eq, Nd.num], by omega⟩
  ·cases h; exact ⟨rfl, Nat.le_refl _⟩
theorem termP_sz {ts t1 : List Tk} {n : Nd} (h : termP ts = .ok (n, t1)) : sizeN n = 1 ∧ t1.length + 1 ≤ ts.length := by
 unfold termP at h
 split at h
 ·obtain ⟨a, t, e, h⟩ := bd_ok h
  cases h
  have := numberP_len e
  exact ⟨by simp [sizeN_eq, sizesN], by omega⟩
 ·split at h
  ·rename_i hp
   obtain ⟨a, t, e, h⟩ := bd_ok h
   cases h
   have := numberP_len e; have := isP_len hp
   exact ⟨by simp [sizeN_eq, sizesN], by omega⟩
  ·obtain ⟨a, t, e, h⟩ := bd_ok h
   have h1 := nameP_sz e; have h2 := moreP_sz h
   exact ⟨by omega, by omega⟩
theorem listLoop_sz {one : List Tk → PR Nd} (ho : Sz one) : ∀ (k : Nat) (acc : List Nd) (ts : List Tk) (l : List Nd) (t1 : List Tk), listLoop one k acc ts = .ok (l, t1) → sizesN l + 3 * t1.length ≤ sizesN acc + 3 * ts.length ∧ t1.length ≤ ts.length
 | 0, acc, ts, l, t1, h => by cases h; exact ⟨Nat.le_refl _, Nat.le_refl _⟩
 | k + 1, acc, ts, l, t1, h => by
  unfold listLoop at h
  split at h
  ·rename_i hp
   obtain ⟨a, t, e, h⟩ := bd_ok h
   have h1 := ho _ _ _ e
   have h2 := listLoop_sz ho k _ _ _ _ h
   have h3 := isP_len hp
   rw [sizesN_append] at h2
   simp only [sizesN] at h2
   omega
  ·cases h; exact ⟨Nat.le_refl _, Nat.le_refl _⟩
theorem listP_sz {one : List Tk → PR Nd} (ho : Sz one) : SzL (listP one) := by
 intro ts l t1 h
 obtain ⟨a, t, e, h⟩ := bd_ok h
 have h1 := ho _ _ _ e
 have h2 := listLoop_sz ho _ _ _ _ _ h
 simp only [sizesN] at h2
 omega
theorem termP_Sz : Sz termP := fun ts n t1 h => by have := termP_sz h; omega
theorem argsP_sz {ts t1 : List Tk} {ks : Sl Nd} (h : argsP ts = .ok (ks, t1)) : sizesN ks.xs + 3 * t1.length + 3 ≤ 3 * ts.length ∧ t1.length + 1 ≤ ts.length := by
 obtain ⟨u, t, e, h⟩ := bd_ok h
 have h0 := mustP_len e
 split at h
 ·rename_i hp
  have := isP_len hp
  cases h
  simp [sizesN]; omega
 ·obtain ⟨l, t2, e2, h⟩ := bd_ok h
  obtain ⟨u, t3, e3, h⟩ := bd_ok h
  cases h
  have h1 := listP_sz termP_Sz _ _ _ e2
  have h2 := mustP_len e3
  simp only; omega
theorem fieldP_Sz : Sz fieldP := fun ts n t1 h => by
 obtain ⟨a, t, e, h⟩ := bd_ok h
 have h0 := nameP_sz e
 split at h
 ·rename_i hp
  have := isP_len hp
  obtain ⟨k, t2, e2, h⟩ := bd_ok h
  obtain ⟨u, t3, e3, h⟩ := bd_ok h
  cases h
  have h1 := nameP_sz e2; have h2 := mustP_len e3
  simp only [sizeN_eq, sizesN] at h1 ⊢; omega
 ·cases h
  simp only [sizeN_eq, sizesN]; omega
theorem cmpP_len {ts t1 : List Tk} {s : ByteArray} (h : cmpP ts = .ok (s, t1)) : t1.length + 1 = ts.length := by
 unfold cmpP at h
 split at h
 ·rename_i hp; cases h; exact isP_len hp
 ·split at h
  ·rename_i hp; cases h; exact isP_len hp
  ·split at h
   ·rename_i hp; cases h; exact isP_len hp
   ·cases h
theorem factP_Sz : Sz factP := fun ts n t1 h => by
 obtain ⟨a, t, e, h⟩ := bd_ok h
 obtain ⟨op, t2, e2, h⟩ := bd_ok h
 obtain ⟨b, t3, e3, h⟩ := bd_ok h
 cases h
 have h0 := termP_sz e; have h1 := cmpP_len e2; have h2 := termP_sz e3
 simp only [sizeN_eq, sizesN] at h0 h2 ⊢; omega
theorem sortP_Sz : Sz sortP := fun ts n t1 h => by
 have go : ∀ {w : List UInt8} {a b : ByteArray} {c d : Int}, isP w ts = true → ((nameP ts.tail).bd fun k t1 => (.ok (⟨2, a, c, d, ⟨[k], true⟩⟩, t1) : PR Nd)) = .ok (n, t1) → sizeN n + 3 * t1.length ≤ 3 * ts.length ∧ t1.length + 1 ≤ ts.length := by
  intro w a b c d hp h
  obtain ⟨k, t, e, h⟩ := bd_ok h
  cases h
  have h0 := nameP_sz e; have := isP_len hp
  simp only [sizeN_eq, sizesN] at h0 ⊢; omega
 unfold sortP at h
 split at h
 ·rename_i hp; have := isP_len hp; cases h; simp only [sizeN_eq, sizesN]; omega
 ·split at h
  ·rename_i hp; have := isP_len hp; cases h; simp only [sizeN_eq, sizesN]; omega
  ·split at h
   ·rename_i hp; exact go (b := lit []) hp h
   ·split at h
    ·rename_i hp; exact go (b := lit []) hp h
    ·split at h
     ·rename_i hp; exact go (b := lit []) hp h
     ·cases h
theorem typP_Sz (a : Int) : Sz (typP a) := fun ts n t1 h => by
 obtain ⟨m, t, e, h⟩ := bd_ok h
 obtain ⟨s, t2, e2, h⟩ := bd_ok h
 obtain ⟨ks, t3, e3, h⟩ := bd_ok h
 obtain ⟨ks2, t4, e4, h⟩ := bd_ok h
 obtain ⟨u, t5, e5, h⟩ := bd_ok h
 cases h
 have h0 := nameP_sz e; have h1 := sortP_Sz _ _ _ e2; have h5 := mustP_len e5
 have h3 : sizesN ks + 3 * t3.length ≤ sizeN s + 3 * t2.length := by
  split at e3
  ·rename_i hp
   obtain ⟨l, t6, e6, e7⟩ := bd_ok e3
   obtain ⟨u, t7, e7, e8⟩ := bd_ok e7
   cases e8
   have := isP_len hp; have h6 := listP_sz fieldP_Sz _ _ _ e6; have := mustP_len e7
   simp only [List.cons_append, List.nil_append, sizesN]; omega
  ·cases e3; simp only [sizesN]; omega
 have h4 : sizesN ks2 + 3 * t4.length ≤ sizesN ks + 3 * t3.length := by
  split at e4
  ·rename_i hp
   obtain ⟨l, t6, e6, e7⟩ := bd_ok e4
   cases e7
   have := isP_len hp; have h6 := listP_sz factP_Sz _ _ _ e6
   rw [sizesN_append]; omega
  ·cases e4; omega
 simp only [sizeN_eq] at h1 h3 ⊢; omega
theorem modeP_Sz : Sz modeP := fun ts n t1 h => by
 have go : ∀ {t0 : List Tk} {a : ByteArray} {c d : Int}, t0.length + 1 ≤ ts.length → ((nameP t0).bd fun k t1 => (.ok (⟨8, a, c, d, ⟨[k], true⟩⟩, t1) : PR Nd)) = .ok (n, t1) → sizeN n + 3 * t1.length ≤ 3 * ts.length ∧ t1.length + 1 ≤ ts.length := by
  intro t0 a c d hp h
  obtain ⟨k, t, e, h⟩ := bd_ok h
  cases h
  have h0 := nameP_sz e
  simp only [sizeN_eq, sizesN] at h0 ⊢; omega
 unfold modeP at h
 split at h
 ·rename_i hp; have := isP_len hp; cases h; simp only [sizeN_eq, sizesN]; omega
 ·split at h
  ·rename_i hp; exact go (by have := isP_len hp; omega) h
  ·obtain ⟨u, t, e, h⟩ := bd_ok h
   have := mustP_len e
   split at h
   ·rename_i hp; exact go (by have := isP_len hp; omega) h
   ·exact go (by omega) h
theorem paramP_Sz : Sz paramP := fun ts n t1 h => by
 obtain ⟨m, t, e, h⟩ := bd_ok h
 obtain ⟨s, t2, e2, h⟩ := bd_ok h
 obtain ⟨k, t3, e3, h⟩ := bd_ok h
 cases h
 have h0 := nameP_sz e; have h1 := mustP_len e2; have h2 := modeP_Sz _ _ _ e3
 simp only [sizeN_eq, sizesN] at h2 ⊢; omega
theorem atP_sz {k : Int} {ts t1 : List Tk} {n : Nd} (h : atP k ts = .ok (n, t1)) : sizeN n = 1 ∧ t1.length + 1 ≤ ts.length := by
 obtain ⟨m, t, e, h⟩ := bd_ok h
 obtain ⟨s, t2, e2, h⟩ := bd_ok h
 obtain ⟨v, t3, e3, h⟩ := bd_ok h
 obtain ⟨u, t4, e4, h⟩ := bd_ok h
 cases h
 have h0 := nameP_sz e; have h1 := mustP_len e2; have h2 := numberP_len e3; have h3 := mustP_len e4
 exact ⟨by simp [sizeN_eq, sizesN], by omega⟩
theorem exprP_Sz : Sz exprP := fun ts n t1 h => by
 unfold exprP at h
 split at h
 ·rename_i hp
  obtain ⟨a, t, e, h⟩ := bd_ok h
  cases h
  have := isP_len hp; have := numberP_len e
  simp only [sizeN_eq, sizesN]; omega
 split at h
 ·rename_i hp
  obtain ⟨a, t, e, h⟩ := bd_ok h
  cases h
  have := isP_len hp; have := nameP_sz e
  simp only [sizeN_eq, sizesN]; omega
 split at h
 ·rename_i hp
  have := isP_len hp
  split at h
  ·rename_i hq
   obtain ⟨a, t, e, h⟩ := bd_ok h
   cases h
   have := isP_len hq; have := nameP_sz e
   simp only [sizeN_eq, sizesN]; omega
  ·obtain ⟨a, t, e, h⟩ := bd_ok h
   cases h
   have := nameP_sz e
   simp only [sizeN_eq, sizesN]; omega
 split at h
 ·exact termP_Sz _ _ _ h
 obtain ⟨m, t, e, h⟩ := bd_ok h
 have h0 := nameP_sz e
 split at h
 ·obtain ⟨ks, t2, e2, h⟩ := bd_ok h
  cases h
  have := argsP_sz e2
  simp only [sizeN_eq]; omega
 split at h
 ·rename_i hp
  obtain ⟨a, t2, e2, h⟩ := bd_ok h
  obtain ⟨u, t3, e3, h⟩ := bd_ok h
  cases h
  have := isP_len hp; have h1 := termP_sz e2; have := mustP_len e3
  simp only [sizeN_eq, sizesN] at h1 ⊢; omega
 split at h
 ·rename_i hp
  obtain ⟨a, t2, e2, h⟩ := bd_ok h
  cases h
  have := isP_len hp.1; have h1 := nameP_sz e2
  simp only [sizeN_eq, sizesN] at h0 h1 ⊢; omega
 split at h
 ·rename_i hp
  obtain ⟨a, t2, e2, h⟩ := bd_ok h
  cases h
  have := isP_len hp.1; have h1 := nameP_sz e2
  simp only [sizeN_eq, sizesN] at h0 h1 ⊢; omega
 ·have := moreP_sz h; omega
theorem namedP_sz {m n : Nd} {ts t1 : List Tk} (h : namedP m ts = .ok (n, t1)) : sizeN n + 3 * t1.length ≤ 3 * ts.length + 2 ∧ t1.length + 1 ≤ ts.length := by
 unfold namedP at h
 split at h
 ·obtain ⟨ks, t2, e2, h⟩ := bd_ok h
  cases h
  have := argsP_sz e2
  simp only [sizeN_eq, sizesN]; omega
 split at h
 ·rename_i hp
  obtain ⟨a, t2, e2, h⟩ := bd_ok h
  obtain ⟨u, t3, e3, h⟩ := bd_ok h
  obtain ⟨u, t4, e4, h⟩ := bd_ok h
  obtain ⟨b, t5, e5, h⟩ := bd_ok h
  cases h
  have := isP_len hp; have h1 := termP_sz e2; have := mustP_len e3; have := mustP_len e4; have h2 := termP_sz e5
  simp only [sizeN_eq, sizesN] at h1 h2 ⊢; omega
 ·obtain ⟨u, t4, e4, h⟩ := bd_ok h
  obtain ⟨b, t5, e5, h⟩ := bd_ok h
  cases h
  have := mustP_len e4; have h2 := exprP_Sz _ _ _ e5
  simp only [sizeN_eq, sizesN] at h2 ⊢; omega
theorem endP_sz {m n : Nd} {ts t1 : List Tk} (h : endP m ts = .ok (n, t1)) : n = m ∧ t1.length + 1 = ts.length := by
 obtain ⟨u, t, e, h⟩ := bd_ok h
 cases h; exact ⟨rfl, mustP_len e⟩
theorem branchP_sz {blk : List Tk → PR Nd} (hb : Sz blk) (k a : Int) : Sz (branchP blk k a) := fun ts n t1 h => by
 obtain ⟨m, t, e, h⟩ := bd_ok h
 obtain ⟨b, t2, e2, h⟩ := bd_ok h
 cases h
 have h0 := factP_Sz _ _ _ e; have h1 := hb _ _ _ e2
 simp only [sizeN_eq] at h0 h1 ⊢
 simp only [sizesN_append, sizesN, sizeN_eq]; omega
theorem stmtP_Sz {blk : List Tk → PR Nd} (hb : Sz blk) : Sz (stmtP blk) := fun ts n t1 h => by
 unfold stmtP at h
 split at h
 ·rename_i hp
  obtain ⟨a, t, e, h⟩ := bd_ok h
  have := isP_len hp; have := nameP_sz e; obtain ⟨rfl, h2⟩ := endP_sz h
  simp only [sizeN_eq, sizesN]; omega
 split at h
 ·rename_i hp
  obtain ⟨a, t, e, h⟩ := bd_ok h
  have := isP_len hp; have := atP_sz e; obtain ⟨rfl, h2⟩ := endP_sz h
  simp only [sizeN_eq, sizesN]; omega
 split at h
 ·rename_i hp
  obtain ⟨a, t, e, h⟩ := bd_ok h
  have := isP_len hp; have := atP_sz e; obtain ⟨rfl, h2⟩ := endP_sz h
  simp only [sizeN_eq, sizesN]; omega
 split at h
 ·rename_i hp
  obtain ⟨a, t, e, h⟩ := bd_ok h
  have := isP_len hp; have h1 := branchP_sz hb _ _ _ _ _ e
  split at h
  ·rename_i hq
   obtain ⟨b, t2, e2, h⟩ := bd_ok h
   cases h
   have := isP_len hq; have h2 := hb _ _ _ e2
   simp only [sizeN_eq] at h1 h2 ⊢
   simp only [sizesN_append, sizesN, sizeN_eq]; omega
  ·cases h
   simp only [sizeN_eq] at h1 ⊢
   simp only [sizesN_append, sizesN, sizeN_eq]; omega
 split at h
 ·rename_i hp
  have := isP_len hp; have h1 := branchP_sz hb _ _ _ _ _ h; omega
 split at h
 ·rename_i hp
  have := isP_len hp
  split at h
  ·obtain ⟨rfl, h2⟩ := endP_sz h
   simp only [sizeN_eq, sizesN]; omega
  ·obtain ⟨a, t, e, h⟩ := bd_ok h
   have h1 := termP_sz e; obtain ⟨rfl, h2⟩ := endP_sz h
   simp only [sizeN_eq, sizesN] at h1 ⊢; omega
 split at h
 ·rename_i hp
  have := isP_len hp; obtain ⟨rfl, h2⟩ := endP_sz h
  simp only [sizeN_eq, sizesN]; omega
 split at h
 ·rename_i hp
  obtain ⟨a, t, e, h⟩ := bd_ok h
  obtain ⟨ks, t2, e2, h⟩ := bd_ok h
  have := isP_len hp; have := nameP_sz e; have := argsP_sz e2; obtain ⟨rfl, h2⟩ := endP_sz h
  simp only [sizeN_eq]; omega
 ·obtain ⟨a, t, e, h⟩ := bd_ok h
  obtain ⟨m, t2, e2, h⟩ := bd_ok h
  have := nameP_sz e; have := namedP_sz e2; obtain ⟨rfl, h2⟩ := endP_sz h
  omega
theorem stmtsP_sz {one : List Tk → PR Nd} (ho : Sz one) : ∀ (k : Nat) (acc : List Nd) (ts : List Tk) (l : List Nd) (t1 : List Tk), stmtsP one k acc ts = .ok (l, t1) → sizesN l + 3 * t1.length + 3 ≤ sizesN acc + 3 * ts.length ∧ t1.length + 1 ≤ ts.length
 | 0, acc, ts, l, t1, h => by cases h
 | k + 1, acc, ts, l, t1, h => by
  unfold stmtsP at h
  split at h
  ·rename_i hp; have := isP_len hp; cases h; omega
  ·obtain ⟨a, t, e, h⟩ := bd_ok h
   have h1 := ho _ _ _ e
   have h2 := stmtsP_sz ho k _ _ _ _ h
   rw [sizesN_append] at h2
   simp only [sizesN] at h2
   omega
theorem blockP_Sz : ∀ r, Sz (blockP r)
 | 0 => fun ts n t1 h => by unfold blockP at h; split at h <;> cases h
 | r + 1 => fun ts n t1 h => by
  obtain ⟨u, t, e, h⟩ := bd_ok (show ((mustP [123] ts).bd _) = _ from h)
  obtain ⟨l, t2, e2, h⟩ := bd_ok h
  cases h
  have := mustP_len e; have := stmtsP_sz (stmtP_Sz (blockP_Sz r)) _ _ _ _ _ e2
  simp only [sizeN_eq, mkS, sizesN] at this ⊢; omega
theorem fnP_Sz (a : Int) : Sz (fnP a) := fun ts n t1 h => by
 obtain ⟨m, t, e, h⟩ := bd_ok h
 obtain ⟨u, t2, e2, h⟩ := bd_ok h
 obtain ⟨ps, t3, e3, h⟩ := bd_ok h
 obtain ⟨u, t4, e4, h⟩ := bd_ok h
 obtain ⟨ret, t5, e5, h⟩ := bd_ok h
 obtain ⟨b, t6, e6, h⟩ := bd_ok h
 cases h
 have := nameP_sz e; have := mustP_len e2; have := mustP_len e4; have h6 := blockP_Sz _ _ _ _ e6
 have h3 : sizesN ps + 3 * t3.length ≤ 3 * t2.length := by
  split at e3
  ·cases e3; simp only [sizesN]; omega
  ·have := listP_sz paramP_Sz _ _ _ e3; omega
 have h5 : sizeN ret + 3 * t5.length ≤ 3 * t4.length + 1 := by
  split at e5
  ·rename_i hp
   have := isP_len hp
   split at e5
   ·cases e5
   ·have := modeP_Sz _ _ _ e5; omega
  ·cases e5; simp only [sizeN_eq, sizesN]; omega
 simp only [sizeN_eq] at h5 h6 ⊢
 simp only [sizesN_append, sizesN, sizeN_eq]; omega
theorem declsP_sz : ∀ (k : Nat) (acc : List Nd) (ts : List Tk) (l : List Nd) (t1 : List Tk), declsP k acc ts = .ok (l, t1) → sizesN l + 3 * t1.length ≤ sizesN acc + 3 * ts.length
 | 0, acc, ts, l, t1, h => by cases h
 | k + 1, acc, ts, l, t1, h => by
  unfold declsP at h
  split at h
  ·cases h; omega
  split at h
  ·rename_i hp
   obtain ⟨a, t, e, h⟩ := bd_ok h
   have := isP_len hp; have h1 := fnP_Sz _ _ _ _ e; have h2 := declsP_sz k _ _ _ _ h
   rw [sizesN_append] at h2
   simp only [sizesN] at h2; omega
  ·obtain ⟨u, t, e, h⟩ := bd_ok h
   obtain ⟨a, t2, e2, h⟩ := bd_ok h
   have := mustP_len e; have h1 := typP_Sz _ _ _ _ e2; have h2 := declsP_sz k _ _ _ _ h
   rw [sizesN_append] at h2
   simp only [sizesN] at h2; omega
end Go.Px
/-! Chapter 2: the tree of a text, by the program, is the plain Lean. -/
namespace Go.Px
set_option linter.unusedVariables false
set_option linter.unusedSimpArgs false
theorem sizeN_pos (n : Nd) : 1 ≤ sizeN n := by rw [sizeN_eq]; omega
theorem sizesN_take {xs : List Nd} {i : Nat} (h : i < xs.length) : sizesN (xs.take (i + 1)) = sizesN (xs.take i) + sizeN xs[i] := by
 rw [List.take_succ_eq_append_getElem h, sizesN_append]; simp [sizesN]
theorem sizesN_take_le (xs : List Nd) (i : Nat) : sizesN (xs.take i) ≤ sizesN xs := by
 have := sizesN_append (xs.take i) (xs.drop i)
 rw [List.take_append_drop] at this; omega
theorem size_ok : ∀ (k : Nat) (n : Nd), sizeN n ≤ k → sizeN n ≤ 1000000000 → q16 k n = some (sizeN n : Int)
 | 0, n, h, _ => by have := sizeN_pos n; omega
 | k + 1, n, h, hb => by
  obtain ⟨a, b, c, d, ⟨xs, nn⟩⟩ := n
  show ((lpO (q37 (q16 k)) (1, (⟨xs, nn⟩ : Sl Nd), Sl.len (⟨xs, nn⟩ : Sl Nd), 0)).bind fun y3 => some y3) = _
  have hs : sizeN ⟨a, b, c, d, ⟨xs, nn⟩⟩ = sizesN xs + 1 := by rw [sizeN_eq]
  have loop : ∀ (m i : Nat), i + m = xs.length → lpO (q37 (q16 k)) (((1 + sizesN (xs.take i) : Nat) : Int), (⟨xs, nn⟩ : Sl Nd), Sl.len (⟨xs, nn⟩ : Sl Nd), (i : Int)) = some ((1 + sizesN xs : Nat) : Int) := by
   intro m
   induction m with
   | zero =>
    intro i hi
    rw [lpO_eq]
    have hf : q37 (q16 k) (((1 + sizesN (xs.take i) : Nat) : Int), (⟨xs, nn⟩ : Sl Nd), Sl.len (⟨xs, nn⟩ : Sl Nd), (i : Int)) = some (.done ((1 + sizesN (xs.take i) : Nat) : Int)) := by
     show (if decide ((i : Int) < (xs.length : Int)) = true then _ else _) = _
     rw [if_neg (by simp; omega)]
    rw [hf, List.take_of_length_le (by omega)]
    rfl
   | succ m ih =>
    intro i hi
    have hlt : i < xs.length := by omega
    rw [lpO_eq]
    have hg : gidx (⟨xs, nn⟩ : Sl Nd) (i : Int) = some xs[i] := by
     unfold gidx
     rw [if_pos (by omega)]
     simp [hlt]
    have h1 := sizesN_take hlt
    have h2 := sizesN_take_le xs (i + 1)
    have hr : q16 k xs[i] = some (sizeN xs[i] : Int) := size_ok k xs[i] (by omega) (by omega)
    have hlen : xs.length ≤ sizesN xs := by
     clear hr h1 h2 hg ih hs hb h hlt hi
     induction xs with
     | nil => simp
     | cons x r ih => have := sizeN_pos x; simp only [sizesN, List.length_cons]; omega
    have hf : q37 (q16 k) (((1 + sizesN (xs.take i) : Nat) : Int), (⟨xs, nn⟩ : Sl Nd), Sl.len (⟨xs, nn⟩ : Sl Nd), (i : Int)) = some (.next (((1 + sizesN (xs.take (i + 1)) : Nat) : Int), (⟨xs, nn⟩ : Sl Nd), Sl.len (⟨xs, nn⟩ : Sl Nd), ((i + 1 : Nat) : Int))) := by
     show (if decide ((i : Int) < (xs.length : Int)) = true then (gidx (⟨xs, nn⟩ : Sl Nd) (i : Int)).bind _ else _) = _
     rw [if_pos (by simp; omega), hg]
     simp only [Option.bind_some, nd_eta, hr]
     rw [wrap_id (by omega) (by omega), wrap_id (by omega) (by omega), h1]
     have e1 : ((1 + sizesN (xs.take i) : Nat) : Int) + (sizeN xs[i] : Int) = ((1 + (sizesN (xs.take i) + sizeN xs[i]) : Nat) : Int) := by omega
     have e2 : (i : Int) + 1 = ((i + 1 : Nat) : Int) := by omega
     rw [e1, e2]
    rw [hf]
    exact ih (i + 1) (by omega)
  have := loop xs.length 0 (by omega)
  simp only [List.take_zero, sizesN, Nat.add_zero] at this
  rw [show (1 : Int) = ((1 : Nat) : Int) from rfl, show (0 : Int) = ((0 : Nat) : Int) from rfl, this, hs, Nat.add_comm]
  rfl
/-! the tokens -/
theorem nxt_num {l : List UInt8} {k : Int} {n : Nat} {v : Int} (h : nxt l = .tok k n v) : (0 ≤ v ∧ v ≤ 1099511627776) ∧ k ≠ 0 := by
 cases l with
 | nil => cases h
 | cons c r =>
  unfold nxt at h
  simp only at h
  split at h
  ·cases h
  split at h
  ·cases h
  split at h
  ·unfold nxNum at h
   split at h
   ·cases h
   ·rename_i hb
    cases h
    unfold numBad at hb
    simp only [Bool.or_eq_true, decide_eq_true_eq, not_or] at hb
    omega
  split at h
  ·unfold nxWord at h
   split at h
   ·cases h
   ·cases h
    refine ⟨by omega, ?_⟩
    split <;> omega
  ·unfold nxSign at h
   split at h
   ·cases h
   ·cases h; omega
theorem nxt_err {l : List UInt8} {e : Int} (h : nxt l = .err e) : e ≠ 0 := by
 cases l with
 | nil => cases h; omega
 | cons c r =>
  unfold nxt at h
  simp only at h
  split at h
  ·cases h
  split at h
  ·cases h
  split at h
  ·unfold nxNum at h; split at h <;> cases h; omega
  split at h
  ·unfold nxWord at h
   split at h
   ·cases h; omega
   ·cases h
  ·unfold nxSign at h
   split at h
   ·cases h; omega
   ·cases h
theorem lexF_num : ∀ (f at_ : Nat) (l : List UInt8) (ts : List Tk), lexF f at_ l = .inr ts → ∀ t ∈ ts, (0 ≤ t.Num_ ∧ t.Num_ ≤ 1099511627776) ∧ t.Kind_ ≠ 0
 | 0, at_, l, ts, h => by cases h; simp
 | f + 1, at_, l, ts, h => by
  unfold lexF at h
  split at h
  ·cases h; simp
  split at h
  ·exact lexF_num f _ _ ts h
  ·cases h
  ·rename_i k n v hn
   split at h
   ·cases h
   ·rename_i ts' hts
    cases h
    intro t ht
    rcases List.mem_cons.1 ht with rfl | ht
    ·exact nxt_num hn
    ·exact lexF_num f _ _ ts' hts t ht
theorem lexR_good {s : ByteArray} (h : (lexR s).2.1 = 0) : TGood (lexR s).2.2.xs ∧ (lexR s).2.2.nn = true := by
 unfold lexR at h ⊢
 by_cases hs : 16384 < s.size
 ·rw [if_pos hs] at h; simp at h
 ·rw [if_neg hs] at h ⊢
  cases e : lexT 0 (bs s) with
  | inl x =>
   rw [e] at h
   exfalso
   -- a fault has a number
   have : ∀ (f a : Nat) (l : List UInt8) (x : Nat × Int), lexF f a l = .inl x → x.2 ≠ 0 := by
    intro f
    induction f with
    | zero => intro a l x h; cases h
    | succ f ih =>
     intro a l x h
     unfold lexF at h
     split at h
     ·cases h
     split at h
     ·exact ih _ _ _ h
     ·rename_i e he
      cases h
      exact nxt_err he
     ·split at h
      ·rename_i y hy; cases h; exact ih _ _ _ hy
      ·cases h
   exact this _ _ _ _ e h
  | inr ts =>
   have hl := lexT_len (bs s).length (bs s) 0 ts (Nat.le_refl _) e
   rw [bs_len] at hl
   refine ⟨⟨by simp, fun _ => by simp, by simp; omega, fun t ht => ?_⟩, rfl⟩
   simp only [List.mem_append, List.mem_singleton] at ht
   rcases ht with ht | rfl
   ·exact (lexF_num _ _ _ _ e t ht).1
   ·simp
/-! the whole -/
def zeroN : Nd := ⟨0, lit [], 0, 0, nilS⟩
def parseR (s : ByteArray) : Nd × Int × Int := if (lexR s).2.1 ≠ 0 then (zeroN, (lexR s).1, (lexR s).2.1) else
 match declsP (lexR s).2.2.xs.length [] (lexR s).2.2.xs with
 | .error e => (zeroN, e.1, e.2)
 | .ok (ks, _) => if 4096 < sizesN ks + 1 then (zeroN, 0, 22) else (⟨0, lit [], 0, 0, mkS ks⟩, 0, 0)
noncomputable abbrev parseBody := q19 q35 qb qa q2w qc q2s q3k q4o q2z
theorem grow_set {acc : List Nd} {z a : Nd} (h : acc.length ≤ 30000) : ∃ y8 : Sl Nd, gapp 64 (mkS acc) [z] = some y8 ∧ gidx y8 (Sl.len (mkS acc)) = some z ∧ y8.set (Sl.len (mkS acc)) a = mkS (acc ++ [a]) := by
 refine ⟨_, gappS h, ?_, ?_⟩
 ·unfold gidx mkS Sl.len
  rw [if_pos (by simp)]
  simp
 ·unfold mkS Sl.len Sl.set
  cases acc <;> simp
theorem decls_loop {a0 e0 : Int} : ∀ (k : Nat) (ts : List Tk) (acc : List Nd), TGood ts → ts.length ≤ k → acc.length + ts.length ≤ 30000 →
    match declsP k acc ts with
    | .error e => ∃ st u v w, lpO parseBody ((0, lit [], 0, 0), a0, e0, (⟨ts, true⟩, 0), mkS acc) = some (.inl (e, u, v, w, st))
    | .ok (l, _) => lpO parseBody ((0, lit [], 0, 0), a0, e0, (⟨ts, true⟩, 0), mkS acc) = some (.inr ((0, lit [], 0, 0), a0, e0, mkS l))
  | 0, ts, acc, g, hk, ha => absurd (List.eq_nil_of_length_eq_zero (by omega)) g.ne
  | k + 1, ts, acc, g, hk, ha => by
    have ht := g.tail_len
    have key : ∀ z, parseBody ((0, lit [], 0, 0), a0, e0, (⟨ts, true⟩, 0), mkS acc) = some z → lpO parseBody ((0, lit [], 0, 0), a0, e0, (⟨ts, true⟩, 0), mkS acc) = (match z with | .next x' => lpO parseBody x' | .done y => some y) := fun z hz => by rw [lpO_eq, hz]; cases z <;> rfl
    unfold declsP
    by_cases h0 : (hd ts).Kind_ = 0
    · rw [if_pos h0]
      have hz : parseBody ((0, lit [], 0, 0), a0, e0, (⟨ts, true⟩, 0), mkS acc) = some (.done (.inr ((0, lit [], 0, 0), a0, e0, mkS acc))) := by
        unfold parseBody q19
        simp only [peek_ok g, Option.bind_some, decide_eq_true_eq]
        rw [if_neg (by simpa using h0)]
      exact key _ hz
    · rw [if_neg h0]
      cases e : isP [102, 110] ts with
      | true =>
        simp only [if_true]
        have s := fn_ok (g.is e) (hd ts).At_
        cases es : fnP (hd ts).At_ ts.tail with
        | error er =>
          obtain ⟨st, s⟩ := s.err es
          have hz : parseBody ((0, lit [], 0, 0), a0, e0, (⟨ts, true⟩, 0), mkS acc) = some (.done (.inl (er, (0, lit [], 0, 0), a0, e0, mkS acc))) := by
            unfold parseBody q19
            simp only [peek_ok g, Option.bind_some, decide_eq_true_eq]
            rw [if_pos h0]
            simp only [has_ok g, Option.bind_some, e, if_true, s, Sum.elim_inl]
          exact ⟨_, _, _, _, key _ hz⟩
        | ok p =>
          obtain ⟨a, t1⟩ := p
          obtain ⟨s, g1, l1⟩ := s.out es
          obtain ⟨y8, q1, q2, q3⟩ := grow_set (acc := acc) (z := ⟨0, lit [], 0, 0, Sl.mk [] false⟩) (a := a) (by omega)
          have hz : parseBody ((0, lit [], 0, 0), a0, e0, (⟨ts, true⟩, 0), mkS acc) = some (.next ((0, lit [], 0, 0), a0, e0, (⟨t1, true⟩, 0), mkS (acc ++ [a]))) := by
            unfold parseBody q19
            simp only [peek_ok g, Option.bind_some, decide_eq_true_eq]
            rw [if_pos h0]
            simp only [has_ok g, Option.bind_some, e, if_true, s, Sum.elim_inr, q1, q2, gagree_self, ndK, ndT, nd_eta, q3]
          have ih := decls_loop (a0 := a0) (e0 := e0) k t1 (acc ++ [a]) g1 (by omega) (by simp; omega)
          rw [key _ hz]
          exact ih
      | false =>
        simp only [Bool.false_eq_true, if_false]
        have s0 := must_ok (d := 0) g [116, 121, 112, 101]
        cases em : mustP [116, 121, 112, 101] ts with
        | error er =>
          obtain ⟨st, s⟩ := s0.err em
          have hz : parseBody ((0, lit [], 0, 0), a0, e0, (⟨ts, true⟩, 0), mkS acc) = some (.done (.inl (er, (0, lit [], 0, 0), a0, e0, mkS acc))) := by
            unfold parseBody q19
            simp only [peek_ok g, Option.bind_some, decide_eq_true_eq]
            rw [if_pos h0]
            simp only [has_ok g, Option.bind_some, e, Bool.false_eq_true, if_false, s, Sum.elim_inl]
          exact ⟨_, _, _, _, key _ hz⟩
        | ok p =>
          obtain ⟨u, t0⟩ := p
          obtain ⟨s, g0, l0⟩ := s0.out em
          have s1 := typ_ok (d := 0) g0 (hd ts).At_
          simp only [PR.bd]
          cases es : typP (hd ts).At_ t0 with
          | error er =>
            obtain ⟨st, s2⟩ := s1.err es
            have hz : parseBody ((0, lit [], 0, 0), a0, e0, (⟨ts, true⟩, 0), mkS acc) = some (.done (.inl (er, (0, lit [], 0, 0), a0, e0, mkS acc))) := by
              unfold parseBody q19
              simp only [peek_ok g, Option.bind_some, decide_eq_true_eq]
              rw [if_pos h0]
              simp only [has_ok g, Option.bind_some, e, Bool.false_eq_true, if_false, s, s2, Sum.elim_inr, Sum.elim_inl]
            exact ⟨_, _, _, _, key _ hz⟩
          | ok p =>
            obtain ⟨a, t1⟩ := p
            obtain ⟨s2, g1, l1⟩ := s1.out es
            obtain ⟨y8, q1, q2, q3⟩ := grow_set (acc := acc) (z := ⟨0, lit [], 0, 0, Sl.mk [] false⟩) (a := a) (by omega)
            have hz : parseBody ((0, lit [], 0, 0), a0, e0, (⟨ts, true⟩, 0), mkS acc) = some (.next ((0, lit [], 0, 0), a0, e0, (⟨t1, true⟩, 0), mkS (acc ++ [a]))) := by
              unfold parseBody q19
              simp only [peek_ok g, Option.bind_some, decide_eq_true_eq]
              rw [if_pos h0]
              simp only [has_ok g, Option.bind_some, e, Bool.false_eq_true, if_false, s, s2, Sum.elim_inr, q1, q2, gagree_self, ndK, ndT, nd_eta, q3]
            have ih := decls_loop (a0 := a0) (e0 := e0) k t1 (acc ++ [a]) g1 (by omega) (by simp; omega)
            rw [key _ hz]
            exact ih
theorem parse_ok (s : ByteArray) : q5t s = some (parseR s) := by
 show ((q35 s).bind _) = _
 rw [tokens_ok, Option.bind_some]
 unfold parseR
 simp only [decide_eq_true_eq]
 by_cases h : (lexR s).2.1 = 0
 case neg => rw [if_pos h, if_pos h]; rfl
 case pos =>
 rw [if_neg (by simpa using h), if_neg (by simpa using h)]
 obtain ⟨g, hn⟩ := lexR_good h
 generalize hx : (lexR s).2.2 = X at g hn
 obtain ⟨ts, nn⟩ := X
 simp only at g hn
 subst hn
 have lp := decls_loop (a0 := (lexR s).1) (e0 := (lexR s).2.1) ts.length ts [] g (Nat.le_refl _) (by have := g.len; simp; omega)
 have hlen := g.len
 show ((lpO parseBody ((0, lit [], 0, 0), (lexR s).1, (lexR s).2.1, ((⟨ts, true⟩ : Sl Tk), 0), mkS [])).bind _) = _
 cases e : declsP ts.length [] ts with
 | error er =>
  rw [e] at lp
  obtain ⟨st, u, v, w, lp⟩ := lp
  rw [lp]; rfl
 | ok p =>
  obtain ⟨l, t1⟩ := p
  rw [e] at lp
  simp only at lp
  rw [lp]
  have hsz := declsP_sz _ _ _ _ _ e
  simp only [sizesN] at hsz
  have hsize : q4o ⟨0, lit [], 0, 0, mkS l⟩ = some ((sizesN l + 1 : Nat) : Int) := by
   have := size_ok 100000 ⟨0, lit [], 0, 0, mkS l⟩ (by rw [sizeN_eq]; simp only [mkS]; omega) (by rw [sizeN_eq]; simp only [mkS]; omega)
   rw [sizeN_eq] at this
   exact this
  simp only [Option.bind_some, Sum.elim_inr, hsize, decide_eq_true_eq]
  by_cases hb : 4096 < sizesN l + 1
  ·rw [if_pos (by omega), if_pos hb]; rfl
  ·rw [if_neg (by omega), if_neg hb]; rfl
end Go.Px
/-! Both. -/

