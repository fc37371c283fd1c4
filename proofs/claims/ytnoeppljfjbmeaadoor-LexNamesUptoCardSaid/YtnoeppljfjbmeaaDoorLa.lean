/- Part La: Px01A Px01B Px01C Px01D Px01E Px01F Px01G. -/
import Derived.Test.YtnoeppljfjbmeaaDoorSh
import Derived.Test.YtnoeppljfjbmeaaDoorA9
/-! Chapter 1: bytes of texts; runs of bytes of one sort. -/
namespace Go.Px
set_option linter.unusedVariables false
set_option linter.unusedSimpArgs false
abbrev bs (s : ByteArray) : List UInt8 := s.data.toList
theorem bs_len (s : ByteArray) : (bs s).length = s.size := by cases s; simp [bs, ByteArray.size]
theorem bs_ext {s t : ByteArray} (h : bs s = bs t) : s = t := by
  cases s; cases t
  congr 1
  exact Array.toList_inj.1 h
theorem bs_lit (l : List UInt8) : bs (lit l) = l := rfl
theorem bs_append (s t : ByteArray) : bs (s ++ t) = bs s ++ bs t := by
  show (s ++ t).data.toList = _
  rw [ByteArray.data_append, Array.toList_append]
theorem lpO_eq {s β : Type} (f : s → Option (Step s β)) (x : s) : lpO f x = (f x).bind fun | .next x' => lpO f x' | .done y => some y := loopO_eq f x
theorem gsidx_nat {s : ByteArray} {i : Nat} {c : UInt8} (h : (bs s)[i]? = some c) : gsidx s (i : Int) = some (c.toNat : Int) := by
  unfold gsidx
  rw [if_pos (Int.natCast_nonneg i)]
  simp only [Int.toNat_natCast]
  have h : s.data.toList[i]? = some c := h
  rw [h]; rfl
theorem drop_cons {l : List UInt8} {i : Nat} (h : i < l.length) : ∃ c, l[i]? = some c ∧ l.drop i = c :: l.drop (i + 1) :=
  ⟨l[i], List.getElem?_eq_getElem h, List.drop_eq_getElem_cons h⟩
theorem bs_extract (s : ByteArray) (i j : Nat) : bs (s.extract i j) = ((bs s).take j).drop i := by
  show (s.extract i j).data.toList = _
  rw [ByteArray.data_extract]
  simp [Array.toList_extract, List.extract, List.take_drop]
  by_cases h : i ≤ j
  · rw [Nat.add_sub_cancel' h]
  · have h1 : j - i = 0 := by omega
    rw [h1]
    simp
    omega
theorem gsslice_nat {s : ByteArray} {i j : Nat} (h1 : i ≤ j) (h2 : j ≤ s.size) : gsslice s (i : Int) (j : Int) = some (s.extract i j) := by
  unfold gsslice
  rw [if_pos ⟨Int.natCast_nonneg i, Int.ofNat_le.2 h1, Int.ofNat_le.2 h2⟩]
  rfl
theorem wrap_nat {n : Nat} (h : n < 9223372036854775808) : IntKind.i64.wrap (n : Int) = n := wrap_id (by omega) (by omega)
theorem wrap_add {n k : Nat} (h : n + k < 9223372036854775808) : IntKind.i64.wrap ((n : Int) + (k : Int)) = ((n + k : Nat) : Int) := by
  rw [wrap_id (by omega) (by omega)]; simp
theorem wrap_one {n : Nat} (h : n + 1 < 9223372036854775808) : IntKind.i64.wrap ((n : Int) + 1) = ((n + 1 : Nat) : Int) := by
  rw [wrap_id (by omega) (by omega)]; simp
/-- how many bytes of a sort stand at the beginning -/
def nrun (p : UInt8 → Bool) (l : List UInt8) : Nat := (l.takeWhile p).length
theorem nrun_nil (p : UInt8 → Bool) : nrun p [] = 0 := rfl
theorem nrun_cons (p : UInt8 → Bool) (c : UInt8) (l : List UInt8) : nrun p (c :: l) = if p c then nrun p l + 1 else 0 := by
  unfold nrun; rw [List.takeWhile_cons]; split <;> simp
theorem nrun_le (p : UInt8 → Bool) : ∀ l : List UInt8, nrun p l ≤ l.length
  | [] => Nat.le_refl _
  | c :: l => by rw [nrun_cons]; split <;> simp; exact nrun_le p l
def isL (b : UInt8) : Bool := (decide (97 ≤ b.toNat) && decide (b.toNat ≤ 122)) || decide (b.toNat = 95)
def isD (b : UInt8) : Bool := decide (48 ≤ b.toNat) && decide (b.toNat ≤ 57)
def isW (b : UInt8) : Bool := isL b || isD b
def notNl (b : UInt8) : Bool := decide (b.toNat ≠ 10)
theorem digit_ok (b : UInt8) : m_lex_digit (b.toNat : Int) = some (isD b) := by
  simp only [m_lex_digit, m_lex_digit', isD, decide_eq_true_eq]
  split
  · rename_i h
    have : 48 ≤ b.toNat := by omega
    simp [this]; omega
  · rename_i h
    have : ¬ 48 ≤ b.toNat := by omega
    simp [this]
theorem letter_ok (b : UInt8) : m_lex_letter (b.toNat : Int) = some (isL b) := by
  simp only [m_lex_letter, m_lex_letter', isL, decide_eq_true_eq]
  have e1 : (97 ≤ (b.toNat : Int)) ↔ 97 ≤ b.toNat := by omega
  have e2 : ((b.toNat : Int) ≤ 122) ↔ b.toNat ≤ 122 := by omega
  have e3 : ((b.toNat : Int) = 95) ↔ b.toNat = 95 := by omega
  simp only [e1, e2, e3]
  by_cases h1 : 97 ≤ b.toNat <;> by_cases h2 : b.toNat ≤ 122 <;> simp [h1, h2]
theorem within_ok (b : UInt8) : m_lex_within (b.toNat : Int) = some (isW b) := by
  simp only [m_lex_within, m_lex_within', letter_ok, digit_ok, isW, Option.bind_some]
  cases isL b <;> simp
theorem notnl_ok (b : UInt8) : m_lex_Tokens_1 (b.toNat : Int) = some (notNl b) := by
  simp only [m_lex_Tokens_1, m_lex_Tokens_1', notNl]
  congr 1
  exact decide_eq_decide.2 (by omega)
theorem run_loop {f : Int → Option Bool} {p : UInt8 → Bool} (hf : ∀ c : UInt8, f (c.toNat : Int) = some (p c)) {s : ByteArray} (hs : s.size < 4611686018427387904) :
    ∀ (n i : Nat), s.size - i = n → i ≤ s.size → lpO (l0_lex_run_digit f) (s, (i : Int)) = some ((i + nrun p ((bs s).drop i) : Nat) : Int)
  | 0, i, hn, hi => by
    have : i = s.size := by omega
    subst this
    rw [lpO_eq]
    simp [l0_lex_run_digit, List.drop_eq_nil_of_le, bs_len, nrun_nil]
  | n + 1, i, hn, hi => by
    have hlt : i < s.size := by omega
    obtain ⟨c, hc, hd⟩ := drop_cons (l := bs s) (i := i) (by rw [bs_len]; exact hlt)
    rw [lpO_eq]
    simp only [l0_lex_run_digit, decide_eq_true_eq]
    rw [if_pos (Int.ofNat_lt.2 hlt), gsidx_nat hc]
    simp only [Option.bind_some, hf]
    rw [hd, nrun_cons]
    cases hp : p c with
    | true =>
      simp only [if_true, Option.bind_some]
      rw [wrap_one (by omega), run_loop hf hs n (i + 1) (by omega) (by omega)]
      congr 2
      omega
    | false => simp
theorem run_digit {s : ByteArray} {i : Nat} (hs : s.size < 4611686018427387904) (hi : i ≤ s.size) : m_lex_run_digit (s, (i : Int)) = some ((i + nrun isD ((bs s).drop i) : Nat) : Int) := by
  show (lpO (l0_lex_run_digit m_lex_digit) (s, (i : Int))).bind some = _
  rw [run_loop digit_ok hs _ i rfl hi]; rfl
theorem run_within {s : ByteArray} {i : Nat} (hs : s.size < 4611686018427387904) (hi : i ≤ s.size) : m_lex_run_within (s, (i : Int)) = some ((i + nrun isW ((bs s).drop i) : Nat) : Int) := by
  show (lpO (l0_lex_run_digit m_lex_within) (s, (i : Int))).bind some = _
  rw [run_loop within_ok hs _ i rfl hi]; rfl
theorem run_notnl {s : ByteArray} {i : Nat} (hs : s.size < 4611686018427387904) (hi : i ≤ s.size) : m_lex_run_Tokens1 (s, (i : Int)) = some ((i + nrun notNl ((bs s).drop i) : Nat) : Int) := by
  show (lpO (l0_lex_run_digit m_lex_Tokens_1) (s, (i : Int))).bind some = _
  rw [run_loop notnl_ok hs _ i rfl hi]; rfl
end Go.Px
/-! Chapter 1: the tokens of a text, as plain Lean. -/
namespace Go.Px
set_option linter.unusedVariables false
set_option linter.unusedSimpArgs false
def isKey (l : List UInt8) : Bool := decide (l = [116, 121, 112, 101]) || (decide (l = [102, 110]) || (decide (l = [111, 119, 110]) || (decide (l = [99, 101, 108, 108]) || (decide (l = [99, 111, 117, 110, 116, 101, 100]) || (decide (l = [108, 111, 99, 107]) || (decide (l = [103, 117, 97, 114, 100]) || (decide (l = [119, 104, 101, 114, 101]) || (decide (l = [105, 110, 116]) || (decide (l = [109, 117, 116]) || (decide (l = [102, 114, 101, 101]) || (decide (l = [117, 110, 108, 111, 99, 107]) || (decide (l = [105, 102]) || (decide (l = [101, 108, 115, 101]) || (decide (l = [119, 104, 105, 108, 101]) || (decide (l = [114, 101, 116, 117, 114, 110]) || (decide (l = [97, 98, 111, 114, 116]) || (decide (l = [102, 111, 114, 107]) || (decide (l = [110, 101, 119]) || (decide (l = [97, 114, 114, 97, 121]))))))))))))))))))))
theorem key_step {p : Prop} [Decidable p] {X : Option Bool} {b : Bool} (h : X = some b) : (if decide p = true then some (decide p) else X) = some (decide p || b) := by
  subst h
  by_cases hp : p <;> simp [hp]
theorem key_bind {X : Option Bool} {b : Bool} (h : X = some b) : (X.bind fun y => some y) = some b := by subst h; rfl
theorem key_top {X : Option Bool} {b : Bool} (h : X = some b) : (X.bind fun y => if y = true then some true else some false) = some b := by subst h; cases b <;> rfl
theorem lit_dec (s : ByteArray) (l : List UInt8) : decide (s = lit l) = decide (bs s = l) := by
  refine decide_eq_decide.2 ⟨fun h => by rw [h]; rfl, fun h => bs_ext h⟩
theorem key_ok (s : ByteArray) : m_lex_IsKey s = some (isKey (bs s)) := by
  simp only [m_lex_IsKey, m_lex_IsKey', isKey, ← lit_dec]
  refine key_top ?_
  repeat (first | exact rfl | apply key_step | apply key_bind)
theorem key_lit (l : List UInt8) : m_lex_IsKey (lit l) = some (isKey l) := key_ok (lit l)
/-- the number that digits spell -/
def numF (a : Nat) : List UInt8 → Nat
  | [] => a
  | c :: r => numF (a * 10 + (c.toNat - 48)) r
def numVal (l : List UInt8) : Nat := numF 0 l
theorem numF_ge : ∀ (l : List UInt8) (a : Nat), a ≤ numF a l
  | [], a => Nat.le_refl _
  | c :: r, a => Nat.le_trans (by omega) (numF_ge r _)
def sgn (c : UInt8) : Bool := [123, 125, 40, 41, 91, 93, 44, 58, 59, 61, 43, 45, 38, 60].contains c
def two (l : List UInt8) : Bool := decide (l.take 2 = [45, 62]) || (decide (l.take 2 = [60, 61]) || decide (l.take 2 = [61, 61]))
/-- how long the sign is that begins a text; 0: none -/
def signLen (l : List UInt8) : Nat := if two l then 2 else match l with
  | [] => 0
  | c :: _ => if sgn c then 1 else 0
/-- what begins a text -/
inductive Nx where
  | skip (n : Nat)
  | tok (k : Int) (n : Nat) (v : Int)
  | err (e : Int)
/-- is there a letter at the place? -/
def letterAt : Option UInt8 → Bool
  | some c => isL c
  | none => false
def numBad (l : List UInt8) : Bool := decide (1099511627776 < numVal (l.take (nrun isD l))) || ((decide (1 < nrun isD l) && decide (l.head? = some 48)) || letterAt l[nrun isD l]?)
def nxNum (l : List UInt8) : Nx := if numBad l then .err 12 else .tok 3 (nrun isD l) (numVal (l.take (nrun isD l)))
def nxWord (l : List UInt8) : Nx := if 16 < nrun isW l then .err 13 else .tok (if isKey (l.take (nrun isW l)) then 2 else 1) (nrun isW l) 0
def nxSign (l : List UInt8) : Nx := if signLen l = 0 then .err 11 else .tok 4 (signLen l) 0
def nxt (l : List UInt8) : Nx := match l with
  | [] => .err 11
  | c :: r => if c.toNat = 32 ∨ c.toNat = 10 then .skip 1 else if c.toNat = 35 then .skip (nrun notNl (c :: r)) else if isD c then nxNum (c :: r) else if isL c then nxWord (c :: r) else nxSign (c :: r)
def lexF : Nat → Nat → List UInt8 → (Nat × Int) ⊕ List T_lex_Token
  | 0, _, _ => .inr []
  | f + 1, at_, l => if l.isEmpty then .inr [] else match nxt l with
    | .skip n => lexF f (at_ + n) (l.drop n)
    | .err e => .inl (at_, e)
    | .tok k n v => match lexF f (at_ + n) (l.drop n) with
      | .inl x => .inl x
      | .inr ts => .inr (⟨k, lit (l.take n), v, at_⟩ :: ts)
/-- the tokens of a text that begins at a place, but for the end; or the fault -/
def lexT (at_ : Nat) (l : List UInt8) : (Nat × Int) ⊕ List T_lex_Token := lexF l.length at_ l
theorem signLen_le (l : List UInt8) : signLen l ≤ l.length := by
  unfold signLen
  split
  · rename_i h
    unfold two at h
    match l with
    | [] => simp at h
    | [a] => simp at h
    | a :: b :: r => simp
  · match l with
    | [] => simp
    | a :: r => simp only; split <;> simp
def NxOK (m : Nat) : Nx → Prop
  | .skip n => 1 ≤ n ∧ n ≤ m
  | .tok _ n _ => 1 ≤ n ∧ n ≤ m
  | .err _ => True
theorem nxt_pos {l : List UInt8} (h : l ≠ []) : NxOK l.length (nxt l) := by
  match l, h with
  | c :: r, _ =>
    show NxOK (c :: r).length (if c.toNat = 32 ∨ c.toNat = 10 then .skip 1 else if c.toNat = 35 then .skip (nrun notNl (c :: r)) else if isD c then nxNum (c :: r) else if isL c then nxWord (c :: r) else nxSign (c :: r))
    split
    · exact ⟨by omega, by simp⟩
    · rename_i h1
      split
      · rename_i h2
        refine ⟨?_, nrun_le _ _⟩
        rw [nrun_cons]
        have : notNl c = true := by unfold notNl; simp; omega
        simp [this]
      · split
        · rename_i hd
          unfold nxNum
          cases numBad (c :: r) with
          | true => trivial
          | false =>
            refine ⟨?_, nrun_le _ _⟩
            rw [nrun_cons]; simp [hd]
        · split
          · rename_i hl
            unfold nxWord
            split
            · trivial
            · refine ⟨?_, nrun_le _ _⟩
              rw [nrun_cons]; simp [isW, hl]
          · unfold nxSign
            split
            · trivial
            · exact ⟨by omega, signLen_le _⟩
theorem lexF_fuel : ∀ (f : Nat) (l : List UInt8) (at_ : Nat) (g : Nat), l.length ≤ f → l.length ≤ g → lexF f at_ l = lexF g at_ l
  | 0, l, at_, g, h, hg => by
    have : l = [] := List.eq_nil_of_length_eq_zero (by omega)
    subst this
    cases g <;> rfl
  | f + 1, l, at_, g, h, hg => by
    match l with
    | [] => cases g <;> rfl
    | c :: r =>
      match g, hg with
      | g + 1, hg =>
        have hp := nxt_pos (l := c :: r) (by simp)
        unfold lexF
        simp only [List.isEmpty_cons, Bool.false_eq_true, if_false]
        cases hn : nxt (c :: r) with
        | err e => rfl
        | skip n =>
          rw [hn] at hp
          simp only [NxOK] at hp ⊢
          exact lexF_fuel f _ _ g (by rw [List.length_drop]; simp only [List.length_cons] at *; omega) (by rw [List.length_drop]; simp only [List.length_cons] at *; omega)
        | tok k n v =>
          rw [hn] at hp
          simp only [NxOK] at hp ⊢
          rw [lexF_fuel f ((c :: r).drop n) _ g (by rw [List.length_drop]; simp only [List.length_cons] at *; omega) (by rw [List.length_drop]; simp only [List.length_cons] at *; omega)]
theorem lexT_nil (at_ : Nat) : lexT at_ [] = .inr [] := rfl
theorem lexT_cons (at_ : Nat) {l : List UInt8} (h : l ≠ []) : lexT at_ l = match nxt l with
    | .skip n => lexT (at_ + n) (l.drop n)
    | .err e => .inl (at_, e)
    | .tok k n v => match lexT (at_ + n) (l.drop n) with
      | .inl x => .inl x
      | .inr ts => .inr (⟨k, lit (l.take n), v, at_⟩ :: ts) := by
  match l, h with
  | c :: r, _ =>
    have hp := nxt_pos (l := c :: r) (by simp)
    unfold lexT
    show lexF (r.length + 1) at_ (c :: r) = _
    rw [lexF]
    simp only [List.isEmpty_cons, Bool.false_eq_true, if_false]
    cases hn : nxt (c :: r) with
    | err e => rfl
    | skip n =>
      rw [hn] at hp
      simp only [NxOK] at hp ⊢
      exact lexF_fuel _ _ _ _ (by rw [List.length_drop]; simp only [List.length_cons] at *; omega) (Nat.le_refl _)
    | tok k n v =>
      rw [hn] at hp
      simp only [NxOK] at hp ⊢
      rw [lexF_fuel r.length ((c :: r).drop n) _ ((c :: r).drop n).length (by rw [List.length_drop]; simp only [List.length_cons] at *; omega) (Nat.le_refl _)]
end Go.Px
/-! Chapter 1: what the program's functions find. -/
namespace Go.Px
set_option linter.unusedVariables false
set_option linter.unusedSimpArgs false
theorem take_nrun (p : UInt8 → Bool) : ∀ l : List UInt8, l.take (nrun p l) = l.takeWhile p
  | [] => rfl
  | c :: l => by
    rw [nrun_cons, List.takeWhile_cons]
    cases p c with
    | true => simp [take_nrun p l]
    | false => simp
theorem all_run (p : UInt8 → Bool) (l : List UInt8) : ∀ c ∈ l.take (nrun p l), p c = true := by
  rw [take_nrun]
  induction l with
  | nil => simp
  | cons a l ih =>
    rw [List.takeWhile_cons]
    cases h : p a with
    | true => simpa [h] using ih
    | false => simp
theorem drop_len {s : ByteArray} {i : Nat} {l : List UInt8} (h : (bs s).drop i = l) (hl : l ≠ []) : i < s.size ∧ l.length = s.size - i := by
  subst h
  rw [List.length_drop, bs_len]
  refine ⟨?_, rfl⟩
  rcases Nat.lt_or_ge i s.size with h | h
  · exact h
  · exact absurd (List.drop_eq_nil_of_le (by rw [bs_len]; exact h)) hl
theorem cut_ok {s : ByteArray} {i n : Nat} {l : List UInt8} (h : (bs s).drop i = l) (hl : l ≠ []) (hn : n ≤ l.length) : gsslice s (i : Int) ((i + n : Nat) : Int) = some (lit (l.take n)) := by
  obtain ⟨h1, h2⟩ := drop_len h hl
  rw [gsslice_nat (by omega) (by omega)]
  congr 1
  apply bs_ext
  rw [bs_extract, bs_lit, ← h, List.take_drop]
theorem byte_ok {s : ByteArray} {i n : Nat} {l : List UInt8} (h : (bs s).drop i = l) {c : UInt8} (hc : l[n]? = some c) : gsidx s ((i + n : Nat) : Int) = some (c.toNat : Int) := by
  apply gsidx_nat
  rw [← h, List.getElem?_drop] at hc
  exact hc
theorem size_lit (l : List UInt8) : (lit l).size = l.length := by rw [← bs_len, bs_lit]
theorem parse_digits {M : Nat} (hM : M = 18446744073709551615) : ∀ (l : List UInt8) (a : Nat), (∀ c ∈ l, isD c = true) → a ≤ M → Lib.parseUintM M a l = if numF a l ≤ M then .ok (numF a l) else .range
  | [], a, _, ha => by rw [if_pos (show numF a [] ≤ M from ha)]; rfl
  | c :: r, a, h, ha => by
    have hc := h c (by simp)
    simp only [isD, Bool.and_eq_true, decide_eq_true_eq] at hc
    have hge := numF_ge r (a * 10 + (c.toNat - 48))
    have e : numF a (c :: r) = numF (a * 10 + (c.toNat - 48)) r := rfl
    rw [e]
    unfold Lib.parseUintM
    rw [if_pos hc]
    split
    · rw [if_neg (by omega)]
    · split
      · rw [if_neg (by omega)]
      · exact parse_digits hM r _ (fun x hx => h x (by simp [hx])) (by omega)
theorem parse_num {l : List UInt8} (hl : l ≠ []) (h : ∀ c ∈ l, isD c = true) : Lib.parseIntB 64 l = if numVal l < 9223372036854775808 then .ok (numVal l : Int) else .range := by
  match l, hl with
  | c :: r, _ =>
    have hc := h c (by simp)
    simp only [isD, Bool.and_eq_true, decide_eq_true_eq] at hc
    have e43 : ¬ (c.toNat = 43 ∨ c.toNat = 45) := by omega
    have e45 : ¬ c.toNat = 45 := by omega
    unfold Lib.parseIntB Lib.parseUintB
    simp only
    rw [if_neg e43, if_neg (by simp)]
    generalize hM : (2 ^ 64 - 1 : Nat) = M
    generalize hB : (2 ^ (64 - 1) : Nat) = B
    have hM : M = 18446744073709551615 := by rw [← hM]
    have hB : B = 9223372036854775808 := by rw [← hB]
    rw [parse_digits hM _ _ h (by omega)]
    simp only [e45, false_and, not_false_eq_true, true_and, if_false]
    show (match (if numVal (c :: r) ≤ M then Lib.NumEnd.ok (numVal (c :: r)) else .range) with
      | .syntax => Lib.NumEnd.syntax
      | .range => .range
      | .ok u => if B ≤ u then .range else .ok (u : Int)) = _
    by_cases h1 : numVal (c :: r) ≤ M
    · rw [if_pos h1]
      simp only
      by_cases h2 : numVal (c :: r) < 9223372036854775808
      · rw [if_pos h2, if_neg (by omega)]
      · rw [if_neg h2, if_pos (by omega)]
    · rw [if_neg h1, if_neg (by omega)]
abbrev tk0 : T_lex_Token := ⟨0, lit [], 0, 0⟩
theorem number_ok {s : ByteArray} {i : Nat} {c : UInt8} {r : List UInt8} (hs : s.size ≤ 16384) (hl : (bs s).drop i = c :: r) (hd : isD c = true) :
    m_lex_number (s, (i : Int), ((i + nrun isD (c :: r) : Nat) : Int)) = some (if numBad (c :: r) then (tk0, 12) else (⟨3, lit ((c :: r).take (nrun isD (c :: r))), (numVal ((c :: r).take (nrun isD (c :: r))) : Nat), i⟩, 0)) := by
  obtain ⟨h1, h2⟩ := drop_len hl (by simp)
  have hn := nrun_le isD (c :: r)
  have hn1 : 1 ≤ nrun isD (c :: r) := by rw [nrun_cons]; simp [hd]
  generalize hN : nrun isD (c :: r) = n at *
  have hall := all_run isD (c :: r)
  rw [hN] at hall
  have hne : (c :: r).take n ≠ [] := by
    match n, hn1 with
    | n + 1, _ => simp
  have hlen : ((c :: r).take n).length = n := by rw [List.length_take]; omega
  have hhead : ((c :: r).take n)[0]? = some c := by
    match n, hn1 with
    | n + 1, _ => simp
  have hlast : ∀ (X Y : Option (T_lex_Token × Int)), (if decide (((i + n : Nat) : Int) < (s.size : Int)) = true then (gsidx s ((i + n : Nat) : Int)).bind fun y => (m_lex_letter y).bind fun z => if z = true then X else Y else Y) = if letterAt (c :: r)[n]? = true then X else Y := by
    intro X Y
    by_cases hb : i + n < s.size
    · have : n < (c :: r).length := by omega
      have hg := List.getElem?_eq_getElem this
      generalize (c :: r)[n] = b at hg
      rw [byte_ok hl hg, hg]
      simp only [decide_eq_true_eq, Option.bind_some, letter_ok]
      rw [if_pos (Int.ofNat_lt.2 hb)]
      rfl
    · have : (c :: r)[n]? = none := List.getElem?_eq_none (by omega)
      rw [this]
      simp only [decide_eq_true_eq]
      rw [if_neg (fun h => hb (Int.ofNat_lt.1 h))]
      rfl
  unfold m_lex_number m_lex_number'
  rw [show ((s, (i : Int), ((i + n : Nat) : Int)) : ByteArray × Int × Int).fst = s from rfl]
  simp only
  rw [cut_ok hl (by simp) (by omega)]
  simp only [Option.bind_some, m_strconv_ParseInt, libParseInt, true_and]
  rw [if_pos (by rw [size_lit, hlen]; omega), show (lit ((c :: r).take n)).data.toList = (c :: r).take n from rfl, parse_num hne hall]
  by_cases hv : numVal ((c :: r).take n) < 9223372036854775808
  · rw [if_pos hv]
    simp only [Option.bind_some, Sum.elim_inl]
    unfold numBad
    rw [hN]
    by_cases h40 : 1099511627776 < numVal ((c :: r).take n)
    · simp only [decide_eq_true_eq]
      rw [if_pos (by omega)]
      simp [h40]
    · simp only [decide_eq_true_eq]
      rw [if_neg (by omega), size_lit, hlen]
      have hl2 := hlast (some (T_lex_Token.mk 0 (lit []) 0 0, 12)) (some (T_lex_Token.mk 3 (lit ((c :: r).take n)) (numVal ((c :: r).take n) : Nat) i, 0))
      simp only [decide_eq_true_eq] at hl2
      have e0 : gsidx (lit ((c :: r).take n)) 0 = some (c.toNat : Int) := gsidx_nat (i := 0) hhead
      by_cases h1n : 1 < n
      · rw [if_pos (by omega), e0]
        simp only [Option.bind_some]
        by_cases h48 : c.toNat = 48
        · rw [if_pos (by omega)]
          have : c = 48 := UInt8.toNat_inj.1 (by simpa using h48)
          simp [h40, h1n, this]
        · rw [if_neg (by omega), hl2]
          have : ¬ c = 48 := fun h => h48 (by rw [h]; rfl)
          simp only [h40, h1n, this, decide_true, decide_false, List.head?_cons, Option.some.injEq, Bool.and_false, Bool.false_or]
          cases letterAt (c :: r)[n]? <;> rfl
      · rw [if_neg (by omega), hl2]
        simp only [h40, h1n, decide_false, Bool.false_and, Bool.false_or]
        cases letterAt (c :: r)[n]? <;> rfl
  · rw [if_neg hv]
    simp only [Option.bind_some, Sum.elim_inr]
    unfold numBad
    rw [hN]
    have h40 : 1099511627776 < numVal ((c :: r).take n) := by omega
    simp [h40]
theorem word_ok {s : ByteArray} {i : Nat} {l : List UInt8} {n : Nat} (hs : s.size ≤ 16384) (hl : (bs s).drop i = l) (hne : l ≠ []) (hn : n ≤ l.length) :
    m_lex_word (s, (i : Int), ((i + n : Nat) : Int)) = some (if 16 < n then (tk0, 13) else (⟨if isKey (l.take n) then 2 else 1, lit (l.take n), 0, i⟩, 0)) := by
  unfold m_lex_word m_lex_word'
  simp only
  rw [cut_ok hl hne hn]
  have hlen : (l.take n).length = n := by rw [List.length_take]; omega
  simp only [Option.bind_some, size_lit, hlen, decide_eq_true_eq, key_lit]
  by_cases h : 16 < n
  · rw [if_pos (by omega), if_pos h]
  · rw [if_neg (by omega), if_neg h]
    by_cases hk : isKey (l.take n) = true
    · rw [if_pos hk, if_pos hk]; rfl
    · rw [if_neg hk, if_neg hk]; rfl
end Go.Px
/-! Chapter 1: the program's tokens are those of the plain Lean. -/
namespace Go.Px
set_option linter.unusedVariables false
set_option linter.unusedSimpArgs false
theorem prefix_ok (l : List UInt8) (a b : UInt8) : m_strings_HasPrefix (lit l, lit [a, b]) = some (decide (l.take 2 = [a, b])) := by
  show ((m_internal_stringslite_HasPrefix' (lit l, lit [a, b])).bind fun y => some y) = _
  unfold m_internal_stringslite_HasPrefix'
  simp only [size_lit, List.length_cons, List.length_nil, decide_eq_true_eq]
  by_cases h : 2 ≤ l.length
  · rw [if_pos (by omega)]
    have : gsslice (lit l) 0 ((2 : Nat) : Int) = some (lit (l.take 2)) := by
      have := cut_ok (s := lit l) (i := 0) (n := 2) (l := l) rfl (by intro e; subst e; simp at h) h
      simpa using this
    rw [show ((0 + 1 + 1 : Nat) : Int) = ((2 : Nat) : Int) from rfl, this]
    simp only [Option.bind_some]
    congr 1
    refine decide_eq_decide.2 ⟨fun h => ?_, fun h => by rw [h]⟩
    have := congrArg bs h
    simpa [bs_lit] using this
  · rw [if_neg (by omega)]
    have : l.take 2 ≠ [a, b] := by
      intro e
      have := congrArg List.length e
      rw [List.length_take] at this
      simp at this; omega
    simp [this]
theorem indexByte_nonneg : ∀ (l : List UInt8) (c : UInt8), (0 ≤ Lib.indexByte l c) ↔ l.contains c = true
  | [], c => by simp [Lib.indexByte]
  | b :: l, c => by
    have ih := indexByte_nonneg l c
    have hg := Lib.indexByte_ge l c
    unfold Lib.indexByte
    by_cases h : b = c
    · subst h; simp
    · have h' : (b == c) = false := by simpa using h
      have h2 : (c == b) = false := by simpa using fun e => h e.symm
      simp only [h', Bool.false_eq_true, if_false, List.contains_cons, h2, Bool.false_or]
      rw [← ih]
      by_cases e : Lib.indexByte l c = -1
      · rw [if_pos (by simpa using e)]; omega
      · rw [if_neg (by simpa using e)]; omega
theorem sign_ok {l : List UInt8} (hne : l ≠ []) : m_lex_sign (lit l) = some (lit (l.take (signLen l))) := by
  show (lpO (l0_lex_sign m_strings_HasPrefix m_strings_IndexByte) (lit l, (lit [45, 62], lit [60, 61], lit [61, 61]), 0)).bind _ = _
  have w1 : IntKind.i64.wrap (0 + 1) = 1 := by decide
  have w2 : IntKind.i64.wrap (1 + 1) = 2 := by decide
  have w3 : IntKind.i64.wrap (2 + 1) = 3 := by decide
  have g0 : ∀ A B C : ByteArray, gnth [A, B, C] 0 = some A := fun _ _ _ => rfl
  have g1 : ∀ A B C : ByteArray, gnth [A, B, C] 1 = some B := fun _ _ _ => rfl
  have g2 : ∀ A B C : ByteArray, gnth [A, B, C] 2 = some C := fun _ _ _ => rfl
  have two_take : two l = true → l.take 2 = [45, 62] ∨ l.take 2 = [60, 61] ∨ l.take 2 = [61, 61] := by
    intro h; simpa [two] using h
  have loop : lpO (l0_lex_sign m_strings_HasPrefix m_strings_IndexByte) (lit l, (lit [45, 62], lit [60, 61], lit [61, 61]), 0) = some (if two l then .inl (lit (l.take 2)) else .inr (lit l)) := by
    rw [lpO_eq]
    simp only [l0_lex_sign, prefix_ok, Option.bind_some, g0, w1]
    by_cases h1 : l.take 2 = [45, 62]
    · simp [h1, two]
    · simp only [h1, decide_false, Bool.false_eq_true, if_false, Option.bind_some]
      rw [show decide ((0 : Int) < 3) = true from rfl]
      simp only [if_true, Option.bind_some]
      rw [lpO_eq]
      simp only [l0_lex_sign, prefix_ok, Option.bind_some, g1, w2]
      rw [show decide ((1 : Int) < 3) = true from rfl]
      by_cases h2 : l.take 2 = [60, 61]
      · simp [h2, two]
      · simp only [h2, decide_false, Bool.false_eq_true, if_false, Option.bind_some, if_true]
        rw [lpO_eq]
        simp only [l0_lex_sign, prefix_ok, Option.bind_some, g2, w3]
        rw [show decide ((2 : Int) < 3) = true from rfl]
        by_cases h3 : l.take 2 = [61, 61]
        · simp [h3, two]
        · simp only [h3, decide_false, Bool.false_eq_true, if_false, Option.bind_some, if_true]
          rw [lpO_eq]
          simp only [l0_lex_sign]
          rw [show decide ((3 : Int) < 3) = false from rfl]
          simp [two, h1, h2, h3]
  rw [loop]
  unfold signLen
  by_cases ht : two l = true
  · rw [if_pos ht, if_pos ht]; rfl
  · rw [if_neg ht, if_neg ht]
    match l, hne with
    | c :: r, _ =>
      have e0 : gsidx (lit (c :: r)) 0 = some (c.toNat : Int) := gsidx_nat (i := 0) rfl
      have e1 : gsslice (lit (c :: r)) 0 1 = some (lit [c]) := by
        have := cut_ok (s := lit (c :: r)) (i := 0) (n := 1) (l := c :: r) rfl (by simp) (by simp)
        simpa using this
      simp only [Option.bind_some, Sum.elim_inr]
      rw [e0, e1]
      simp only [Option.bind_some, m_strings_IndexByte, libIndexByte, Int.toNat_natCast]
      have hb : (0 ≤ Lib.indexByte (lit [123, 125, 40, 41, 91, 93, 44, 58, 59, 61, 43, 45, 38, 60]).data.toList c.toNat.toUInt8) ↔ sgn c = true := by
        have : c.toNat.toUInt8 = c := by simp [Nat.toUInt8]
        rw [this]
        exact indexByte_nonneg _ c
      by_cases hs : sgn c = true
      · rw [if_pos (decide_eq_true (hb.2 hs)), if_pos hs]; rfl
      · rw [if_neg (fun h => hs (hb.1 (of_decide_eq_true h))), if_neg hs]; rfl
noncomputable abbrev progStep := l0_lex_Tokens m_lex_run_Tokens1 m_lex_digit m_lex_run_digit m_lex_number m_lex_letter m_lex_run_within m_lex_word m_lex_sign
theorem step_ok {s : ByteArray} {i : Nat} {l : List UInt8} (hs : s.size ≤ 16384) (hl : (bs s).drop i = l) (hne : l ≠ []) (out : Sl T_lex_Token) :
    progStep (s, (i : Int), out) = match nxt l with
      | .skip n => some (.next (s, ((i + n : Nat) : Int), out))
      | .err e => some (.done (.inl ((i : Int), e)))
      | .tok k n v => (gapp 40 out [⟨k, lit (l.take n), v, i⟩]).bind fun o => some (.next (s, ((i + n : Nat) : Int), o)) := by
  obtain ⟨h1, h2⟩ := drop_len hl hne
  match l, hne with
  | c :: r, _ =>
    have hc : gsidx s (i : Int) = some (c.toNat : Int) := byte_ok (n := 0) hl rfl
    have hpos := nxt_pos (l := c :: r) (by simp)
    simp only [progStep, l0_lex_Tokens]
    rw [if_pos (decide_eq_true (Int.ofNat_lt.2 h1)), hc]
    simp only [Option.bind_some]
    have e32 : ((c.toNat : Int) = 32) ↔ c.toNat = 32 := by omega
    have e10 : ((c.toNat : Int) = 10) ↔ c.toNat = 10 := by omega
    have e35 : ((c.toNat : Int) = 35) ↔ c.toNat = 35 := by omega
    have rest : ∀ (k : Int) (n : Nat) (v : Int), n ≤ (c :: r).length → (gapp 40 out [⟨k, lit ((c :: r).take n), v, i⟩]).bind (fun o => some (Step.next (β := Int × Int ⊕ ByteArray × Sl T_lex_Token) (s, IntKind.i64.wrap ((i : Int) + ((lit ((c :: r).take n)).size : Int)), o))) = (gapp 40 out [⟨k, lit ((c :: r).take n), v, i⟩]).bind fun o => some (.next (s, ((i + n : Nat) : Int), o)) := by
      intro k n v hn
      have hz : (lit ((c :: r).take n)).size = n := by rw [size_lit, List.length_take]; omega
      rw [hz, wrap_add (by omega)]
    unfold nxt at hpos ⊢
    simp only at hpos ⊢
    by_cases hb : c.toNat = 32 ∨ c.toNat = 10
    · rw [if_pos hb]
      simp only
      rcases hb with hb | hb
      · rw [if_pos (decide_eq_true (e32.2 hb))]
        simp [wrap_one (n := i) (by omega)]
      · have : ¬ c.toNat = 32 := by omega
        rw [if_neg (fun h => this (e32.1 (of_decide_eq_true h)))]
        simp only [Option.bind_some, decide_eq_true_eq]
        rw [if_pos (e10.2 hb)]
        simp [wrap_one (n := i) (by omega)]
    · rw [if_neg hb] at hpos ⊢
      have n32 : ¬ c.toNat = 32 := fun h => hb (.inl h)
      have n10 : ¬ c.toNat = 10 := fun h => hb (.inr h)
      rw [if_neg (fun h => n32 (e32.1 (of_decide_eq_true h)))]
      simp only [Option.bind_some, decide_eq_true_eq]
      rw [if_neg (fun h => n10 (e10.1 h))]
      by_cases h35 : c.toNat = 35
      · rw [if_pos (e35.2 h35), if_pos h35, run_notnl (by omega) (by omega), hl]
        simp
      · rw [if_neg (fun h => h35 (e35.1 h))]
        rw [if_neg h35] at hpos ⊢
        simp only [digit_ok, letter_ok, Option.bind_some]
        by_cases hd : isD c = true
        · rw [if_pos hd] at hpos
          rw [if_pos hd, if_pos hd, run_digit (by omega) (by omega), hl]
          simp only [Option.bind_some]
          rw [number_ok hs hl hd]
          unfold nxNum at hpos ⊢
          by_cases hbad : numBad (c :: r) = true
          · rw [if_pos hbad, if_pos hbad]
            simp
          · rw [if_neg hbad] at hpos
            rw [if_neg hbad, if_neg hbad]
            simp only [NxOK] at hpos
            simp only [Option.bind_some, Sum.elim_inr, ne_eq, not_true_eq_false, if_false, Option.bind_assoc, Sum.elim_inl]
            exact rest _ _ _ hpos.2
        · rw [if_neg hd] at hpos
          rw [if_neg hd, if_neg hd]
          by_cases hL : isL c = true
          · rw [if_pos hL] at hpos
            rw [if_pos hL, if_pos hL, run_within (by omega) (by omega), hl]
            simp only [Option.bind_some]
            rw [word_ok hs hl (by simp) (nrun_le _ _)]
            unfold nxWord at hpos ⊢
            by_cases h16 : 16 < nrun isW (c :: r)
            · rw [if_pos h16, if_pos h16]
              simp
            · rw [if_neg h16] at hpos
              rw [if_neg h16, if_neg h16]
              simp only [NxOK] at hpos
              simp only [Option.bind_some, Sum.elim_inr, ne_eq, not_true_eq_false, if_false, Option.bind_assoc, Sum.elim_inl]
              exact rest _ _ _ hpos.2
          · rw [if_neg hL] at hpos
            rw [if_neg hL, if_neg hL]
            have hcut : gsslice s (i : Int) (s.size : Int) = some (lit (c :: r)) := by
              have := cut_ok (n := (c :: r).length) hl (by simp) (Nat.le_refl _)
              rw [List.take_length] at this
              rw [← this]; congr 1; omega
            rw [hcut]
            simp only [Option.bind_some]
            rw [sign_ok (by simp)]
            simp only [Option.bind_some, decide_eq_true_eq]
            unfold nxSign at hpos ⊢
            by_cases h0 : signLen (c :: r) = 0
            · rw [if_pos h0, if_pos (by rw [h0]; rfl)]
              simp
            · rw [if_neg h0] at hpos
              have hx : ¬ lit ((c :: r).take (signLen (c :: r))) = lit [] := by
                intro e
                have := congrArg (fun x => (bs x).length) e
                simp only [bs_lit] at this
                rw [List.length_take] at this
                have := signLen_le (c :: r)
                simp only [List.length_nil] at *; omega
              rw [if_neg h0, if_neg hx]
              simp only [NxOK] at hpos
              simp only [Option.bind_some, Sum.elim_inr, ne_eq, not_true_eq_false, if_false, Option.bind_assoc, Sum.elim_inl]
              exact rest _ _ _ hpos.2
theorem lex_loop {s : ByteArray} (hs : s.size ≤ 16384) : ∀ (n i : Nat) (acc : List T_lex_Token) (nn : Bool), s.size - i ≤ n → i ≤ s.size → acc.length ≤ i →
    lpO progStep (s, (i : Int), ⟨acc, nn⟩) = some (match lexT i ((bs s).drop i) with
      | .inl x => .inl ((x.1 : Int), x.2)
      | .inr ts => .inr (s, ⟨acc ++ ts, nn || !ts.isEmpty⟩)) := by
  intro n
  induction n with
  | zero =>
    intro i acc nn hn hi ha
    have : i = s.size := by omega
    subst this
    rw [lpO_eq]
    have hd : (bs s).drop s.size = [] := List.drop_eq_nil_of_le (by rw [bs_len]; exact Nat.le_refl _)
    rw [hd, lexT_nil]
    simp [progStep, l0_lex_Tokens]
  | succ n ih =>
    intro i acc nn hn hi ha
    rcases Nat.lt_or_ge i s.size with hlt | hge
    · have hne : (bs s).drop i ≠ [] := by
        intro e
        have := congrArg List.length e
        rw [List.length_drop, bs_len] at this
        simp at this; omega
      have hp := nxt_pos hne
      have hlen : ((bs s).drop i).length = s.size - i := by rw [List.length_drop, bs_len]
      rw [lpO_eq, step_ok hs rfl hne, lexT_cons _ hne]
      cases hx : nxt ((bs s).drop i) with
      | err e => rfl
      | skip k =>
        rw [hx] at hp
        simp only [NxOK] at hp
        simp only [Option.bind_some, List.drop_drop]
        rw [ih (i + k) acc nn (by omega) (by omega) (by omega)]
      | tok k m v =>
        rw [hx] at hp
        simp only [NxOK] at hp
        simp only [List.drop_drop]
        rw [gapp_ok (by simp only [List.length_cons, List.length_nil]; omega) (by simp only [List.length_cons, List.length_nil]; omega)]
        simp only [Option.bind_some]
        rw [ih (i + m) _ _ (by omega) (by omega) (by simp only [List.length_append, List.length_cons, List.length_nil]; omega)]
        cases lexT (i + m) ((bs s).drop (i + m)) with
        | inl x => rfl
        | inr ts => simp
    · have : i = s.size := by omega
      exact ih i acc nn (by omega) hi ha
/-- the place of the fault, its number, the tokens -/
def lexR (s : ByteArray) : Int × Int × Sl T_lex_Token := if 16384 < s.size then (0, 10, ⟨[], false⟩) else match lexT 0 (bs s) with
  | .inl x => ((x.1 : Int), x.2, ⟨[], false⟩)
  | .inr ts => (0, 0, ⟨ts ++ [⟨0, lit [], 0, s.size⟩], true⟩)
theorem lexT_len : ∀ (m : Nat) (l : List UInt8) (i : Nat) (ts : List T_lex_Token), l.length ≤ m → lexT i l = .inr ts → ts.length ≤ l.length
  | 0, l, i, ts, hm, h => by
    have : l = [] := List.eq_nil_of_length_eq_zero (by omega)
    subst this
    rw [lexT_nil] at h; cases h; simp
  | m + 1, l, i, ts, hm, h => by
    by_cases hne : l = []
    · subst hne
      rw [lexT_nil] at h; cases h; simp
    · have hp := nxt_pos hne
      rw [lexT_cons _ hne] at h
      cases hx : nxt l with
      | err e => rw [hx] at h; cases h
      | skip k =>
        rw [hx] at h hp
        simp only [NxOK] at hp
        have := lexT_len m _ _ _ (by rw [List.length_drop]; omega) h
        rw [List.length_drop] at this; omega
      | tok k n v =>
        rw [hx] at h hp
        simp only [NxOK] at hp
        simp only at h
        cases hr : lexT (i + n) (l.drop n) with
        | inl x => rw [hr] at h; cases h
        | inr us =>
          rw [hr] at h
          cases h
          have := lexT_len m _ _ _ (by rw [List.length_drop]; omega) hr
          rw [List.length_drop] at this
          simp only [List.length_cons]; omega
theorem tokens_ok (s : ByteArray) : m_lex_Tokens s = some (lexR s) := by
  unfold m_lex_Tokens m_lex_Tokens' lexR
  simp only [decide_eq_true_eq]
  by_cases h : 16384 < s.size
  · rw [if_pos (by omega), if_pos h]; rfl
  · rw [if_neg (by omega), if_neg h]
    have := lex_loop (s := s) (by omega) s.size 0 [] false (by omega) (by omega) (by simp)
    rw [List.drop_zero] at this
    rw [show ((s, 0, Sl.mk [] false) : ByteArray × Int × Sl T_lex_Token) = (s, ((0 : Nat) : Int), ⟨[], false⟩) from rfl, this]
    cases hx : lexT 0 (bs s) with
    | inl x => rfl
    | inr ts =>
      have hl := lexT_len _ _ _ _ (Nat.le_refl _) hx
      rw [bs_len] at hl
      simp only [Option.bind_some, Sum.elim_inr, List.nil_append, Bool.false_or]
      rw [gapp_ok (by simp only [List.length_cons, List.length_nil]; omega) (by simp only [List.length_cons, List.length_nil]; omega)]
      simp
end Go.Px
/-! Chapter 1: the document's tokens are those of the plain Lean. -/
namespace Go.Px
set_option linter.unusedVariables false
set_option linter.unusedSimpArgs false
theorem rletter_ok (b : UInt8) : m_lychgateref01_letter (b.toNat : Int) = some (isL b) := letter_ok b
theorem rdigit_ok (b : UInt8) : m_lychgateref01_digit (b.toNat : Int) = some (isD b) := digit_ok b
theorem rkey_lit (l : List UInt8) : m_lychgateref01_IsKey (lit l) = some (isKey l) := key_lit l
theorem rkey_ok (s : ByteArray) : m_lychgateref01_IsKey s = some (isKey (bs s)) := key_ok s
theorem byte_eq (c : UInt8) (k : Nat) (hk : k < 256) : decide ((c.toNat : Int) = (k : Int)) = decide (c = UInt8.ofNat k) := by
  refine decide_eq_decide.2 ⟨fun h => UInt8.toNat_inj.1 ?_, fun h => ?_⟩
  · rw [UInt8.toNat_ofNat_of_lt' (by simpa [UInt8.size] using hk)]; omega
  · rw [h, UInt8.toNat_ofNat_of_lt' (by simpa [UInt8.size] using hk)]
theorem sgn_eq (c : UInt8) : sgn c = (decide ((c.toNat : Int) = 123) || (decide ((c.toNat : Int) = 125) || (decide ((c.toNat : Int) = 40) || (decide ((c.toNat : Int) = 41) || (decide ((c.toNat : Int) = 91) || (decide ((c.toNat : Int) = 93) || (decide ((c.toNat : Int) = 44) || (decide ((c.toNat : Int) = 58) || (decide ((c.toNat : Int) = 59) || (decide ((c.toNat : Int) = 61) || (decide ((c.toNat : Int) = 43) || (decide ((c.toNat : Int) = 45) || (decide ((c.toNat : Int) = 38) || decide ((c.toNat : Int) = 60)))))))))))))) := by
  have h : ∀ k : Nat, k < 256 → decide ((c.toNat : Int) = (k : Int)) = (c == UInt8.ofNat k) := fun k hk => by rw [byte_eq c k hk]; rfl
  have := h 123 (by omega); have h2 := h 125 (by omega); have h3 := h 40 (by omega); have h4 := h 41 (by omega); have h5 := h 91 (by omega); have h6 := h 93 (by omega); have h7 := h 44 (by omega); have h8 := h 58 (by omega); have h9 := h 59 (by omega); have h10 := h 61 (by omega); have h11 := h 43 (by omega); have h12 := h 45 (by omega); have h13 := h 38 (by omega); have h14 := h 60 (by omega)
  simp only [Int.cast_ofNat_Int] at *
  simp only [sgn, List.contains_cons, List.contains_nil, Bool.or_false]
  rw [this, h2, h3, h4, h5, h6, h7, h8, h9, h10, h11, h12, h13, h14]
  rfl
theorem two_short {l : List UInt8} (h : l.length < 2) : two l = false := by
  have : ∀ a b : UInt8, ¬ l.take 2 = [a, b] := by
    intro a b e
    have := congrArg List.length e
    rw [List.length_take] at this
    simp at this; omega
  simp [two, this]
theorem rsign_ok {s : ByteArray} {i : Nat} {l : List UInt8} (hs : s.size ≤ 16384) (hl : (bs s).drop i = l) (hne : l ≠ []) : m_lychgateref01_sign (s, (i : Int)) = some (signLen l : Int) := by
  obtain ⟨h1, h2⟩ := drop_len hl hne
  unfold m_lychgateref01_sign m_lychgateref01_sign'
  simp only
  rw [wrap_one (by omega)]
  have e2 : IntKind.i64.wrap ((i : Int) + 2) = ((i + 2 : Nat) : Int) := wrap_add (k := 2) (by omega)
  rw [e2]
  have first : ((if decide (((i + 1 : Nat) : Int) < (s.size : Int)) = true then
        (gsslice s (i : Int) ((i + 2 : Nat) : Int)).bind fun y0 => some (s, (i : Int), y0) else some (s, (i : Int), lit [])).bind fun (y1 : ByteArray × Int × ByteArray) => (if decide (y1.snd.snd = lit [45, 62]) = true then some (y1.fst, y1.snd.fst, true) else if decide (y1.snd.snd = lit [60, 61]) = true then some (y1.fst, y1.snd.fst, true) else some (y1.fst, y1.snd.fst, decide (y1.snd.snd = lit [61, 61])))) = some (s, (i : Int), two l) := by
    by_cases h : i + 1 < s.size
    · rw [if_pos (decide_eq_true (Int.ofNat_lt.2 h)), cut_ok hl hne (by omega)]
      simp only [Option.bind_some, lit_dec, bs_lit, two]
      by_cases a : l.take 2 = [45, 62]
      · simp [a]
      · by_cases b : l.take 2 = [60, 61]
        · simp [b]
        · simp only [a, b, decide_false, Bool.false_eq_true, if_false, Option.bind_some, Bool.false_or]
          rfl
    · rw [if_neg (fun x => h (Int.ofNat_lt.1 (of_decide_eq_true x)))]
      rw [two_short (by omega)]
      have : ∀ a b : UInt8, lit [] ≠ lit [a, b] := fun a b e => by have := congrArg bs e; simp [bs_lit] at this
      simp [this]
  rw [← Option.bind_assoc, first]
  simp only [Option.bind_some]
  unfold signLen
  by_cases ht : two l = true
  · rw [if_pos ht, if_pos ht]; rfl
  · rw [if_neg ht, if_neg ht]
    match l, hne with
    | c :: r, _ =>
      have hc : gsidx s (i : Int) = some (c.toNat : Int) := byte_ok (n := 0) hl rfl
      rw [hc]
      simp only [Option.bind_some]
      have key : ∀ {X : Option Bool} {b : Bool}, X = some b → (X.bind fun y => if y = true then some (1 : Int) else some 0) = some ((if b then 1 else 0 : Nat) : Int) := by
        intro X b h; subst h; cases b <;> rfl
      rw [sgn_eq]
      refine key ?_
      repeat (first | exact rfl | apply key_step | apply key_bind)
theorem wrap8 {n : Nat} (h : n ≤ 255) : IntKind.u8.wrap (n : Int) = n := by
  simp only [IntKind.wrap, IntKind.bits, IntKind.signed]
  simp
  omega
/-- a number is read digit by digit, as long as it isn't too great -/
def numL (n : Nat) (g : Bool) : List UInt8 → Nat × Bool
  | [] => (n, g)
  | c :: r => let n' := if n ≤ 1099511627776 then n * 10 + (c.toNat - 48) else n
    numL n' (if 1099511627776 < n' then true else g) r
theorem numL_great : ∀ (l : List UInt8) (n : Nat), (numL n true l).2 = true
  | [], n => rfl
  | c :: r, n => by
    unfold numL
    simp only [ite_self]
    exact numL_great r _
theorem numL_ok : ∀ (l : List UInt8) (n : Nat), n ≤ 1099511627776 → if 1099511627776 < numF n l then (numL n false l).2 = true else numL n false l = (numF n l, false)
  | [], n, h => by
    rw [if_neg (by show ¬ 1099511627776 < n; omega)]; rfl
  | c :: r, n, h => by
    have e : numF n (c :: r) = numF (n * 10 + (c.toNat - 48)) r := rfl
    rw [e]
    unfold numL
    simp only [if_pos h]
    by_cases h2 : 1099511627776 < n * 10 + (c.toNat - 48)
    · have := numF_ge r (n * 10 + (c.toNat - 48))
      rw [if_pos (by omega), if_pos h2]
      exact numL_great r _
    · rw [if_neg h2]
      exact numL_ok r _ (by omega)
abbrev RT := (Int × ByteArray × Int × Int) × Int × ByteArray × Int × Int
noncomputable abbrev oneWord := l0_lychgateref01_one m_lychgateref01_letter m_lychgateref01_digit m_lychgateref01_IsKey m_lychgateref01_sign
noncomputable abbrev oneNum := l1_lychgateref01_one m_lychgateref01_letter m_lychgateref01_digit m_lychgateref01_IsKey m_lychgateref01_sign
theorem word_loop {s : ByteArray} (hs : s.size ≤ 16384) (a : Int) (t : RT) : ∀ (n i : Nat), s.size - i = n → i ≤ s.size → lpO oneWord (s, a, (i : Int), t) = some (s, a, ((i + nrun isW ((bs s).drop i) : Nat) : Int), t)
  | 0, i, hn, hi => by
    have : i = s.size := by omega
    subst this
    rw [lpO_eq]
    simp [oneWord, l0_lychgateref01_one, List.drop_eq_nil_of_le, bs_len, nrun_nil]
  | n + 1, i, hn, hi => by
    have hlt : i < s.size := by omega
    obtain ⟨c, hc, hd⟩ := drop_cons (l := bs s) (i := i) (by rw [bs_len]; exact hlt)
    rw [lpO_eq]
    simp only [oneWord, l0_lychgateref01_one, decide_eq_true_eq]
    rw [if_pos (Int.ofNat_lt.2 hlt), gsidx_nat hc]
    simp only [Option.bind_some, rletter_ok, rdigit_ok]
    rw [hd, nrun_cons]
    have ih := word_loop hs a t n (i + 1) (by omega) (by omega)
    have hw := wrap_one (n := i) (by omega)
    cases hL : isL c with
    | true =>
      simp only [isW, hL, Bool.true_or, Bool.not_true, Bool.false_eq_true, if_false, if_true, Option.bind_some, hw]
      refine ih.trans ?_
      congr 4; omega
    | false =>
      cases hD : isD c with
      | true =>
        simp only [isW, hL, hD, Bool.or_true, Bool.not_true, Bool.not_false, Bool.false_eq_true, if_false, if_true, Option.bind_some, hw]
        refine ih.trans ?_
        congr 4; omega
      | false => simp [isW, hL, hD]
theorem num_loop {s : ByteArray} (hs : s.size ≤ 16384) (a : Int) (t : RT) : ∀ (n i m : Nat) (g : Bool), m ≤ 10995116277769 → s.size - i = n → i ≤ s.size →
    lpO oneNum (s, a, (i : Int), (m : Int), g, t) = some (s, a, ((i + nrun isD ((bs s).drop i) : Nat) : Int), ((numL m g (((bs s).drop i).take (nrun isD ((bs s).drop i)))).1 : Int), (numL m g (((bs s).drop i).take (nrun isD ((bs s).drop i)))).2, t)
  | 0, i, m, g, hm, hn, hi => by
    have : i = s.size := by omega
    subst this
    rw [lpO_eq]
    simp [oneNum, l1_lychgateref01_one, List.drop_eq_nil_of_le, bs_len, nrun_nil, numL]
  | n + 1, i, m, g, hm, hn, hi => by
    have hlt : i < s.size := by omega
    obtain ⟨c, hc, hd⟩ := drop_cons (l := bs s) (i := i) (by rw [bs_len]; exact hlt)
    rw [lpO_eq]
    simp only [oneNum, l1_lychgateref01_one, decide_eq_true_eq]
    rw [if_pos (Int.ofNat_lt.2 hlt), gsidx_nat hc]
    simp only [Option.bind_some, rdigit_ok]
    rw [hd, nrun_cons]
    cases hD : isD c with
    | false => simp [numL]
    | true =>
      have hD2 := hD
      simp only [isD, Bool.and_eq_true, decide_eq_true_eq] at hD2
      simp only [Bool.not_true, Bool.false_eq_true, if_false, if_true]
      have e1 : IntKind.i64.wrap (IntKind.u8.wrap ((c.toNat : Int) - 48)) = ((c.toNat - 48 : Nat) : Int) := by
        have : ((c.toNat : Int) - 48) = ((c.toNat - 48 : Nat) : Int) := by omega
        rw [this, wrap8 (by omega), wrap_nat (by omega)]
      have e2 : IntKind.i64.wrap (IntKind.i64.wrap ((m : Int) * 10) + ((c.toNat - 48 : Nat) : Int)) = ((m * 10 + (c.toNat - 48) : Nat) : Int) := by
        have : ((m : Int) * 10) = ((m * 10 : Nat) : Int) := by omega
        rw [this, wrap_nat (by omega), wrap_add (by omega)]
      rw [e1, e2]
      have hw := wrap_one (n := i) (by omega)
      have hn' : (if m ≤ 1099511627776 then m * 10 + (c.toNat - 48) else m) ≤ 10995116277769 := by split <;> omega
      have step : ∀ (m' : Nat), m' ≤ 10995116277769 → lpO oneNum (s, a, ((i + 1 : Nat) : Int), (m' : Int), (if 1099511627776 < m' then true else g), t) = some (s, a, ((i + (nrun isD ((bs s).drop (i + 1)) + 1) : Nat) : Int), ((numL m' (if 1099511627776 < m' then true else g) (((bs s).drop (i + 1)).take (nrun isD ((bs s).drop (i + 1))))).1 : Int), (numL m' (if 1099511627776 < m' then true else g) (((bs s).drop (i + 1)).take (nrun isD ((bs s).drop (i + 1))))).2, t) := by
        intro m' hm'
        refine (num_loop hs a t n (i + 1) m' _ hm' (by omega) (by omega)).trans ?_
        congr 4; omega
      simp only [List.take_succ_cons, numL]
      by_cases h40 : m ≤ 1099511627776
      · rw [if_pos (show (m : Int) ≤ 1099511627776 by omega)]
        simp only [if_pos h40, Option.bind_some]
        rw [← step _ (by omega)]
        by_cases hg : 1099511627776 < m * 10 + (c.toNat - 48)
        · rw [if_pos (show (1099511627776 : Int) < ((m * 10 + (c.toNat - 48) : Nat) : Int) by omega), if_pos hg]
          simp only [Option.bind_some, hw]
        · rw [if_neg (show ¬ (1099511627776 : Int) < ((m * 10 + (c.toNat - 48) : Nat) : Int) by omega), if_neg hg]
          simp only [Option.bind_some, hw]
      · rw [if_neg (show ¬ (m : Int) ≤ 1099511627776 by omega)]
        simp only [if_neg h40, Option.bind_some]
        rw [← step _ hm]
        have hg : 1099511627776 < m := by omega
        rw [if_pos (show (1099511627776 : Int) < (m : Int) by omega), if_pos hg]
        simp only [Option.bind_some, hw]
end Go.Px
/-! Chapter 1: the document's tokens, whole. -/
namespace Go.Px
set_option linter.unusedVariables false
set_option linter.unusedSimpArgs false
abbrev rtk0 : T_lychgateref01_Token := ⟨0, lit [], 0, 0⟩
/-- what the document finds at a place that is no blank -/
def rNx (i : Nat) (l : List UInt8) : Nx → T_lychgateref01_Token × Int
  | .tok k n v => (⟨k, lit (l.take n), v, i⟩, 0)
  | .err e => (rtk0, e)
  | .skip _ => (rtk0, 0)
theorem rone_ok {s : ByteArray} {i : Nat} {c : UInt8} {r : List UInt8} (hs : s.size ≤ 16384) (hl : (bs s).drop i = c :: r) :
    m_lychgateref01_one (s, (i : Int)) = some (rNx i (c :: r) (if isD c then nxNum (c :: r) else if isL c then nxWord (c :: r) else nxSign (c :: r))) := by
  obtain ⟨h1, h2⟩ := drop_len hl (by simp)
  have hc : gsidx s (i : Int) = some (c.toNat : Int) := byte_ok (n := 0) hl rfl
  unfold m_lychgateref01_one m_lychgateref01_one'
  simp only
  rw [hc]
  simp only [Option.bind_some, rletter_ok, rdigit_ok]
  by_cases hL : isL c = true
  · have hD : isD c = false := by
      simp only [isL, Bool.or_eq_true, Bool.and_eq_true, decide_eq_true_eq] at hL
      simp only [isD, Bool.and_eq_false_imp, decide_eq_true_eq, decide_eq_false_iff_not]
      omega
    rw [if_pos hL]
    have hloop := word_loop hs (i : Int) ((0, lit [], 0, 0), 0, lit [], 0, (i : Int)) _ i rfl (by omega)
    rw [hl] at hloop
    rw [show lpO (l0_lychgateref01_one m_lychgateref01_letter m_lychgateref01_digit m_lychgateref01_IsKey m_lychgateref01_sign) (s, (i : Int), (i : Int), (0, lit [], 0, 0), 0, lit [], 0, (i : Int)) = _ from hloop]
    simp only [Option.bind_some]
    rw [cut_ok hl (by simp) (nrun_le _ _)]
    have hlen : ((c :: r).take (nrun isW (c :: r))).length = nrun isW (c :: r) := by rw [List.length_take]; have := nrun_le isW (c :: r); omega
    simp only [Option.bind_some, size_lit, hlen, decide_eq_true_eq, rkey_lit]
    rw [hD]
    simp only [Bool.false_eq_true, if_false, hL, if_true]
    unfold nxWord
    by_cases h : 16 < nrun isW (c :: r)
    · rw [if_pos (by omega), if_pos h]; rfl
    · rw [if_neg (by omega), if_neg h]
      by_cases hk : isKey ((c :: r).take (nrun isW (c :: r))) = true
      · rw [if_pos hk, if_pos hk]; rfl
      · rw [if_neg hk, if_neg hk]; rfl
  · rw [if_neg hL]
    simp only [Option.bind_some, Sum.elim_inr]
    by_cases hD : isD c = true
    · rw [if_pos hD, if_pos hD]
      have hn := nrun_le isD (c :: r)
      have hn1 : 1 ≤ nrun isD (c :: r) := by rw [nrun_cons]; simp [hD]
      have hloop := num_loop hs (i : Int) ((0, lit [], 0, 0), 0, lit [], 0, (i : Int)) _ i 0 false (by omega) rfl (by omega)
      rw [hl] at hloop
      rw [show lpO (l1_lychgateref01_one m_lychgateref01_letter m_lychgateref01_digit m_lychgateref01_IsKey m_lychgateref01_sign) (s, (i : Int), (i : Int), 0, false, (0, lit [], 0, 0), 0, lit [], 0, (i : Int)) = _ from hloop]
      have hnum := numL_ok ((c :: r).take (nrun isD (c :: r))) 0 (by omega)
      have hN : numF 0 ((c :: r).take (nrun isD (c :: r))) = numVal ((c :: r).take (nrun isD (c :: r))) := rfl
      rw [hN] at hnum
      unfold nxNum numBad
      generalize hnr : nrun isD (c :: r) = n at *
      generalize hpq : numL 0 false ((c :: r).take n) = pq at *
      obtain ⟨p, q⟩ := pq
      simp only [Option.bind_some, decide_eq_true_eq]
      have hlast : (if (((i + n : Nat) : Int) < (s.size : Int)) then (gsidx s ((i + n : Nat) : Int)).bind fun y => (m_lychgateref01_letter y).bind fun z => some (s, (i : Int), ((i + n : Nat) : Int), (p : Int), q, z, ((0, lit [], 0, 0), 0, lit [], 0, (i : Int)) ) else some (s, (i : Int), ((i + n : Nat) : Int), (p : Int), q, false, (((0, lit [], 0, 0), 0, lit [], 0, (i : Int)) : RT))) = some (s, (i : Int), ((i + n : Nat) : Int), (p : Int), q, letterAt (c :: r)[n]?, (((0, lit [], 0, 0), 0, lit [], 0, (i : Int)) : RT)) := by
        by_cases hb : i + n < s.size
        · have : n < (c :: r).length := by omega
          have hg := List.getElem?_eq_getElem this
          generalize (c :: r)[n] = b at hg
          rw [byte_ok hl hg, hg]
          simp only [Option.bind_some, rletter_ok]
          rw [if_pos (Int.ofNat_lt.2 hb)]
          rfl
        · have : (c :: r)[n]? = none := List.getElem?_eq_none (by omega)
          rw [this, if_neg (fun h => hb (Int.ofNat_lt.1 h))]
          rfl
      rw [show (if (((i + n : Nat) : Int) < (s.size : Int)) then (gsidx s ((i + n : Nat) : Int)).bind fun y => (m_lychgateref01_letter y).bind fun z => some (s, (i : Int), ((i + n : Nat) : Int), (p : Int), q, z, ((0, lit [], 0, 0), 0, lit [], 0, (i : Int)) ) else some (s, (i : Int), ((i + n : Nat) : Int), (p : Int), q, false, (((0, lit [], 0, 0), 0, lit [], 0, (i : Int)) : RT))) = _ from hlast]
      simp only [Option.bind_some, hc]
      have e1 : ((i : Int) + 1) = ((i + 1 : Nat) : Int) := by omega
      have hw := wrap_one (n := i) (by omega)
      by_cases h40 : 1099511627776 < numVal ((c :: r).take n)
      · rw [if_pos h40] at hnum
        simp only at hnum
        subst hnum
        simp [h40, rNx]
      · rw [if_neg h40] at hnum
        simp only [Prod.mk.injEq] at hnum
        obtain ⟨hp, hq⟩ := hnum
        subst hp hq
        simp only [Bool.false_eq_true, if_false]
        cases hlt : letterAt (c :: r)[n]? with
        | true => simp [h40, rNx]
        | false =>
          simp only [Bool.false_eq_true, if_false, hw]
          have e48 : ((c.toNat : Int) = 48) ↔ c = 48 := by
            constructor
            · intro h; exact UInt8.toNat_inj.1 (by simpa using (by omega : c.toNat = 48))
            · intro h; rw [h]; rfl
          by_cases h48 : c = 48
          · rw [if_pos (e48.2 h48)]
            simp only [Option.bind_some]
            by_cases h1n : 1 < n
            · have : ((i + 1 : Nat) : Int) < ((i + n : Nat) : Int) := by omega
              simp [h40, h1n, h48, this, rNx]
              rw [if_pos (by omega)]
              rfl
            · have : ¬ ((i + 1 : Nat) : Int) < ((i + n : Nat) : Int) := by omega
              simp only [this, decide_false, Bool.false_eq_true, if_false, h40, h1n, Bool.false_and, Bool.or_false]
              rw [cut_ok hl (by simp) hn]
              rfl
          · rw [if_neg (fun h => h48 (e48.1 h))]
            simp only [Option.bind_some, Bool.false_eq_true, if_false]
            rw [cut_ok hl (by simp) hn]
            simp only [h40, h48, decide_false, List.head?_cons, Option.some.injEq, Bool.and_false, Bool.or_false, Bool.false_eq_true, if_false]
            rfl
    · rw [if_neg hD, if_neg hD, if_neg hL]
      simp only [Option.bind_some, Sum.elim_inr]
      rw [rsign_ok hs hl (by simp)]
      simp only [Option.bind_some, decide_eq_true_eq]
      unfold nxSign
      have hle := signLen_le (c :: r)
      by_cases h0 : signLen (c :: r) = 0
      · rw [if_pos (by omega), if_pos h0]; rfl
      · rw [if_neg (by omega), if_neg h0, wrap_add (by omega), cut_ok hl (by simp) hle]
        rfl
theorem skip_loop {s : ByteArray} (hs : s.size ≤ 16384) {f : ByteArray × Int → Option (T_lychgateref01_Token × Int)} (out : Sl T_lychgateref01_Token) : ∀ (n i : Nat), s.size - i = n → i ≤ s.size → lpO (l0_lychgateref01_Tokens f) (s, (i : Int), out) = some (s, ((i + nrun notNl ((bs s).drop i) : Nat) : Int), out)
  | 0, i, hn, hi => by
    have : i = s.size := by omega
    subst this
    rw [lpO_eq]
    simp [l0_lychgateref01_Tokens, List.drop_eq_nil_of_le, bs_len, nrun_nil]
  | n + 1, i, hn, hi => by
    have hlt : i < s.size := by omega
    obtain ⟨c, hc, hd⟩ := drop_cons (l := bs s) (i := i) (by rw [bs_len]; exact hlt)
    rw [lpO_eq]
    simp only [l0_lychgateref01_Tokens, decide_eq_true_eq]
    rw [if_pos (Int.ofNat_lt.2 hlt), gsidx_nat hc]
    have hw := wrap_one (n := i) (by omega)
    simp only [Option.bind_some, hw]
    rw [hd, nrun_cons]
    have e10 : ((c.toNat : Int) ≠ 10) ↔ notNl c = true := by simp only [notNl, decide_eq_true_eq]; omega
    by_cases h : notNl c = true
    · rw [if_pos (decide_eq_true (e10.2 h)), if_pos h]
      simp only [Option.bind_some]
      refine (skip_loop hs out n (i + 1) (by omega) (by omega)).trans ?_
      congr 3; omega
    · rw [if_neg (fun x => h (e10.1 (of_decide_eq_true x))), if_neg h]
      simp
abbrev toR (t : T_lex_Token) : T_lychgateref01_Token := ⟨t.Kind_, t.Text_, t.Num_, t.At_⟩
noncomputable abbrev refStep := l1_lychgateref01_Tokens m_lychgateref01_one
theorem err_ne {l : List UInt8} (hne : l ≠ []) {e : Int} (h : nxt l = .err e) : e ≠ 0 := by
  match l, hne with
  | c :: r, _ =>
    unfold nxt at h
    simp only at h
    split at h
    · cases h
    · split at h
      · cases h
      · split at h
        · unfold nxNum at h; split at h <;> cases h; decide
        · split at h
          · unfold nxWord at h; split at h <;> cases h; decide
          · unfold nxSign at h; split at h <;> cases h; decide
theorem rstep_ok {s : ByteArray} {i : Nat} {l : List UInt8} (hs : s.size ≤ 16384) (hl : (bs s).drop i = l) (hne : l ≠ []) (out : Sl T_lychgateref01_Token) :
    refStep (s, (i : Int), out) = match nxt l with
      | .skip n => some (.next (s, ((i + n : Nat) : Int), out))
      | .err e => some (.done (.inl ((i : Int), e)))
      | .tok k n v => (gapp 40 out [⟨k, lit (l.take n), v, i⟩]).bind fun o => some (.next (s, ((i + n : Nat) : Int), o)) := by
  obtain ⟨h1, h2⟩ := drop_len hl hne
  match l, hne with
  | c :: r, hne =>
    have hc : gsidx s (i : Int) = some (c.toNat : Int) := byte_ok (n := 0) hl rfl
    have hpos := nxt_pos (l := c :: r) (by simp)
    have herr := fun e => err_ne (l := c :: r) (by simp) (e := e)
    simp only [refStep, l1_lychgateref01_Tokens]
    rw [if_pos (decide_eq_true (Int.ofNat_lt.2 h1)), hc]
    have hw := wrap_one (n := i) (by omega)
    simp only [Option.bind_some]
    have e32 : ((c.toNat : Int) = 32) ↔ c.toNat = 32 := by omega
    have e10 : ((c.toNat : Int) = 10) ↔ c.toNat = 10 := by omega
    have e35 : ((c.toNat : Int) = 35) ↔ c.toNat = 35 := by omega
    unfold nxt at hpos herr ⊢
    simp only at hpos herr ⊢
    by_cases hb : c.toNat = 32 ∨ c.toNat = 10
    · rw [if_pos hb]
      simp only
      rcases hb with hb | hb
      · rw [if_pos (decide_eq_true (e32.2 hb))]
        simp [hw]
      · have : ¬ c.toNat = 32 := by omega
        rw [if_neg (fun h => this (e32.1 (of_decide_eq_true h)))]
        simp only [Option.bind_some, decide_eq_true_eq]
        rw [if_pos (e10.2 hb)]
        simp [hw]
    · rw [if_neg hb] at hpos herr ⊢
      have n32 : ¬ c.toNat = 32 := fun h => hb (.inl h)
      have n10 : ¬ c.toNat = 10 := fun h => hb (.inr h)
      rw [if_neg (fun h => n32 (e32.1 (of_decide_eq_true h)))]
      simp only [Option.bind_some, decide_eq_true_eq]
      rw [if_neg (fun h => n10 (e10.1 h)), hc]
      simp only [Option.bind_some]
      by_cases h35 : c.toNat = 35
      · have hsk := skip_loop hs (f := m_lychgateref01_one) out _ i rfl (by omega)
        rw [if_pos (e35.2 h35), if_pos h35, hsk, hl]
        rfl
      · rw [if_neg (fun h => h35 (e35.1 h))]
        rw [if_neg h35] at hpos herr ⊢
        rw [rone_ok hs hl]
        have hns : ∀ n, (if isD c = true then nxNum (c :: r) else if isL c = true then nxWord (c :: r) else nxSign (c :: r)) ≠ .skip n := by
          intro n h
          split at h
          · unfold nxNum at h; split at h <;> cases h
          · split at h
            · unfold nxWord at h; split at h <;> cases h
            · unfold nxSign at h; split at h <;> cases h
        generalize (if isD c = true then nxNum (c :: r) else if isL c = true then nxWord (c :: r) else nxSign (c :: r)) = x at hpos herr hns
        cases x with
        | skip n =>
          exact absurd rfl (hns n)
        | err e =>
          have := herr e rfl
          simp only [rNx, Option.bind_some]
          rw [if_pos this]
          rfl
        | tok k n v =>
          simp only [NxOK] at hpos
          simp only [rNx, Option.bind_some, ne_eq, not_true_eq_false, if_false, Option.bind_assoc, Sum.elim_inl]
          have hz : (lit ((c :: r).take n)).size = n := by rw [size_lit, List.length_take]; omega
          rw [hz, wrap_add (by omega)]
theorem rlex_loop {s : ByteArray} (hs : s.size ≤ 16384) : ∀ (n i : Nat) (acc : List T_lychgateref01_Token) (nn : Bool), s.size - i ≤ n → i ≤ s.size → acc.length ≤ i →
    lpO refStep (s, (i : Int), ⟨acc, nn⟩) = some (match lexT i ((bs s).drop i) with
      | .inl x => .inl ((x.1 : Int), x.2)
      | .inr ts => .inr (s, ⟨acc ++ ts.map toR, nn || !ts.isEmpty⟩)) := by
  intro n
  induction n with
  | zero =>
    intro i acc nn hn hi ha
    have : i = s.size := by omega
    subst this
    rw [lpO_eq]
    have hd : (bs s).drop s.size = [] := List.drop_eq_nil_of_le (by rw [bs_len]; exact Nat.le_refl _)
    rw [hd, lexT_nil]
    simp [refStep, l1_lychgateref01_Tokens]
  | succ n ih =>
    intro i acc nn hn hi ha
    rcases Nat.lt_or_ge i s.size with hlt | hge
    · have hne : (bs s).drop i ≠ [] := by
        intro e
        have := congrArg List.length e
        rw [List.length_drop, bs_len] at this
        simp at this; omega
      have hp := nxt_pos hne
      have hlen : ((bs s).drop i).length = s.size - i := by rw [List.length_drop, bs_len]
      rw [lpO_eq, rstep_ok hs rfl hne, lexT_cons _ hne]
      cases hx : nxt ((bs s).drop i) with
      | err e => rfl
      | skip k =>
        rw [hx] at hp
        simp only [NxOK] at hp
        simp only [Option.bind_some, List.drop_drop]
        rw [ih (i + k) acc nn (by omega) (by omega) (by omega)]
      | tok k m v =>
        rw [hx] at hp
        simp only [NxOK] at hp
        simp only [List.drop_drop]
        rw [gapp_ok (by simp only [List.length_cons, List.length_nil]; omega) (by simp only [List.length_cons, List.length_nil]; omega)]
        simp only [Option.bind_some]
        rw [ih (i + m) _ _ (by omega) (by omega) (by simp only [List.length_append, List.length_cons, List.length_nil]; omega)]
        cases lexT (i + m) ((bs s).drop (i + m)) with
        | inl x => rfl
        | inr ts => simp
    · have : i = s.size := by omega
      exact ih i acc nn (by omega) hi ha
theorem rtokens_ok (s : ByteArray) : m_lychgateref01_Tokens s = some ((lexR s).1, (lexR s).2.1, ⟨(lexR s).2.2.xs.map toR, (lexR s).2.2.nn⟩) := by
  unfold m_lychgateref01_Tokens m_lychgateref01_Tokens' lexR
  simp only [decide_eq_true_eq]
  by_cases h : 16384 < s.size
  · rw [if_pos (by omega), if_pos h]; rfl
  · rw [if_neg (by omega), if_neg h]
    have := rlex_loop (s := s) (by omega) s.size 0 [] false (by omega) (by omega) (by simp)
    rw [List.drop_zero] at this
    rw [show ((s, 0, Sl.mk [] false) : ByteArray × Int × Sl T_lychgateref01_Token) = (s, ((0 : Nat) : Int), ⟨[], false⟩) from rfl, this]
    cases hx : lexT 0 (bs s) with
    | inl x => rfl
    | inr ts =>
      have hl := lexT_len _ _ _ _ (Nat.le_refl _) hx
      rw [bs_len] at hl
      simp only [Option.bind_some, Sum.elim_inr, List.nil_append, Bool.false_or]
      rw [gapp_ok (by simp only [List.length_cons, List.length_nil, List.length_map]; omega) (by simp only [List.length_cons, List.length_nil, List.length_map]; omega)]
      simp
end Go.Px
/-! Chapter 1: the laws about whole texts: tokens, names. -/
namespace Go.Px
set_option linter.unusedVariables false
set_option linter.unusedSimpArgs false
theorem gidx_nat {α : Type} (s : Sl α) (i : Nat) : gidx s (i : Int) = s.xs[i]? := by
  unfold gidx
  rw [if_pos (Int.natCast_nonneg i)]
  simp
theorem wakes_ok (u : Unit) : m_lychgatelaw01_wakes u = some true := by
  unfold m_lychgatelaw01_wakes m_lychgatelaw01_wakes'
  rw [tokens_ok]
  have : lexR (lit [120, 61, 45, 49]) = (0, 0, ⟨[⟨1, lit [120], 0, 0⟩, ⟨4, lit [61], 0, 1⟩, ⟨4, lit [45], 0, 2⟩, ⟨3, lit [49], 1, 3⟩, ⟨0, lit [], 0, 4⟩], true⟩) := by kernel_rfl
  rw [this]
  rfl
theorem len_nat {α : Type} (s : Sl α) : s.len = (s.xs.length : Int) := rfl
theorem lexR_len (s : ByteArray) : (lexR s).2.2.xs.length ≤ 16385 := by
  unfold lexR
  split
  · simp
  · split
    · simp
    · rename_i h ts e
      have := lexT_len _ _ _ _ (Nat.le_refl _) e
      rw [bs_len] at this
      simp; omega
noncomputable abbrev ltLoop := l0_lychgatelaw01_LexTokens m_lex_Tokens m_lychgateref01_Tokens m_lychgatelaw01_wakes m_lychgatelaw01_ref
theorem same_loop (l : Sl T_lex_Token) (nn : Bool) (hl : l.xs.length ≤ 16385) : ∀ (n i : Nat), l.xs.length - i = n → i ≤ l.xs.length →
    lpO ltLoop (l.len, (i : Int), l, ⟨l.xs.map toR, nn⟩) = some (.inr ())
  | 0, i, hn, hi => by
    have : i = l.xs.length := by omega
    subst this
    rw [lpO_eq]
    simp [ltLoop, l0_lychgatelaw01_LexTokens, len_nat]
  | n + 1, i, hn, hi => by
    have hlt : i < l.xs.length := by omega
    rw [lpO_eq]
    simp only [ltLoop, l0_lychgatelaw01_LexTokens, decide_eq_true_eq, gidx_nat, List.getElem?_map]
    rw [if_pos (show (i : Int) < l.len by rw [len_nat]; omega), List.getElem?_eq_getElem hlt]
    simp only [Option.bind_some, Option.map_some, m_lychgatelaw01_ref, m_lychgatelaw01_ref']
    rw [wrap_one (by omega)]
    simp
    exact same_loop l nn hl n (i + 1) (by omega) (by omega)
theorem lexTokens (s : ByteArray) : m_lychgatelaw01_LexTokens s = some true := by
  unfold m_lychgatelaw01_LexTokens m_lychgatelaw01_LexTokens'
  rw [tokens_ok, rtokens_ok, wakes_ok]
  have h := same_loop (lexR s).2.2 (lexR s).2.2.nn (lexR_len s) _ 0 rfl (by omega)
  simp only [Option.bind_some, Bool.not_true, Bool.false_eq_true, if_false, ne_eq, not_true_eq_false, decide_false, len_nat, List.length_map]
  rw [show lpO (l0_lychgatelaw01_LexTokens m_lex_Tokens m_lychgateref01_Tokens m_lychgatelaw01_wakes m_lychgatelaw01_ref) (((lexR s).2.2.xs.length : Int), 0, (lexR s).2.2, ⟨(lexR s).2.2.xs.map toR, (lexR s).2.2.nn⟩) = some (.inr ()) from h]
  rfl
/-! names -/
theorem all_nrun (p : UInt8 → Bool) : ∀ l : List UInt8, nrun p l = l.length ↔ l.all p = true
  | [] => by simp [nrun_nil]
  | c :: l => by
    rw [nrun_cons, List.all_cons]
    have ih := all_nrun p l
    cases p c with
    | true => simp [ih]
    | false => simp
def isName (l : List UInt8) : Bool := match l with
  | [] => false
  | c :: _ => isL c && (l.all isW && (decide (l.length ≤ 16) && !isKey l))
theorem name_ok {s : ByteArray} (hs : s.size ≤ 1048576) : m_lex_IsName s = some (isName (bs s)) := by
  unfold m_lex_IsName m_lex_IsName'
  have hz : decide (s ≠ lit []) = !(bs s).isEmpty := by
    cases h : bs s with
    | nil => have : s = lit [] := bs_ext h; simp [this]
    | cons c r =>
      have : s ≠ lit [] := fun e => by rw [e] at h; cases h
      simp [this]
  rw [hz]
  cases h : bs s with
  | nil => rfl
  | cons c r =>
    have hc : gsidx s 0 = some (c.toNat : Int) := gsidx_nat (i := 0) (by rw [h]; rfl)
    simp only [List.isEmpty_cons, Bool.not_false, if_true]
    rw [hc]
    simp only [Option.bind_some, letter_ok]
    unfold isName
    simp only
    by_cases hL : isL c = true
    · rw [if_pos hL]
      have := run_within (s := s) (i := 0) (by omega) (by omega)
      rw [List.drop_zero, h, Nat.zero_add] at this
      rw [show m_lex_run_within (s, 0) = m_lex_run_within (s, ((0 : Nat) : Int)) from rfl, this]
      have hlen : (c :: r).length = s.size := by rw [← h, bs_len]
      simp only [Option.bind_some, decide_eq_true_eq, hL, Bool.true_and]
      have hall := all_nrun isW (c :: r)
      by_cases ha : (c :: r).all isW = true
      · rw [if_pos (by rw [hall.2 ha, hlen]), ha]
        simp only [Bool.true_and, hlen]
        by_cases h16 : s.size ≤ 16
        · rw [if_pos (by omega), key_ok, h]
          simp [h16]
        · rw [if_neg (by omega)]
          simp [h16]
      · rw [if_neg (by intro e; exact ha (hall.1 (by omega)))]
        simp only [Bool.not_eq_true] at ha
        rw [ha]; simp
    · rw [if_neg hL]
      simp only [Bool.not_eq_true] at hL
      rw [hL]; simp
theorem rname_loop {s : ByteArray} (hs : s.size ≤ 1048576) : ∀ (n i : Nat), s.size - i = n → i ≤ s.size → lpO (l0_lychgateref01_IsName m_lychgateref01_letter m_lychgateref01_digit m_lychgateref01_IsKey) (s, (i : Int)) = some (if ((bs s).drop i).all isW then .inr s else .inl false)
  | 0, i, hn, hi => by
    have : i = s.size := by omega
    subst this
    rw [lpO_eq]
    simp [l0_lychgateref01_IsName, List.drop_eq_nil_of_le, bs_len]
  | n + 1, i, hn, hi => by
    have hlt : i < s.size := by omega
    obtain ⟨c, hc, hd⟩ := drop_cons (l := bs s) (i := i) (by rw [bs_len]; exact hlt)
    rw [lpO_eq]
    simp only [l0_lychgateref01_IsName, decide_eq_true_eq]
    rw [if_pos (Int.ofNat_lt.2 hlt), gsidx_nat hc]
    have hw := wrap_one (n := i) (by omega)
    simp only [Option.bind_some, rletter_ok, rdigit_ok]
    rw [hd, List.all_cons]
    have ih := rname_loop hs n (i + 1) (by omega) (by omega)
    cases hL : isL c with
    | true =>
      simp only [isW, hL, Bool.true_or, Bool.true_and, Bool.not_true, Bool.false_eq_true, if_false, Option.bind_some, hw]
      exact ih
    | false =>
      cases hD : isD c with
      | true =>
        simp only [isW, hL, hD, Bool.or_true, Bool.true_and, Bool.not_true, Bool.not_false, Bool.false_eq_true, if_false, if_true, Option.bind_some, hw]
        exact ih
      | false => simp [isW, hL, hD]
theorem rname_ok {s : ByteArray} (hs : s.size ≤ 1048576) : m_lychgateref01_IsName s = some (isName (bs s)) := by
  unfold m_lychgateref01_IsName m_lychgateref01_IsName'
  simp only [decide_eq_true_eq]
  cases h : bs s with
  | nil =>
    have h0 : s.size = 0 := by rw [← bs_len, h]; rfl
    rw [if_pos (by omega)]; rfl
  | cons c r =>
    have hlen : (c :: r).length = s.size := by rw [← h, bs_len]
    have h1 : 1 ≤ s.size := by rw [← hlen]; simp
    have hc : gsidx s 0 = some (c.toNat : Int) := gsidx_nat (i := 0) (by rw [h]; rfl)
    rw [if_neg (by omega)]
    simp only [Option.bind_some, decide_eq_true_eq]
    unfold isName
    simp only [hlen]
    by_cases h16 : s.size ≤ 16
    · rw [if_neg (by omega), hc]
      simp only [Option.bind_some, rletter_ok]
      cases hL : isL c with
      | false => simp
      | true =>
        have hlp := rname_loop hs _ 0 rfl (by omega)
        rw [List.drop_zero, h] at hlp
        simp only [Bool.not_true, Bool.false_eq_true, if_false]
        rw [show lpO (l0_lychgateref01_IsName m_lychgateref01_letter m_lychgateref01_digit m_lychgateref01_IsKey) (s, 0) = _ from hlp]
        cases ha : (c :: r).all isW with
        | true =>
          simp only [if_true, Option.bind_some, Sum.elim_inr]
          rw [rkey_ok, h]
          simp [h16]
        | false => simp
    · rw [if_pos (by omega)]
      simp [h16]
theorem name_key (l : List UInt8) : (isName l && isKey l) = false := by
  unfold isName
  split
  · rfl
  · cases isKey _ <;> simp
theorem lexNames {s : ByteArray} (hs : s.size ≤ 1048576) : m_lychgatelaw01_LexNames s = some true := by
  unfold m_lychgatelaw01_LexNames m_lychgatelaw01_LexNames'
  rw [wakes_ok, name_ok hs, rname_ok hs, key_ok, rkey_ok]
  have := name_key (bs s)
  revert this
  cases isName (bs s) <;> cases isKey (bs s) <;> simp
end Go.Px
