/- Part La: Px01A Px01B Px01C Px01D Px01E Px01F Px01G Px01H Px01I Px01J Px01K Px01N. -/
import Derived.Test.YtnoeppljfjbmeaaDoorSh
import Derived.Test.YtnoeppljfjbmeaaDoorA9
/-! Chapter 1: bytes of texts; runs of bytes of one sort. -/
namespace Go.Px
set_option linter.unusedVariables false
set_option linter.unusedSimpArgs false
abbrev bs (s : ByteArray) : List UInt8 := s.data.toList
theorem bs_len (s : ByteArray) : (bs s).length = s.size := by cases s; simp [bs, ByteArray.size]
theorem bs_ext {s t : ByteArray} (h : bs s = bs t) : s = t := by
  cases s; cases t
  congr 1
  exact Array.toList_inj.1 h
theorem bs_lit (l : List UInt8) : bs (lit l) = l := rfl
theorem bs_append (s t : ByteArray) : bs (s ++ t) = bs s ++ bs t := by
  show (s ++ t).data.toList = _
  rw [ByteArray.data_append, Array.toList_append]
theorem lpO_eq {s β : Type} (f : s → Option (Step s β)) (x : s) : lpO f x = (f x).bind fun | .next x' => lpO f x' | .done y => some y := loopO_eq f x
theorem gsidx_nat {s : ByteArray} {i : Nat} {c : UInt8} (h : (bs s)[i]? = some c) : gsidx s (i : Int) = some (c.toNat : Int) := by
  unfold gsidx
  rw [if_pos (Int.natCast_nonneg i)]
  simp only [Int.toNat_natCast]
  have h : s.data.toList[i]? = some c := h
  rw [h]; rfl
theorem drop_cons {l : List UInt8} {i : Nat} (h : i < l.length) : ∃ c, l[i]? = some c ∧ l.drop i = c :: l.drop (i + 1) :=
  ⟨l[i], List.getElem?_eq_getElem h, List.drop_eq_getElem_cons h⟩
theorem bs_extract (s : ByteArray) (i j : Nat) : bs (s.extract i j) = ((bs s).take j).drop i := by
  show (s.extract i j).data.toList = _
  rw [ByteArray.data_extract]
  simp [Array.toList_extract, List.extract, List.take_drop]
  by_cases h : i ≤ j
  · rw [Nat.add_sub_cancel' h]
  · have h1 : j - i = 0 := by omega
    rw [h1]
    simp
    omega
theorem gsslice_nat {s : ByteArray} {i j : Nat} (h1 : i ≤ j) (h2 : j ≤ s.size) : gsslice s (i : Int) (j : Int) = some (s.extract i j) := by
  unfold gsslice
  rw [if_pos ⟨Int.natCast_nonneg i, Int.ofNat_le.2 h1, Int.ofNat_le.2 h2⟩]
  rfl
theorem wrap_nat {n : Nat} (h : n < 9223372036854775808) : IntKind.i64.wrap (n : Int) = n := wrap_id (by omega) (by omega)
theorem wrap_add {n k : Nat} (h : n + k < 9223372036854775808) : IntKind.i64.wrap ((n : Int) + (k : Int)) = ((n + k : Nat) : Int) := by
  rw [wrap_id (by omega) (by omega)]; simp
theorem wrap_one {n : Nat} (h : n + 1 < 9223372036854775808) : IntKind.i64.wrap ((n : Int) + 1) = ((n + 1 : Nat) : Int) := by
  rw [wrap_id (by omega) (by omega)]; simp
/-- how many bytes of a sort stand at the beginning -/
def nrun (p : UInt8 → Bool) (l : List UInt8) : Nat := (l.takeWhile p).length
theorem nrun_nil (p : UInt8 → Bool) : nrun p [] = 0 := rfl
theorem nrun_cons (p : UInt8 → Bool) (c : UInt8) (l : List UInt8) : nrun p (c :: l) = if p c then nrun p l + 1 else 0 := by
  unfold nrun; rw [List.takeWhile_cons]; split <;> simp
theorem nrun_le (p : UInt8 → Bool) : ∀ l : List UInt8, nrun p l ≤ l.length
  | [] => Nat.le_refl _
  | c :: l => by rw [nrun_cons]; split <;> simp; exact nrun_le p l
def isL (b : UInt8) : Bool := (decide (97 ≤ b.toNat) && decide (b.toNat ≤ 122)) || decide (b.toNat = 95)
def isD (b : UInt8) : Bool := decide (48 ≤ b.toNat) && decide (b.toNat ≤ 57)
def isW (b : UInt8) : Bool := isL b || isD b
def notNl (b : UInt8) : Bool := decide (b.toNat ≠ 10)
theorem digit_ok (b : UInt8) : m_lex_digit (b.toNat : Int) = some (isD b) := by
  simp only [m_lex_digit, m_lex_digit', isD, decide_eq_true_eq]
  split
  · rename_i h
    have : 48 ≤ b.toNat := by omega
    simp [this]; omega
  · rename_i h
    have : ¬ 48 ≤ b.toNat := by omega
    simp [this]
theorem letter_ok (b : UInt8) : m_lex_letter (b.toNat : Int) = some (isL b) := by
  simp only [m_lex_letter, m_lex_letter', isL, decide_eq_true_eq]
  have e1 : (97 ≤ (b.toNat : Int)) ↔ 97 ≤ b.toNat := by omega
  have e2 : ((b.toNat : Int) ≤ 122) ↔ b.toNat ≤ 122 := by omega
  have e3 : ((b.toNat : Int) = 95) ↔ b.toNat = 95 := by omega
  simp only [e1, e2, e3]
  by_cases h1 : 97 ≤ b.toNat <;> by_cases h2 : b.toNat ≤ 122 <;> simp [h1, h2]
theorem within_ok (b : UInt8) : m_lex_within (b.toNat : Int) = some (isW b) := by
  simp only [m_lex_within, m_lex_within', letter_ok, digit_ok, isW, Option.bind_some]
  cases isL b <;> simp
theorem notnl_ok (b : UInt8) : m_lex_Tokens_1 (b.toNat : Int) = some (notNl b) := by
  simp only [m_lex_Tokens_1, m_lex_Tokens_1', notNl]
  congr 1
  exact decide_eq_decide.2 (by omega)
theorem run_loop {f : Int → Option Bool} {p : UInt8 → Bool} (hf : ∀ c : UInt8, f (c.toNat : Int) = some (p c)) {s : ByteArray} (hs : s.size < 4611686018427387904) :
    ∀ (n i : Nat), s.size - i = n → i ≤ s.size → lpO (l0_lex_run_digit f) (s, (i : Int)) = some ((i + nrun p ((bs s).drop i) : Nat) : Int)
  | 0, i, hn, hi => by
    have : i = s.size := by omega
    subst this
    rw [lpO_eq]
    simp [l0_lex_run_digit, List.drop_eq_nil_of_le, bs_len, nrun_nil]
  | n + 1, i, hn, hi => by
    have hlt : i < s.size := by omega
    obtain ⟨c, hc, hd⟩ := drop_cons (l := bs s) (i := i) (by rw [bs_len]; exact hlt)
    rw [lpO_eq]
    simp only [l0_lex_run_digit, decide_eq_true_eq]
    rw [if_pos (Int.ofNat_lt.2 hlt), gsidx_nat hc]
    simp only [Option.bind_some, hf]
    rw [hd, nrun_cons]
    cases hp : p c with
    | true =>
      simp only [if_true, Option.bind_some]
      rw [wrap_one (by omega), run_loop hf hs n (i + 1) (by omega) (by omega)]
      congr 2
      omega
    | false => simp
theorem run_digit {s : ByteArray} {i : Nat} (hs : s.size < 4611686018427387904) (hi : i ≤ s.size) : m_lex_run_digit (s, (i : Int)) = some ((i + nrun isD ((bs s).drop i) : Nat) : Int) := by
  show (lpO (l0_lex_run_digit m_lex_digit) (s, (i : Int))).bind some = _
  rw [run_loop digit_ok hs _ i rfl hi]; rfl
theorem run_within {s : ByteArray} {i : Nat} (hs : s.size < 4611686018427387904) (hi : i ≤ s.size) : m_lex_run_within (s, (i : Int)) = some ((i + nrun isW ((bs s).drop i) : Nat) : Int) := by
  show (lpO (l0_lex_run_digit m_lex_within) (s, (i : Int))).bind some = _
  rw [run_loop within_ok hs _ i rfl hi]; rfl
theorem run_notnl {s : ByteArray} {i : Nat} (hs : s.size < 4611686018427387904) (hi : i ≤ s.size) : m_lex_run_Tokens1 (s, (i : Int)) = some ((i + nrun notNl ((bs s).drop i) : Nat) : Int) := by
  show (lpO (l0_lex_run_digit m_lex_Tokens_1) (s, (i : Int))).bind some = _
  rw [run_loop notnl_ok hs _ i rfl hi]; rfl
end Go.Px
/-! Chapter 1: the tokens of a text, as plain Lean. -/
namespace Go.Px
set_option linter.unusedVariables false
set_option linter.unusedSimpArgs false
def isKey (l : List UInt8) : Bool := decide (l = [116, 121, 112, 101]) || (decide (l = [102, 110]) || (decide (l = [111, 119, 110]) || (decide (l = [99, 101, 108, 108]) || (decide (l = [99, 111, 117, 110, 116, 101, 100]) || (decide (l = [108, 111, 99, 107]) || (decide (l = [103, 117, 97, 114, 100]) || (decide (l = [119, 104, 101, 114, 101]) || (decide (l = [105, 110, 116]) || (decide (l = [109, 117, 116]) || (decide (l = [102, 114, 101, 101]) || (decide (l = [117, 110, 108, 111, 99, 107]) || (decide (l = [105, 102]) || (decide (l = [101, 108, 115, 101]) || (decide (l = [119, 104, 105, 108, 101]) || (decide (l = [114, 101, 116, 117, 114, 110]) || (decide (l = [97, 98, 111, 114, 116]) || (decide (l = [102, 111, 114, 107]) || (decide (l = [110, 101, 119]) || (decide (l = [97, 114, 114, 97, 121]))))))))))))))))))))
theorem key_step {p : Prop} [Decidable p] {X : Option Bool} {b : Bool} (h : X = some b) : (if decide p = true then some (decide p) else X) = some (decide p || b) := by
  subst h
  by_cases hp : p <;> simp [hp]
theorem key_bind {X : Option Bool} {b : Bool} (h : X = some b) : (X.bind fun y => some y) = some b := by subst h; rfl
theorem key_top {X : Option Bool} {b : Bool} (h : X = some b) : (X.bind fun y => if y = true then some true else some false) = some b := by subst h; cases b <;> rfl
theorem lit_dec (s : ByteArray) (l : List UInt8) : decide (s = lit l) = decide (bs s = l) := by
  refine decide_eq_decide.2 ⟨fun h => by rw [h]; rfl, fun h => bs_ext h⟩
theorem key_ok (s : ByteArray) : m_lex_IsKey s = some (isKey (bs s)) := by
  simp only [m_lex_IsKey, m_lex_IsKey', isKey, ← lit_dec]
  refine key_top ?_
  repeat (first | exact rfl | apply key_step | apply key_bind)
theorem key_lit (l : List UInt8) : m_lex_IsKey (lit l) = some (isKey l) := key_ok (lit l)
/-- the number that digits spell -/
def numF (a : Nat) : List UInt8 → Nat
  | [] => a
  | c :: r => numF (a * 10 + (c.toNat - 48)) r
def numVal (l : List UInt8) : Nat := numF 0 l
theorem numF_ge : ∀ (l : List UInt8) (a : Nat), a ≤ numF a l
  | [], a => Nat.le_refl _
  | c :: r, a => Nat.le_trans (by omega) (numF_ge r _)
def sgn (c : UInt8) : Bool := [123, 125, 40, 41, 91, 93, 44, 58, 59, 61, 43, 45, 38, 60].contains c
def two (l : List UInt8) : Bool := decide (l.take 2 = [45, 62]) || (decide (l.take 2 = [60, 61]) || decide (l.take 2 = [61, 61]))
/-- how long the sign is that begins a text; 0: none -/
def signLen (l : List UInt8) : Nat := if two l then 2 else match l with
  | [] => 0
  | c :: _ => if sgn c then 1 else 0
/-- what begins a text -/
inductive Nx where
  | skip (n : Nat)
  | tok (k : Int) (n : Nat) (v : Int)
  | err (e : Int)
/-- is there a letter at the place? -/
def letterAt : Option UInt8 → Bool
  | some c => isL c
  | none => false
def numBad (l : List UInt8) : Bool := decide (1099511627776 < numVal (l.take (nrun isD l))) || ((decide (1 < nrun isD l) && decide (l.head? = some 48)) || letterAt l[nrun isD l]?)
def nxNum (l : List UInt8) : Nx := if numBad l then .err 12 else .tok 3 (nrun isD l) (numVal (l.take (nrun isD l)))
def nxWord (l : List UInt8) : Nx := if 16 < nrun isW l then .err 13 else .tok (if isKey (l.take (nrun isW l)) then 2 else 1) (nrun isW l) 0
def nxSign (l : List UInt8) : Nx := if signLen l = 0 then .err 11 else .tok 4 (signLen l) 0
def nxt (l : List UInt8) : Nx := match l with
  | [] => .err 11
  | c :: r => if c.toNat = 32 ∨ c.toNat = 10 then .skip 1 else if c.toNat = 35 then .skip (nrun notNl (c :: r)) else if isD c then nxNum (c :: r) else if isL c then nxWord (c :: r) else nxSign (c :: r)
def lexF : Nat → Nat → List UInt8 → (Nat × Int) ⊕ List T_lex_Token
  | 0, _, _ => .inr []
  | f + 1, at_, l => if l.isEmpty then .inr [] else match nxt l with
    | .skip n => lexF f (at_ + n) (l.drop n)
    | .err e => .inl (at_, e)
    | .tok k n v => match lexF f (at_ + n) (l.drop n) with
      | .inl x => .inl x
      | .inr ts => .inr (⟨k, lit (l.take n), v, at_⟩ :: ts)
/-- the tokens of a text that begins at a place, but for the end; or the fault -/
def lexT (at_ : Nat) (l : List UInt8) : (Nat × Int) ⊕ List T_lex_Token := lexF l.length at_ l
theorem signLen_le (l : List UInt8) : signLen l ≤ l.length := by
  unfold signLen
  split
  · rename_i h
    unfold two at h
    match l with
    | [] => simp at h
    | [a] => simp at h
    | a :: b :: r => simp
  · match l with
    | [] => simp
    | a :: r => simp only; split <;> simp
def NxOK (m : Nat) : Nx → Prop
  | .skip n => 1 ≤ n ∧ n ≤ m
  | .tok _ n _ => 1 ≤ n ∧ n ≤ m
  | .err _ => True
theorem nxt_pos {l : List UInt8} (h : l ≠ []) : NxOK l.length (nxt l) := by
  match l, h with
  | c :: r, _ =>
    show NxOK (c :: r).length (if c.toNat = 32 ∨ c.toNat = 10 then .skip 1 else if c.toNat = 35 then .skip (nrun notNl (c :: r)) else if isD c then nxNum (c :: r) else if isL c then nxWord (c :: r) else nxSign (c :: r))
    split
    · exact ⟨by omega, by simp⟩
    · rename_i h1
      split
      · rename_i h2
        refine ⟨?_, nrun_le _ _⟩
        rw [nrun_cons]
        have : notNl c = true := by unfold notNl; simp; omega
        simp [this]
      · split
        · rename_i hd
          unfold nxNum
          cases numBad (c :: r) with
          | true => trivial
          | false =>
            refine ⟨?_, nrun_le _ _⟩
            rw [nrun_cons]; simp [hd]
        · split
          · rename_i hl
            unfold nxWord
            split
            · trivial
            · refine ⟨?_, nrun_le _ _⟩
              rw [nrun_cons]; simp [isW, hl]
          · unfold nxSign
            split
            · trivial
            · exact ⟨by omega, signLen_le _⟩
theorem lexF_fuel : ∀ (f : Nat) (l : List UInt8) (at_ : Nat) (g : Nat), l.length ≤ f → l.length ≤ g → lexF f at_ l = lexF g at_ l
  | 0, l, at_, g, h, hg => by
    have : l = [] := List.eq_nil_of_length_eq_zero (by omega)
    subst this
    cases g <;> rfl
  | f + 1, l, at_, g, h, hg => by
    match l with
    | [] => cases g <;> rfl
    | c :: r =>
      match g, hg with
      | g + 1, hg =>
        have hp := nxt_pos (l := c :: r) (by simp)
        unfold lexF
        simp only [List.isEmpty_cons, Bool.false_eq_true, if_false]
        cases hn : nxt (c :: r) with
        | err e => rfl
        | skip n =>
          rw [hn] at hp
          simp only [NxOK] at hp ⊢
          exact lexF_fuel f _ _ g (by rw [List.length_drop]; simp only [List.length_cons] at *; omega) (by rw [List.length_drop]; simp only [List.length_cons] at *; omega)
        | tok k n v =>
          rw [hn] at hp
          simp only [NxOK] at hp ⊢
          rw [lexF_fuel f ((c :: r).drop n) _ g (by rw [List.length_drop]; simp only [List.length_cons] at *; omega) (by rw [List.length_drop]; simp only [List.length_cons] at *; omega)]
theorem lexT_nil (at_ : Nat) : lexT at_ [] = .inr [] := rfl
theorem lexT_cons (at_ : Nat) {l : List UInt8} (h : l ≠ []) : lexT at_ l = match nxt l with
    | .skip n => lexT (at_ + n) (l.drop n)
    | .err e => .inl (at_, e)
    | .tok k n v => match lexT (at_ + n) (l.drop n) with
      | .inl x => .inl x
      | .inr ts => .inr (⟨k, lit (l.take n), v, at_⟩ :: ts) := by
  match l, h with
  | c :: r, _ =>
    have hp := nxt_pos (l := c :: r) (by simp)
    unfold lexT
    show lexF (r.length + 1) at_ (c :: r) = _
    rw [lexF]
    simp only [List.isEmpty_cons, Bool.false_eq_true, if_false]
    cases hn : nxt (c :: r) with
    | err e => rfl
    | skip n =>
      rw [hn] at hp
      simp only [NxOK] at hp ⊢
      exact lexF_fuel _ _ _ _ (by rw [List.length_drop]; simp only [List.length_cons] at *; omega) (Nat.le_refl _)
    | tok k n v =>
      rw [hn] at hp
      simp only [NxOK] at hp ⊢
      rw [lexF_fuel r.length ((c :: r).drop n) _ ((c :: r).drop n).length (by rw [List.length_drop]; simp only [List.length_cons] at *; omega) (Nat.le_refl _)]
end Go.Px
/-! Chapter 1: what the program's functions find. -/
namespace Go.Px
set_option linter.unusedVariables false
set_option linter.unusedSimpArgs false
theorem take_nrun (p : UInt8 → Bool) : ∀ l : List UInt8, l.take (nrun p l) = l.takeWhile p
  | [] => rfl
  | c :: l => by
    rw [nrun_cons, List.takeWhile_cons]
    cases p c with
    | true => simp [take_nrun p l]
    | false => simp
theorem all_run (p : UInt8 → Bool) (l : List UInt8) : ∀ c ∈ l.take (nrun p l), p c = true := by
  rw [take_nrun]
  induction l with
  | nil => simp
  | cons a l ih =>
    rw [List.takeWhile_cons]
    cases h : p a with
    | true => simpa [h] using ih
    | false => simp
theorem drop_len {s : ByteArray} {i : Nat} {l : List UInt8} (h : (bs s).drop i = l) (hl : l ≠ []) : i < s.size ∧ l.length = s.size - i := by
  subst h
  rw [List.length_drop, bs_len]
  refine ⟨?_, rfl⟩
  rcases Nat.lt_or_ge i s.size with h | h
  · exact h
  · exact absurd (List.drop_eq_nil_of_le (by rw [bs_len]; exact h)) hl
theorem cut_ok {s : ByteArray} {i n : Nat} {l : List UInt8} (h : (bs s).drop i = l) (hl : l ≠ []) (hn : n ≤ l.length) : gsslice s (i : Int) ((i + n : Nat) : Int) = some (lit (l.take n)) := by
  obtain ⟨h1, h2⟩ := drop_len h hl
  rw [gsslice_nat (by omega) (by omega)]
  congr 1
  apply bs_ext
  rw [bs_extract, bs_lit, ← h, List.take_drop]
theorem byte_ok {s : ByteArray} {i n : Nat} {l : List UInt8} (h : (bs s).drop i = l) {c : UInt8} (hc : l[n]? = some c) : gsidx s ((i + n : Nat) : Int) = some (c.toNat : Int) := by
  apply gsidx_nat
  rw [← h, List.getElem?_drop] at hc
  exact hc
theorem size_lit (l : List UInt8) : (lit l).size = l.length := by rw [← bs_len, bs_lit]
theorem parse_digits {M : Nat} (hM : M = 18446744073709551615) : ∀ (l : List UInt8) (a : Nat), (∀ c ∈ l, isD c = true) → a ≤ M → Lib.parseUintM M a l = if numF a l ≤ M then .ok (numF a l) else .range
  | [], a, _, ha => by rw [if_pos (show numF a [] ≤ M from ha)]; rfl
  | c :: r, a, h, ha => by
    have hc := h c (by simp)
    simp only [isD, Bool.and_eq_true, decide_eq_true_eq] at hc
    have hge := numF_ge r (a * 10 + (c.toNat - 48))
    have e : numF a (c :: r) = numF (a * 10 + (c.toNat - 48)) r := rfl
    rw [e]
    unfold Lib.parseUintM
    rw [if_pos hc]
    split
    · rw [if_neg (by omega)]
    · split
      · rw [if_neg (by omega)]
      · exact parse_digits hM r _ (fun x hx => h x (by simp [hx])) (by omega)
theorem parse_num {l : List UInt8} (hl : l ≠ []) (h : ∀ c ∈ l, isD c = true) : Lib.parseIntB 64 l = if numVal l < 9223372036854775808 then .ok (numVal l : Int) else .range := by
  match l, hl with
  | c :: r, _ =>
    have hc := h c (by simp)
    simp only [isD, Bool.and_eq_true, decide_eq_true_eq] at hc
    have e43 : ¬ (c.toNat = 43 ∨ c.toNat = 45) := by omega
    have e45 : ¬ c.toNat = 45 := by omega
    unfold Lib.parseIntB Lib.parseUintB
    simp only
    rw [if_neg e43, if_neg (by simp)]
    generalize hM : (2 ^ 64 - 1 : Nat) = M
    generalize hB : (2 ^ (64 - 1) : Nat) = B
    have hM : M = 18446744073709551615 := by rw [← hM]
    have hB : B = 9223372036854775808 := by rw [← hB]
    rw [parse_digits hM _ _ h (by omega)]
    simp only [e45, false_and, not_false_eq_true, true_and, if_false]
    show (match (if numVal (c :: r) ≤ M then Lib.NumEnd.ok (numVal (c :: r)) else .range) with
      | .syntax => Lib.NumEnd.syntax
      | .range => .range
      | .ok u => if B ≤ u then .range else .ok (u : Int)) = _
    by_cases h1 : numVal (c :: r) ≤ M
    · rw [if_pos h1]
      simp only
      by_cases h2 : numVal (c :: r) < 9223372036854775808
      · rw [if_pos h2, if_neg (by omega)]
      · rw [if_neg h2, if_pos (by omega)]
    · rw [if_neg h1, if_neg (by omega)]
abbrev tk0 : T_lex_Token := ⟨0, lit [], 0, 0⟩
theorem number_ok {s : ByteArray} {i : Nat} {c : UInt8} {r : List UInt8} (hs : s.size ≤ 16384) (hl : (bs s).drop i = c :: r) (hd : isD c = true) :
    m_lex_number (s, (i : Int), ((i + nrun isD (c :: r) : Nat) : Int)) = some (if numBad (c :: r) then (tk0, 12) else (⟨3, lit ((c :: r).take (nrun isD (c :: r))), (numVal ((c :: r).take (nrun isD (c :: r))) : Nat), i⟩, 0)) := by
  obtain ⟨h1, h2⟩ := drop_len hl (by simp)
  have hn := nrun_le isD (c :: r)
  have hn1 : 1 ≤ nrun isD (c :: r) := by rw [nrun_cons]; simp [hd]
  generalize hN : nrun isD (c :: r) = n at *
  have hall := all_run isD (c :: r)
  rw [hN] at hall
  have hne : (c :: r).take n ≠ [] := by
    match n, hn1 with
    | n + 1, _ => simp
  have hlen : ((c :: r).take n).length = n := by rw [List.length_take]; omega
  have hhead : ((c :: r).take n)[0]? = some c := by
    match n, hn1 with
    | n + 1, _ => simp
  have hlast : ∀ (X Y : Option (T_lex_Token × Int)), (if decide (((i + n : Nat) : Int) < (s.size : Int)) = true then (gsidx s ((i + n : Nat) : Int)).bind fun y => (m_lex_letter y).bind fun z => if z = true then X else Y else Y) = if letterAt (c :: r)[n]? = true then X else Y := by
    intro X Y
    by_cases hb : i + n < s.size
    · have : n < (c :: r).length := by omega
      have hg := List.getElem?_eq_getElem this
      generalize (c :: r)[n] = b at hg
      rw [byte_ok hl hg, hg]
      simp only [decide_eq_true_eq, Option.bind_some, letter_ok]
      rw [if_pos (Int.ofNat_lt.2 hb)]
      rfl
    · have : (c :: r)[n]? = none := List.getElem?_eq_none (by omega)
      rw [this]
      simp only [decide_eq_true_eq]
      rw [if_neg (fun h => hb (Int.ofNat_lt.1 h))]
      rfl
  unfold m_lex_number m_lex_number'
  rw [show ((s, (i : Int), ((i + n : Nat) : Int)) : ByteArray × Int × Int).fst = s from rfl]
  simp only
  rw [cut_ok hl (by simp) (by omega)]
  simp only [Option.bind_some, m_strconv_ParseInt, libParseInt, true_and]
  rw [if_pos (by rw [size_lit, hlen]; omega), show (lit ((c :: r).take n)).data.toList = (c :: r).take n from rfl, parse_num hne hall]
  by_cases hv : numVal ((c :: r).take n) < 9223372036854775808
  · rw [if_pos hv]
    simp only [Option.bind_some, Sum.elim_inl]
    unfold numBad
    rw [hN]
    by_cases h40 : 1099511627776 < numVal ((c :: r).take n)
    · simp only [decide_eq_true_eq]
      rw [if_pos (by omega)]
      simp [h40]
    · simp only [decide_eq_true_eq]
      rw [if_neg (by omega), size_lit, hlen]
      have hl2 := hlast (some (T_lex_Token.mk 0 (lit []) 0 0, 12)) (some (T_lex_Token.mk 3 (lit ((c :: r).take n)) (numVal ((c :: r).take n) : Nat) i, 0))
      simp only [decide_eq_true_eq] at hl2
      have e0 : gsidx (lit ((c :: r).take n)) 0 = some (c.toNat : Int) := gsidx_nat (i := 0) hhead
      by_cases h1n : 1 < n
      · rw [if_pos (by omega), e0]
        simp only [Option.bind_some]
        by_cases h48 : c.toNat = 48
        · rw [if_pos (by omega)]
          have : c = 48 := UInt8.toNat_inj.1 (by simpa using h48)
          simp [h40, h1n, this]
        · rw [if_neg (by omega), hl2]
          have : ¬ c = 48 := fun h => h48 (by rw [h]; rfl)
          simp only [h40, h1n, this, decide_true, decide_false, List.head?_cons, Option.some.injEq, Bool.and_false, Bool.false_or]
          cases letterAt (c :: r)[n]? <;> rfl
      · rw [if_neg (by omega), hl2]
        simp only [h40, h1n, decide_false, Bool.false_and, Bool.false_or]
        cases letterAt (c :: r)[n]? <;> rfl
  · rw [if_neg hv]
    simp only [Option.bind_some, Sum.elim_inr]
    unfold numBad
    rw [hN]
    have h40 : 1099511627776 < numVal ((c :: r).take n) := by omega
    simp [h40]
theorem word_ok {s : ByteArray} {i : Nat} {l : List UInt8} {n : Nat} (hs : s.size ≤ 16384) (hl : (bs s).drop i = l) (hne : l ≠ []) (hn : n ≤ l.length) :
    m_lex_word (s, (i : Int), ((i + n : Nat) : Int)) = some (if 16 < n then (tk0, 13) else (⟨if isKey (l.take n) then 2 else 1, lit (l.take n), 0, i⟩, 0)) := by
  unfold m_lex_word m_lex_word'
  simp only
  rw [cut_ok hl hne hn]
  have hlen : (l.take n).length = n := by rw [List.length_take]; omega
  simp only [Option.bind_some, size_lit, hlen, decide_eq_true_eq, key_lit]
  by_cases h : 16 < n
  · rw [if_pos (by omega), if_pos h]
  · rw [if_neg (by omega), if_neg h]
    by_cases hk : isKey (l.take n) = true
    · rw [if_pos hk, if_pos hk]; rfl
    · rw [if_neg hk, if_neg hk]; rfl
end Go.Px
/-! Chapter 1: the program's tokens are those of the plain Lean. -/
namespace Go.Px
set_option linter.unusedVariables false
set_option linter.unusedSimpArgs false
theorem prefix_ok (l : List UInt8) (a b : UInt8) : m_strings_HasPrefix (lit l, lit [a, b]) = some (decide (l.take 2 = [a, b])) := by
  show ((m_internal_stringslite_HasPrefix' (lit l, lit [a, b])).bind fun y => some y) = _
  unfold m_internal_stringslite_HasPrefix'
  simp only [size_lit, List.length_cons, List.length_nil, decide_eq_true_eq]
  by_cases h : 2 ≤ l.length
  · rw [if_pos (by omega)]
    have : gsslice (lit l) 0 ((2 : Nat) : Int) = some (lit (l.take 2)) := by
      have := cut_ok (s := lit l) (i := 0) (n := 2) (l := l) rfl (by intro e; subst e; simp at h) h
      simpa using this
    rw [show ((0 + 1 + 1 : Nat) : Int) = ((2 : Nat) : Int) from rfl, this]
    simp only [Option.bind_some]
    congr 1
    refine decide_eq_decide.2 ⟨fun h => ?_, fun h => by rw [h]⟩
    have := congrArg bs h
    simpa [bs_lit] using this
  · rw [if_neg (by omega)]
    have : l.take 2 ≠ [a, b] := by
      intro e
      have := congrArg List.length e
      rw [List.length_take] at this
      simp at this; omega
    simp [this]
theorem indexByte_nonneg : ∀ (l : List UInt8) (c : UInt8), (0 ≤ Lib.indexByte l c) ↔ l.contains c = true
  | [], c => by simp [Lib.indexByte]
  | b :: l, c => by
    have ih := indexByte_nonneg l c
    have hg := Lib.indexByte_ge l c
    unfold Lib.indexByte
    by_cases h : b = c
    · subst h; simp
    · have h' : (b == c) = false := by simpa using h
      have h2 : (c == b) = false := by simpa using fun e => h e.symm
      simp only [h', Bool.false_eq_true, if_false, List.contains_cons, h2, Bool.false_or]
      rw [← ih]
      by_cases e : Lib.indexByte l c = -1
      · rw [if_pos (by simpa using e)]; omega
      · rw [if_neg (by simpa using e)]; omega
theorem sign_ok {l : List UInt8} (hne : l ≠ []) : m_lex_sign (lit l) = some (lit (l.take (signLen l))) := by
  show (lpO (l0_lex_sign m_strings_HasPrefix m_strings_IndexByte) (lit l, (lit [45, 62], lit [60, 61], lit [61, 61]), 0)).bind _ = _
  have w1 : IntKind.i64.wrap (0 + 1) = 1 := by decide
  have w2 : IntKind.i64.wrap (1 + 1) = 2 := by decide
  have w3 : IntKind.i64.wrap (2 + 1) = 3 := by decide
  have g0 : ∀ A B C : ByteArray, gnth [A, B, C] 0 = some A := fun _ _ _ => rfl
  have g1 : ∀ A B C : ByteArray, gnth [A, B, C] 1 = some B := fun _ _ _ => rfl
  have g2 : ∀ A B C : ByteArray, gnth [A, B, C] 2 = some C := fun _ _ _ => rfl
  have two_take : two l = true → l.take 2 = [45, 62] ∨ l.take 2 = [60, 61] ∨ l.take 2 = [61, 61] := by
    intro h; simpa [two] using h
  have loop : lpO (l0_lex_sign m_strings_HasPrefix m_strings_IndexByte) (lit l, (lit [45, 62], lit [60, 61], lit [61, 61]), 0) = some (if two l then .inl (lit (l.take 2)) else .inr (lit l)) := by
    rw [lpO_eq]
    simp only [l0_lex_sign, prefix_ok, Option.bind_some, g0, w1]
    by_cases h1 : l.take 2 = [45, 62]
    · simp [h1, two]
    · simp only [h1, decide_false, Bool.false_eq_true, if_false, Option.bind_some]
      rw [show decide ((0 : Int) < 3) = true from rfl]
      simp only [if_true, Option.bind_some]
      rw [lpO_eq]
      simp only [l0_lex_sign, prefix_ok, Option.bind_some, g1, w2]
      rw [show decide ((1 : Int) < 3) = true from rfl]
      by_cases h2 : l.take 2 = [60, 61]
      · simp [h2, two]
      · simp only [h2, decide_false, Bool.false_eq_true, if_false, Option.bind_some, if_true]
        rw [lpO_eq]
        simp only [l0_lex_sign, prefix_ok, Option.bind_some, g2, w3]
        rw [show decide ((2 : Int) < 3) = true from rfl]
        by_cases h3 : l.take 2 = [61, 61]
        · simp [h3, two]
        · simp only [h3, decide_false, Bool.false_eq_true, if_false, Option.bind_some, if_true]
          rw [lpO_eq]
          simp only [l0_lex_sign]
          rw [show decide ((3 : Int) < 3) = false from rfl]
          simp [two, h1, h2, h3]
  rw [loop]
  unfold signLen
  by_cases ht : two l = true
  · rw [if_pos ht, if_pos ht]; rfl
  · rw [if_neg ht, if_neg ht]
    match l, hne with
    | c :: r, _ =>
      have e0 : gsidx (lit (c :: r)) 0 = some (c.toNat : Int) := gsidx_nat (i := 0) rfl
      have e1 : gsslice (lit (c :: r)) 0 1 = some (lit [c]) := by
        have := cut_ok (s := lit (c :: r)) (i := 0) (n := 1) (l := c :: r) rfl (by simp) (by simp)
        simpa using this
      simp only [Option.bind_some, Sum.elim_inr]
      rw [e0, e1]
      simp only [Option.bind_some, m_strings_IndexByte, libIndexByte, Int.toNat_natCast]
      have hb : (0 ≤ Lib.indexByte (lit [123, 125, 40, 41, 91, 93, 44, 58, 59, 61, 43, 45, 38, 60]).data.toList c.toNat.toUInt8) ↔ sgn c = true := by
        have : c.toNat.toUInt8 = c := by simp [Nat.toUInt8]
        rw [this]
        exact indexByte_nonneg _ c
      by_cases hs : sgn c = true
      · rw [if_pos (decide_eq_true (hb.2 hs)), if_pos hs]; rfl
      · rw [if_neg (fun h => hs (hb.1 (of_decide_eq_true h))), if_neg hs]; rfl
noncomputable abbrev progStep := l0_lex_Tokens m_lex_run_Tokens1 m_lex_digit m_lex_run_digit m_lex_number m_lex_letter m_lex_run_within m_lex_word m_lex_sign
theorem step_ok {s : ByteArray} {i : Nat} {l : List UInt8} (hs : s.size ≤ 16384) (hl : (bs s).drop i = l) (hne : l ≠ []) (out : Sl T_lex_Token) :
    progStep (s, (i : Int), out) = match nxt l with
      | .skip n => some (.next (s, ((i + n : Nat) : Int), out))
      | .err e => some (.done (.inl ((i : Int), e)))
      | .tok k n v => (gapp 40 out [⟨k, lit (l.take n), v, i⟩]).bind fun o => some (.next (s, ((i + n : Nat) : Int), o)) := by
  obtain ⟨h1, h2⟩ := drop_len hl hne
  match l, hne with
  | c :: r, _ =>
    have hc : gsidx s (i : Int) = some (c.toNat : Int) := byte_ok (n := 0) hl rfl
    have hpos := nxt_pos (l := c :: r) (by simp)
    simp only [progStep, l0_lex_Tokens]
    rw [if_pos (decide_eq_true (Int.ofNat_lt.2 h1)), hc]
    simp only [Option.bind_some]
    have e32 : ((c.toNat : Int) = 32) ↔ c.toNat = 32 := by omega
    have e10 : ((c.toNat : Int) = 10) ↔ c.toNat = 10 := by omega
    have e35 : ((c.toNat : Int) = 35) ↔ c.toNat = 35 := by omega
    have rest : ∀ (k : Int) (n : Nat) (v : Int), n ≤ (c :: r).length → (gapp 40 out [⟨k, lit ((c :: r).take n), v, i⟩]).bind (fun o => some (Step.next (β := Int × Int ⊕ ByteArray × Sl T_lex_Token) (s, IntKind.i64.wrap ((i : Int) + ((lit ((c :: r).take n)).size : Int)), o))) = (gapp 40 out [⟨k, lit ((c :: r).take n), v, i⟩]).bind fun o => some (.next (s, ((i + n : Nat) : Int), o)) := by
      intro k n v hn
      have hz : (lit ((c :: r).take n)).size = n := by rw [size_lit, List.length_take]; omega
      rw [hz, wrap_add (by omega)]
    unfold nxt at hpos ⊢
    simp only at hpos ⊢
    by_cases hb : c.toNat = 32 ∨ c.toNat = 10
    · rw [if_pos hb]
      simp only
      rcases hb with hb | hb
      · rw [if_pos (decide_eq_true (e32.2 hb))]
        simp [wrap_one (n := i) (by omega)]
      · have : ¬ c.toNat = 32 := by omega
        rw [if_neg (fun h => this (e32.1 (of_decide_eq_true h)))]
        simp only [Option.bind_some, decide_eq_true_eq]
        rw [if_pos (e10.2 hb)]
        simp [wrap_one (n := i) (by omega)]
    · rw [if_neg hb] at hpos ⊢
      have n32 : ¬ c.toNat = 32 := fun h => hb (.inl h)
      have n10 : ¬ c.toNat = 10 := fun h => hb (.inr h)
      rw [if_neg (fun h => n32 (e32.1 (of_decide_eq_true h)))]
      simp only [Option.bind_some, decide_eq_true_eq]
      rw [if_neg (fun h => n10 (e10.1 h))]
      by_cases h35 : c.toNat = 35
      · rw [if_pos (e35.2 h35), if_pos h35, run_notnl (by omega) (by omega), hl]
        simp
      · rw [if_neg (fun h => h35 (e35.1 h))]
        rw [if_neg h35] at hpos ⊢
        simp only [digit_ok, letter_ok, Option.bind_some]
        by_cases hd : isD c = true
        · rw [if_pos hd] at hpos
          rw [if_pos hd, if_pos hd, run_digit (by omega) (by omega), hl]
          simp only [Option.bind_some]
          rw [number_ok hs hl hd]
          unfold nxNum at hpos ⊢
          by_cases hbad : numBad (c :: r) = true
          · rw [if_pos hbad, if_pos hbad]
            simp
          · rw [if_neg hbad] at hpos
            rw [if_neg hbad, if_neg hbad]
            simp only [NxOK] at hpos
            simp only [Option.bind_some, Sum.elim_inr, ne_eq, not_true_eq_false, if_false, Option.bind_assoc, Sum.elim_inl]
            exact rest _ _ _ hpos.2
        · rw [if_neg hd] at hpos
          rw [if_neg hd, if_neg hd]
          by_cases hL : isL c = true
          · rw [if_pos hL] at hpos
            rw [if_pos hL, if_pos hL, run_within (by omega) (by omega), hl]
            simp only [Option.bind_some]
            rw [word_ok hs hl (by simp) (nrun_le _ _)]
            unfold nxWord at hpos ⊢
            by_cases h16 : 16 < nrun isW (c :: r)
            · rw [if_pos h16, if_pos h16]
              simp
            · rw [if_neg h16] at hpos
              rw [if_neg h16, if_neg h16]
              simp only [NxOK] at hpos
              simp only [Option.bind_some, Sum.elim_inr, ne_eq, not_true_eq_false, if_false, Option.bind_assoc, Sum.elim_inl]
              exact rest _ _ _ hpos.2
          · rw [if_neg hL] at hpos
            rw [if_neg hL, if_neg hL]
            have hcut : gsslice s (i : Int) (s.size : Int) = some (lit (c :: r)) := by
              have := cut_ok (n := (c :: r).length) hl (by simp) (Nat.le_refl _)
              rw [List.take_length] at this
              rw [← this]; congr 1; omega
            rw [hcut]
            simp only [Option.bind_some]
            rw [sign_ok (by simp)]
            simp only [Option.bind_some, decide_eq_true_eq]
            unfold nxSign at hpos ⊢
            by_cases h0 : signLen (c :: r) = 0
            · rw [if_pos h0, if_pos (by rw [h0]; rfl)]
              simp
            · rw [if_neg h0] at hpos
              have hx : ¬ lit ((c :: r).take (signLen (c :: r))) = lit [] := by
                intro e
                have := congrArg (fun x => (bs x).length) e
                simp only [bs_lit] at this
                rw [List.length_take] at this
                have := signLen_le (c :: r)
                simp only [List.length_nil] at *; omega
              rw [if_neg h0, if_neg hx]
              simp only [NxOK] at hpos
              simp only [Option.bind_some, Sum.elim_inr, ne_eq, not_true_eq_false, if_false, Option.bind_assoc, Sum.elim_inl]
              exact rest _ _ _ hpos.2
theorem lex_loop {s : ByteArray} (hs : s.size ≤ 16384) : ∀ (n i : Nat) (acc : List T_lex_Token) (nn : Bool), s.size - i ≤ n → i ≤ s.size → acc.length ≤ i →
    lpO progStep (s, (i : Int), ⟨acc, nn⟩) = some (match lexT i ((bs s).drop i) with
      | .inl x => .inl ((x.1 : Int), x.2)
      | .inr ts => .inr (s, ⟨acc ++ ts, nn || !ts.isEmpty⟩)) := by
  intro n
  induction n with
  | zero =>
    intro i acc nn hn hi ha
    have : i = s.size := by omega
    subst this
    rw [lpO_eq]
    have hd : (bs s).drop s.size = [] := List.drop_eq_nil_of_le (by rw [bs_len]; exact Nat.le_refl _)
    rw [hd, lexT_nil]
    simp [progStep, l0_lex_Tokens]
  | succ n ih =>
    intro i acc nn hn hi ha
    rcases Nat.lt_or_ge i s.size with hlt | hge
    · have hne : (bs s).drop i ≠ [] := by
        intro e
        have := congrArg List.length e
        rw [List.length_drop, bs_len] at this
        simp at this; omega
      have hp := nxt_pos hne
      have hlen : ((bs s).drop i).length = s.size - i := by rw [List.length_drop, bs_len]
      rw [lpO_eq, step_ok hs rfl hne, lexT_cons _ hne]
      cases hx : nxt ((bs s).drop i) with
      | err e => rfl
      | skip k =>
        rw [hx] at hp
        simp only [NxOK] at hp
        simp only [Option.bind_some, List.drop_drop]
        rw [ih (i + k) acc nn (by omega) (by omega) (by omega)]
      | tok k m v =>
        rw [hx] at hp
        simp only [NxOK] at hp
        simp only [List.drop_drop]
        rw [gapp_ok (by simp only [List.length_cons, List.length_nil]; omega) (by simp only [List.length_cons, List.length_nil]; omega)]
        simp only [Option.bind_some]
        rw [ih (i + m) _ _ (by omega) (by omega) (by simp only [List.length_append, List.length_cons, List.length_nil]; omega)]
        cases lexT (i + m) ((bs s).drop (i + m)) with
        | inl x => rfl
        | inr ts => simp
    · have : i = s.size := by omega
      exact ih i acc nn (by omega) hi ha
/-- the place of the fault, its number, the tokens -/
def lexR (s : ByteArray) : Int × Int × Sl T_lex_Token := if 16384 < s.size then (0, 10, ⟨[], false⟩) else match lexT 0 (bs s) with
  | .inl x => ((x.1 : Int), x.2, ⟨[], false⟩)
  | .inr ts => (0, 0, ⟨ts ++ [⟨0, lit [], 0, s.size⟩], true⟩)
theorem lexT_len : ∀ (m : Nat) (l : List UInt8) (i : Nat) (ts : List T_lex_Token), l.length ≤ m → lexT i l = .inr ts → ts.length ≤ l.length
  | 0, l, i, ts, hm, h => by
    have : l = [] := List.eq_nil_of_length_eq_zero (by omega)
    subst this
    rw [lexT_nil] at h; cases h; simp
  | m + 1, l, i, ts, hm, h => by
    by_cases hne : l = []
    · subst hne
      rw [lexT_nil] at h; cases h; simp
    · have hp := nxt_pos hne
      rw [lexT_cons _ hne] at h
      cases hx : nxt l with
      | err e => rw [hx] at h; cases h
      | skip k =>
        rw [hx] at h hp
        simp only [NxOK] at hp
        have := lexT_len m _ _ _ (by rw [List.length_drop]; omega) h
        rw [List.length_drop] at this; omega
      | tok k n v =>
        rw [hx] at h hp
        simp only [NxOK] at hp
        simp only at h
        cases hr : lexT (i + n) (l.drop n) with
        | inl x => rw [hr] at h; cases h
        | inr us =>
          rw [hr] at h
          cases h
          have := lexT_len m _ _ _ (by rw [List.length_drop]; omega) hr
          rw [List.length_drop] at this
          simp only [List.length_cons]; omega
theorem tokens_ok (s : ByteArray) : m_lex_Tokens s = some (lexR s) := by
  unfold m_lex_Tokens m_lex_Tokens' lexR
  simp only [decide_eq_true_eq]
  by_cases h : 16384 < s.size
  · rw [if_pos (by omega), if_pos h]; rfl
  · rw [if_neg (by omega), if_neg h]
    have := lex_loop (s := s) (by omega) s.size 0 [] false (by omega) (by omega) (by simp)
    rw [List.drop_zero] at this
    rw [show ((s, 0, Sl.mk [] false) : ByteArray × Int × Sl T_lex_Token) = (s, ((0 : Nat) : Int), ⟨[], false⟩) from rfl, this]
    cases hx : lexT 0 (bs s) with
    | inl x => rfl
    | inr ts =>
      have hl := lexT_len _ _ _ _ (Nat.le_refl _) hx
      rw [bs_len] at hl
      simp only [Option.bind_some, Sum.elim_inr, List.nil_append, Bool.false_or]
      rw [gapp_ok (by simp only [List.length_cons, List.length_nil]; omega) (by simp only [List.length_cons, List.length_nil]; omega)]
      simp
end Go.Px
/-! Chapter 1: the document's tokens are those of the plain Lean. -/
namespace Go.Px
set_option linter.unusedVariables false
set_option linter.unusedSimpArgs false
theorem rletter_ok (b : UInt8) : m_lychgateref01_letter (b.toNat : Int) = some (isL b) := letter_ok b
theorem rdigit_ok (b : UInt8) : m_lychgateref01_digit (b.toNat : Int) = some (isD b) := digit_ok b
theorem rkey_lit (l : List UInt8) : m_lychgateref01_IsKey (lit l) = some (isKey l) := key_lit l
theorem rkey_ok (s : ByteArray) : m_lychgateref01_IsKey s = some (isKey (bs s)) := key_ok s
theorem byte_eq (c : UInt8) (k : Nat) (hk : k < 256) : decide ((c.toNat : Int) = (k : Int)) = decide (c = UInt8.ofNat k) := by
  refine decide_eq_decide.2 ⟨fun h => UInt8.toNat_inj.1 ?_, fun h => ?_⟩
  · rw [UInt8.toNat_ofNat_of_lt' (by simpa [UInt8.size] using hk)]; omega
  · rw [h, UInt8.toNat_ofNat_of_lt' (by simpa [UInt8.size] using hk)]
theorem sgn_eq (c : UInt8) : sgn c = (decide ((c.toNat : Int) = 123) || (decide ((c.toNat : Int) = 125) || (decide ((c.toNat : Int) = 40) || (decide ((c.toNat : Int) = 41) || (decide ((c.toNat : Int) = 91) || (decide ((c.toNat : Int) = 93) || (decide ((c.toNat : Int) = 44) || (decide ((c.toNat : Int) = 58) || (decide ((c.toNat : Int) = 59) || (decide ((c.toNat : Int) = 61) || (decide ((c.toNat : Int) = 43) || (decide ((c.toNat : Int) = 45) || (decide ((c.toNat : Int) = 38) || decide ((c.toNat : Int) = 60)))))))))))))) := by
  have h : ∀ k : Nat, k < 256 → decide ((c.toNat : Int) = (k : Int)) = (c == UInt8.ofNat k) := fun k hk => by rw [byte_eq c k hk]; rfl
  have := h 123 (by omega); have h2 := h 125 (by omega); have h3 := h 40 (by omega); have h4 := h 41 (by omega); have h5 := h 91 (by omega); have h6 := h 93 (by omega); have h7 := h 44 (by omega); have h8 := h 58 (by omega); have h9 := h 59 (by omega); have h10 := h 61 (by omega); have h11 := h 43 (by omega); have h12 := h 45 (by omega); have h13 := h 38 (by omega); have h14 := h 60 (by omega)
  simp only [Int.cast_ofNat_Int] at *
  simp only [sgn, List.contains_cons, List.contains_nil, Bool.or_false]
  rw [this, h2, h3, h4, h5, h6, h7, h8, h9, h10, h11, h12, h13, h14]
  rfl
theorem two_short {l : List UInt8} (h : l.length < 2) : two l = false := by
  have : ∀ a b : UInt8, ¬ l.take 2 = [a, b] := by
    intro a b e
    have := congrArg List.length e
    rw [List.length_take] at this
    simp at this; omega
  simp [two, this]
theorem rsign_ok {s : ByteArray} {i : Nat} {l : List UInt8} (hs : s.size ≤ 16384) (hl : (bs s).drop i = l) (hne : l ≠ []) : m_lychgateref01_sign (s, (i : Int)) = some (signLen l : Int) := by
  obtain ⟨h1, h2⟩ := drop_len hl hne
  unfold m_lychgateref01_sign m_lychgateref01_sign'
  simp only
  rw [wrap_one (by omega)]
  have e2 : IntKind.i64.wrap ((i : Int) + 2) = ((i + 2 : Nat) : Int) := wrap_add (k := 2) (by omega)
  rw [e2]
  have first : ((if decide (((i + 1 : Nat) : Int) < (s.size : Int)) = true then
        (gsslice s (i : Int) ((i + 2 : Nat) : Int)).bind fun y0 => some (s, (i : Int), y0) else some (s, (i : Int), lit [])).bind fun (y1 : ByteArray × Int × ByteArray) => (if decide (y1.snd.snd = lit [45, 62]) = true then some (y1.fst, y1.snd.fst, true) else if decide (y1.snd.snd = lit [60, 61]) = true then some (y1.fst, y1.snd.fst, true) else some (y1.fst, y1.snd.fst, decide (y1.snd.snd = lit [61, 61])))) = some (s, (i : Int), two l) := by
    by_cases h : i + 1 < s.size
    · rw [if_pos (decide_eq_true (Int.ofNat_lt.2 h)), cut_ok hl hne (by omega)]
      simp only [Option.bind_some, lit_dec, bs_lit, two]
      by_cases a : l.take 2 = [45, 62]
      · simp [a]
      · by_cases b : l.take 2 = [60, 61]
        · simp [b]
        · simp only [a, b, decide_false, Bool.false_eq_true, if_false, Option.bind_some, Bool.false_or]
          rfl
    · rw [if_neg (fun x => h (Int.ofNat_lt.1 (of_decide_eq_true x)))]
      rw [two_short (by omega)]
      have : ∀ a b : UInt8, lit [] ≠ lit [a, b] := fun a b e => by have := congrArg bs e; simp [bs_lit] at this
      simp [this]
  rw [← Option.bind_assoc, first]
  simp only [Option.bind_some]
  unfold signLen
  by_cases ht : two l = true
  · rw [if_pos ht, if_pos ht]; rfl
  · rw [if_neg ht, if_neg ht]
    match l, hne with
    | c :: r, _ =>
      have hc : gsidx s (i : Int) = some (c.toNat : Int) := byte_ok (n := 0) hl rfl
      rw [hc]
      simp only [Option.bind_some]
      have key : ∀ {X : Option Bool} {b : Bool}, X = some b → (X.bind fun y => if y = true then some (1 : Int) else some 0) = some ((if b then 1 else 0 : Nat) : Int) := by
        intro X b h; subst h; cases b <;> rfl
      rw [sgn_eq]
      refine key ?_
      repeat (first | exact rfl | apply key_step | apply key_bind)
theorem wrap8 {n : Nat} (h : n ≤ 255) : IntKind.u8.wrap (n : Int) = n := by
  simp only [IntKind.wrap, IntKind.bits, IntKind.signed]
  simp
  omega
/-- a number is read digit by digit, as long as it isn't too great -/
def numL (n : Nat) (g : Bool) : List UInt8 → Nat × Bool
  | [] => (n, g)
  | c :: r => let n' := if n ≤ 1099511627776 then n * 10 + (c.toNat - 48) else n
    numL n' (if 1099511627776 < n' then true else g) r
theorem numL_great : ∀ (l : List UInt8) (n : Nat), (numL n true l).2 = true
  | [], n => rfl
  | c :: r, n => by
    unfold numL
    simp only [ite_self]
    exact numL_great r _
theorem numL_ok : ∀ (l : List UInt8) (n : Nat), n ≤ 1099511627776 → if 1099511627776 < numF n l then (numL n false l).2 = true else numL n false l = (numF n l, false)
  | [], n, h => by
    rw [if_neg (by show ¬ 1099511627776 < n; omega)]; rfl
  | c :: r, n, h => by
    have e : numF n (c :: r) = numF (n * 10 + (c.toNat - 48)) r := rfl
    rw [e]
    unfold numL
    simp only [if_pos h]
    by_cases h2 : 1099511627776 < n * 10 + (c.toNat - 48)
    · have := numF_ge r (n * 10 + (c.toNat - 48))
      rw [if_pos (by omega), if_pos h2]
      exact numL_great r _
    · rw [if_neg h2]
      exact numL_ok r _ (by omega)
abbrev RT := (Int × ByteArray × Int × Int) × Int × ByteArray × Int × Int
noncomputable abbrev oneWord := l0_lychgateref01_one m_lychgateref01_letter m_lychgateref01_digit m_lychgateref01_IsKey m_lychgateref01_sign
noncomputable abbrev oneNum := l1_lychgateref01_one m_lychgateref01_letter m_lychgateref01_digit m_lychgateref01_IsKey m_lychgateref01_sign
theorem word_loop {s : ByteArray} (hs : s.size ≤ 16384) (a : Int) (t : RT) : ∀ (n i : Nat), s.size - i = n → i ≤ s.size → lpO oneWord (s, a, (i : Int), t) = some (s, a, ((i + nrun isW ((bs s).drop i) : Nat) : Int), t)
  | 0, i, hn, hi => by
    have : i = s.size := by omega
    subst this
    rw [lpO_eq]
    simp [oneWord, l0_lychgateref01_one, List.drop_eq_nil_of_le, bs_len, nrun_nil]
  | n + 1, i, hn, hi => by
    have hlt : i < s.size := by omega
    obtain ⟨c, hc, hd⟩ := drop_cons (l := bs s) (i := i) (by rw [bs_len]; exact hlt)
    rw [lpO_eq]
    simp only [oneWord, l0_lychgateref01_one, decide_eq_true_eq]
    rw [if_pos (Int.ofNat_lt.2 hlt), gsidx_nat hc]
    simp only [Option.bind_some, rletter_ok, rdigit_ok]
    rw [hd, nrun_cons]
    have ih := word_loop hs a t n (i + 1) (by omega) (by omega)
    have hw := wrap_one (n := i) (by omega)
    cases hL : isL c with
    | true =>
      simp only [isW, hL, Bool.true_or, Bool.not_true, Bool.false_eq_true, if_false, if_true, Option.bind_some, hw]
      refine ih.trans ?_
      congr 4; omega
    | false =>
      cases hD : isD c with
      | true =>
        simp only [isW, hL, hD, Bool.or_true, Bool.not_true, Bool.not_false, Bool.false_eq_true, if_false, if_true, Option.bind_some, hw]
        refine ih.trans ?_
        congr 4; omega
      | false => simp [isW, hL, hD]
theorem num_loop {s : ByteArray} (hs : s.size ≤ 16384) (a : Int) (t : RT) : ∀ (n i m : Nat) (g : Bool), m ≤ 10995116277769 → s.size - i = n → i ≤ s.size →
    lpO oneNum (s, a, (i : Int), (m : Int), g, t) = some (s, a, ((i + nrun isD ((bs s).drop i) : Nat) : Int), ((numL m g (((bs s).drop i).take (nrun isD ((bs s).drop i)))).1 : Int), (numL m g (((bs s).drop i).take (nrun isD ((bs s).drop i)))).2, t)
  | 0, i, m, g, hm, hn, hi => by
    have : i = s.size := by omega
    subst this
    rw [lpO_eq]
    simp [oneNum, l1_lychgateref01_one, List.drop_eq_nil_of_le, bs_len, nrun_nil, numL]
  | n + 1, i, m, g, hm, hn, hi => by
    have hlt : i < s.size := by omega
    obtain ⟨c, hc, hd⟩ := drop_cons (l := bs s) (i := i) (by rw [bs_len]; exact hlt)
    rw [lpO_eq]
    simp only [oneNum, l1_lychgateref01_one, decide_eq_true_eq]
    rw [if_pos (Int.ofNat_lt.2 hlt), gsidx_nat hc]
    simp only [Option.bind_some, rdigit_ok]
    rw [hd, nrun_cons]
    cases hD : isD c with
    | false => simp [numL]
    | true =>
      have hD2 := hD
      simp only [isD, Bool.and_eq_true, decide_eq_true_eq] at hD2
      simp only [Bool.not_true, Bool.false_eq_true, if_false, if_true]
      have e1 : IntKind.i64.wrap (IntKind.u8.wrap ((c.toNat : Int) - 48)) = ((c.toNat - 48 : Nat) : Int) := by
        have : ((c.toNat : Int) - 48) = ((c.toNat - 48 : Nat) : Int) := by omega
        rw [this, wrap8 (by omega), wrap_nat (by omega)]
      have e2 : IntKind.i64.wrap (IntKind.i64.wrap ((m : Int) * 10) + ((c.toNat - 48 : Nat) : Int)) = ((m * 10 + (c.toNat - 48) : Nat) : Int) := by
        have : ((m : Int) * 10) = ((m * 10 : Nat) : Int) := by omega
        rw [this, wrap_nat (by omega), wrap_add (by omega)]
      rw [e1, e2]
      have hw := wrap_one (n := i) (by omega)
      have hn' : (if m ≤ 1099511627776 then m * 10 + (c.toNat - 48) else m) ≤ 10995116277769 := by split <;> omega
      have step : ∀ (m' : Nat), m' ≤ 10995116277769 → lpO oneNum (s, a, ((i + 1 : Nat) : Int), (m' : Int), (if 1099511627776 < m' then true else g), t) = some (s, a, ((i + (nrun isD ((bs s).drop (i + 1)) + 1) : Nat) : Int), ((numL m' (if 1099511627776 < m' then true else g) (((bs s).drop (i + 1)).take (nrun isD ((bs s).drop (i + 1))))).1 : Int), (numL m' (if 1099511627776 < m' then true else g) (((bs s).drop (i + 1)).take (nrun isD ((bs s).drop (i + 1))))).2, t) := by
        intro m' hm'
        refine (num_loop hs a t n (i + 1) m' _ hm' (by omega) (by omega)).trans ?_
        congr 4; omega
      simp only [List.take_succ_cons, numL]
      by_cases h40 : m ≤ 1099511627776
      · rw [if_pos (show (m : Int) ≤ 1099511627776 by omega)]
        simp only [if_pos h40, Option.bind_some]
        rw [← step _ (by omega)]
        by_cases hg : 1099511627776 < m * 10 + (c.toNat - 48)
        · rw [if_pos (show (1099511627776 : Int) < ((m * 10 + (c.toNat - 48) : Nat) : Int) by omega), if_pos hg]
          simp only [Option.bind_some, hw]
        · rw [if_neg (show ¬ (1099511627776 : Int) < ((m * 10 + (c.toNat - 48) : Nat) : Int) by omega), if_neg hg]
          simp only [Option.bind_some, hw]
      · rw [if_neg (show ¬ (m : Int) ≤ 1099511627776 by omega)]
        simp only [if_neg h40, Option.bind_some]
        rw [← step _ hm]
        have hg : 1099511627776 < m := by omega
        rw [if_pos (show (1099511627776 : Int) < (m : Int) by omega), if_pos hg]
        simp only [Option.bind_some, hw]
end Go.Px
/-! Chapter 1: the document's tokens, whole. -/
namespace Go.Px
set_option linter.unusedVariables false
set_option linter.unusedSimpArgs false
abbrev rtk0 : T_lychgateref01_Token := ⟨0, lit [], 0, 0⟩
/-- what the document finds at a place that is no blank -/
def rNx (i : Nat) (l : List UInt8) : Nx → T_lychgateref01_Token × Int
  | .tok k n v => (⟨k, lit (l.take n), v, i⟩, 0)
  | .err e => (rtk0, e)
  | .skip _ => (rtk0, 0)
theorem rone_ok {s : ByteArray} {i : Nat} {c : UInt8} {r : List UInt8} (hs : s.size ≤ 16384) (hl : (bs s).drop i = c :: r) :
    m_lychgateref01_one (s, (i : Int)) = some (rNx i (c :: r) (if isD c then nxNum (c :: r) else if isL c then nxWord (c :: r) else nxSign (c :: r))) := by
  obtain ⟨h1, h2⟩ := drop_len hl (by simp)
  have hc : gsidx s (i : Int) = some (c.toNat : Int) := byte_ok (n := 0) hl rfl
  unfold m_lychgateref01_one m_lychgateref01_one'
  simp only
  rw [hc]
  simp only [Option.bind_some, rletter_ok, rdigit_ok]
  by_cases hL : isL c = true
  · have hD : isD c = false := by
      simp only [isL, Bool.or_eq_true, Bool.and_eq_true, decide_eq_true_eq] at hL
      simp only [isD, Bool.and_eq_false_imp, decide_eq_true_eq, decide_eq_false_iff_not]
      omega
    rw [if_pos hL]
    have hloop := word_loop hs (i : Int) ((0, lit [], 0, 0), 0, lit [], 0, (i : Int)) _ i rfl (by omega)
    rw [hl] at hloop
    rw [show lpO (l0_lychgateref01_one m_lychgateref01_letter m_lychgateref01_digit m_lychgateref01_IsKey m_lychgateref01_sign) (s, (i : Int), (i : Int), (0, lit [], 0, 0), 0, lit [], 0, (i : Int)) = _ from hloop]
    simp only [Option.bind_some]
    rw [cut_ok hl (by simp) (nrun_le _ _)]
    have hlen : ((c :: r).take (nrun isW (c :: r))).length = nrun isW (c :: r) := by rw [List.length_take]; have := nrun_le isW (c :: r); omega
    simp only [Option.bind_some, size_lit, hlen, decide_eq_true_eq, rkey_lit]
    rw [hD]
    simp only [Bool.false_eq_true, if_false, hL, if_true]
    unfold nxWord
    by_cases h : 16 < nrun isW (c :: r)
    · rw [if_pos (by omega), if_pos h]; rfl
    · rw [if_neg (by omega), if_neg h]
      by_cases hk : isKey ((c :: r).take (nrun isW (c :: r))) = true
      · rw [if_pos hk, if_pos hk]; rfl
      · rw [if_neg hk, if_neg hk]; rfl
  · rw [if_neg hL]
    simp only [Option.bind_some, Sum.elim_inr]
    by_cases hD : isD c = true
    · rw [if_pos hD, if_pos hD]
      have hn := nrun_le isD (c :: r)
      have hn1 : 1 ≤ nrun isD (c :: r) := by rw [nrun_cons]; simp [hD]
      have hloop := num_loop hs (i : Int) ((0, lit [], 0, 0), 0, lit [], 0, (i : Int)) _ i 0 false (by omega) rfl (by omega)
      rw [hl] at hloop
      rw [show lpO (l1_lychgateref01_one m_lychgateref01_letter m_lychgateref01_digit m_lychgateref01_IsKey m_lychgateref01_sign) (s, (i : Int), (i : Int), 0, false, (0, lit [], 0, 0), 0, lit [], 0, (i : Int)) = _ from hloop]
      have hnum := numL_ok ((c :: r).take (nrun isD (c :: r))) 0 (by omega)
      have hN : numF 0 ((c :: r).take (nrun isD (c :: r))) = numVal ((c :: r).take (nrun isD (c :: r))) := rfl
      rw [hN] at hnum
      unfold nxNum numBad
      generalize hnr : nrun isD (c :: r) = n at *
      generalize hpq : numL 0 false ((c :: r).take n) = pq at *
      obtain ⟨p, q⟩ := pq
      simp only [Option.bind_some, decide_eq_true_eq]
      have hlast : (if (((i + n : Nat) : Int) < (s.size : Int)) then (gsidx s ((i + n : Nat) : Int)).bind fun y => (m_lychgateref01_letter y).bind fun z => some (s, (i : Int), ((i + n : Nat) : Int), (p : Int), q, z, ((0, lit [], 0, 0), 0, lit [], 0, (i : Int)) ) else some (s, (i : Int), ((i + n : Nat) : Int), (p : Int), q, false, (((0, lit [], 0, 0), 0, lit [], 0, (i : Int)) : RT))) = some (s, (i : Int), ((i + n : Nat) : Int), (p : Int), q, letterAt (c :: r)[n]?, (((0, lit [], 0, 0), 0, lit [], 0, (i : Int)) : RT)) := by
        by_cases hb : i + n < s.size
        · have : n < (c :: r).length := by omega
          have hg := List.getElem?_eq_getElem this
          generalize (c :: r)[n] = b at hg
          rw [byte_ok hl hg, hg]
          simp only [Option.bind_some, rletter_ok]
          rw [if_pos (Int.ofNat_lt.2 hb)]
          rfl
        · have : (c :: r)[n]? = none := List.getElem?_eq_none (by omega)
          rw [this, if_neg (fun h => hb (Int.ofNat_lt.1 h))]
          rfl
      rw [show (if (((i + n : Nat) : Int) < (s.size : Int)) then (gsidx s ((i + n : Nat) : Int)).bind fun y => (m_lychgateref01_letter y).bind fun z => some (s, (i : Int), ((i + n : Nat) : Int), (p : Int), q, z, ((0, lit [], 0, 0), 0, lit [], 0, (i : Int)) ) else some (s, (i : Int), ((i + n : Nat) : Int), (p : Int), q, false, (((0, lit [], 0, 0), 0, lit [], 0, (i : Int)) : RT))) = _ from hlast]
      simp only [Option.bind_some, hc]
      have e1 : ((i : Int) + 1) = ((i + 1 : Nat) : Int) := by omega
      have hw := wrap_one (n := i) (by omega)
      by_cases h40 : 1099511627776 < numVal ((c :: r).take n)
      · rw [if_pos h40] at hnum
        simp only at hnum
        subst hnum
        simp [h40, rNx]
      · rw [if_neg h40] at hnum
        simp only [Prod.mk.injEq] at hnum
        obtain ⟨hp, hq⟩ := hnum
        subst hp hq
        simp only [Bool.false_eq_true, if_false]
        cases hlt : letterAt (c :: r)[n]? with
        | true => simp [h40, rNx]
        | false =>
          simp only [Bool.false_eq_true, if_false, hw]
          have e48 : ((c.toNat : Int) = 48) ↔ c = 48 := by
            constructor
            · intro h; exact UInt8.toNat_inj.1 (by simpa using (by omega : c.toNat = 48))
            · intro h; rw [h]; rfl
          by_cases h48 : c = 48
          · rw [if_pos (e48.2 h48)]
            simp only [Option.bind_some]
            by_cases h1n : 1 < n
            · have : ((i + 1 : Nat) : Int) < ((i + n : Nat) : Int) := by omega
              simp [h40, h1n, h48, this, rNx]
              rw [if_pos (by omega)]
              rfl
            · have : ¬ ((i + 1 : Nat) : Int) < ((i + n : Nat) : Int) := by omega
              simp only [this, decide_false, Bool.false_eq_true, if_false, h40, h1n, Bool.false_and, Bool.or_false]
              rw [cut_ok hl (by simp) hn]
              rfl
          · rw [if_neg (fun h => h48 (e48.1 h))]
            simp only [Option.bind_some, Bool.false_eq_true, if_false]
            rw [cut_ok hl (by simp) hn]
            simp only [h40, h48, decide_false, List.head?_cons, Option.some.injEq, Bool.and_false, Bool.or_false, Bool.false_eq_true, if_false]
            rfl
    · rw [if_neg hD, if_neg hD, if_neg hL]
      simp only [Option.bind_some, Sum.elim_inr]
      rw [rsign_ok hs hl (by simp)]
      simp only [Option.bind_some, decide_eq_true_eq]
      unfold nxSign
      have hle := signLen_le (c :: r)
      by_cases h0 : signLen (c :: r) = 0
      · rw [if_pos (by omega), if_pos h0]; rfl
      · rw [if_neg (by omega), if_neg h0, wrap_add (by omega), cut_ok hl (by simp) hle]
        rfl
theorem skip_loop {s : ByteArray} (hs : s.size ≤ 16384) {f : ByteArray × Int → Option (T_lychgateref01_Token × Int)} (out : Sl T_lychgateref01_Token) : ∀ (n i : Nat), s.size - i = n → i ≤ s.size → lpO (l0_lychgateref01_Tokens f) (s, (i : Int), out) = some (s, ((i + nrun notNl ((bs s).drop i) : Nat) : Int), out)
  | 0, i, hn, hi => by
    have : i = s.size := by omega
    subst this
    rw [lpO_eq]
    simp [l0_lychgateref01_Tokens, List.drop_eq_nil_of_le, bs_len, nrun_nil]
  | n + 1, i, hn, hi => by
    have hlt : i < s.size := by omega
    obtain ⟨c, hc, hd⟩ := drop_cons (l := bs s) (i := i) (by rw [bs_len]; exact hlt)
    rw [lpO_eq]
    simp only [l0_lychgateref01_Tokens, decide_eq_true_eq]
    rw [if_pos (Int.ofNat_lt.2 hlt), gsidx_nat hc]
    have hw := wrap_one (n := i) (by omega)
    simp only [Option.bind_some, hw]
    rw [hd, nrun_cons]
    have e10 : ((c.toNat : Int) ≠ 10) ↔ notNl c = true := by simp only [notNl, decide_eq_true_eq]; omega
    by_cases h : notNl c = true
    · rw [if_pos (decide_eq_true (e10.2 h)), if_pos h]
      simp only [Option.bind_some]
      refine (skip_loop hs out n (i + 1) (by omega) (by omega)).trans ?_
      congr 3; omega
    · rw [if_neg (fun x => h (e10.1 (of_decide_eq_true x))), if_neg h]
      simp
abbrev toR (t : T_lex_Token) : T_lychgateref01_Token := ⟨t.Kind_, t.Text_, t.Num_, t.At_⟩
noncomputable abbrev refStep := l1_lychgateref01_Tokens m_lychgateref01_one
theorem err_ne {l : List UInt8} (hne : l ≠ []) {e : Int} (h : nxt l = .err e) : e ≠ 0 := by
  match l, hne with
  | c :: r, _ =>
    unfold nxt at h
    simp only at h
    split at h
    · cases h
    · split at h
      · cases h
      · split at h
        · unfold nxNum at h; split at h <;> cases h; decide
        · split at h
          · unfold nxWord at h; split at h <;> cases h; decide
          · unfold nxSign at h; split at h <;> cases h; decide
theorem rstep_ok {s : ByteArray} {i : Nat} {l : List UInt8} (hs : s.size ≤ 16384) (hl : (bs s).drop i = l) (hne : l ≠ []) (out : Sl T_lychgateref01_Token) :
    refStep (s, (i : Int), out) = match nxt l with
      | .skip n => some (.next (s, ((i + n : Nat) : Int), out))
      | .err e => some (.done (.inl ((i : Int), e)))
      | .tok k n v => (gapp 40 out [⟨k, lit (l.take n), v, i⟩]).bind fun o => some (.next (s, ((i + n : Nat) : Int), o)) := by
  obtain ⟨h1, h2⟩ := drop_len hl hne
  match l, hne with
  | c :: r, hne =>
    have hc : gsidx s (i : Int) = some (c.toNat : Int) := byte_ok (n := 0) hl rfl
    have hpos := nxt_pos (l := c :: r) (by simp)
    have herr := fun e => err_ne (l := c :: r) (by simp) (e := e)
    simp only [refStep, l1_lychgateref01_Tokens]
    rw [if_pos (decide_eq_true (Int.ofNat_lt.2 h1)), hc]
    have hw := wrap_one (n := i) (by omega)
    simp only [Option.bind_some]
    have e32 : ((c.toNat : Int) = 32) ↔ c.toNat = 32 := by omega
    have e10 : ((c.toNat : Int) = 10) ↔ c.toNat = 10 := by omega
    have e35 : ((c.toNat : Int) = 35) ↔ c.toNat = 35 := by omega
    unfold nxt at hpos herr ⊢
    simp only at hpos herr ⊢
    by_cases hb : c.toNat = 32 ∨ c.toNat = 10
    · rw [if_pos hb]
      simp only
      rcases hb with hb | hb
      · rw [if_pos (decide_eq_true (e32.2 hb))]
        simp [hw]
      · have : ¬ c.toNat = 32 := by omega
        rw [if_neg (fun h => this (e32.1 (of_decide_eq_true h)))]
        simp only [Option.bind_some, decide_eq_true_eq]
        rw [if_pos (e10.2 hb)]
        simp [hw]
    · rw [if_neg hb] at hpos herr ⊢
      have n32 : ¬ c.toNat = 32 := fun h => hb (.inl h)
      have n10 : ¬ c.toNat = 10 := fun h => hb (.inr h)
      rw [if_neg (fun h => n32 (e32.1 (of_decide_eq_true h)))]
      simp only [Option.bind_some, decide_eq_true_eq]
      rw [if_neg (fun h => n10 (e10.1 h)), hc]
      simp only [Option.bind_some]
      by_cases h35 : c.toNat = 35
      · have hsk := skip_loop hs (f := m_lychgateref01_one) out _ i rfl (by omega)
        rw [if_pos (e35.2 h35), if_pos h35, hsk, hl]
        rfl
      · rw [if_neg (fun h => h35 (e35.1 h))]
        rw [if_neg h35] at hpos herr ⊢
        rw [rone_ok hs hl]
        have hns : ∀ n, (if isD c = true then nxNum (c :: r) else if isL c = true then nxWord (c :: r) else nxSign (c :: r)) ≠ .skip n := by
          intro n h
          split at h
          · unfold nxNum at h; split at h <;> cases h
          · split at h
            · unfold nxWord at h; split at h <;> cases h
            · unfold nxSign at h; split at h <;> cases h
        generalize (if isD c = true then nxNum (c :: r) else if isL c = true then nxWord (c :: r) else nxSign (c :: r)) = x at hpos herr hns
        cases x with
        | skip n =>
          exact absurd rfl (hns n)
        | err e =>
          have := herr e rfl
          simp only [rNx, Option.bind_some]
          rw [if_pos this]
          rfl
        | tok k n v =>
          simp only [NxOK] at hpos
          simp only [rNx, Option.bind_some, ne_eq, not_true_eq_false, if_false, Option.bind_assoc, Sum.elim_inl]
          have hz : (lit ((c :: r).take n)).size = n := by rw [size_lit, List.length_take]; omega
          rw [hz, wrap_add (by omega)]
theorem rlex_loop {s : ByteArray} (hs : s.size ≤ 16384) : ∀ (n i : Nat) (acc : List T_lychgateref01_Token) (nn : Bool), s.size - i ≤ n → i ≤ s.size → acc.length ≤ i →
    lpO refStep (s, (i : Int), ⟨acc, nn⟩) = some (match lexT i ((bs s).drop i) with
      | .inl x => .inl ((x.1 : Int), x.2)
      | .inr ts => .inr (s, ⟨acc ++ ts.map toR, nn || !ts.isEmpty⟩)) := by
  intro n
  induction n with
  | zero =>
    intro i acc nn hn hi ha
    have : i = s.size := by omega
    subst this
    rw [lpO_eq]
    have hd : (bs s).drop s.size = [] := List.drop_eq_nil_of_le (by rw [bs_len]; exact Nat.le_refl _)
    rw [hd, lexT_nil]
    simp [refStep, l1_lychgateref01_Tokens]
  | succ n ih =>
    intro i acc nn hn hi ha
    rcases Nat.lt_or_ge i s.size with hlt | hge
    · have hne : (bs s).drop i ≠ [] := by
        intro e
        have := congrArg List.length e
        rw [List.length_drop, bs_len] at this
        simp at this; omega
      have hp := nxt_pos hne
      have hlen : ((bs s).drop i).length = s.size - i := by rw [List.length_drop, bs_len]
      rw [lpO_eq, rstep_ok hs rfl hne, lexT_cons _ hne]
      cases hx : nxt ((bs s).drop i) with
      | err e => rfl
      | skip k =>
        rw [hx] at hp
        simp only [NxOK] at hp
        simp only [Option.bind_some, List.drop_drop]
        rw [ih (i + k) acc nn (by omega) (by omega) (by omega)]
      | tok k m v =>
        rw [hx] at hp
        simp only [NxOK] at hp
        simp only [List.drop_drop]
        rw [gapp_ok (by simp only [List.length_cons, List.length_nil]; omega) (by simp only [List.length_cons, List.length_nil]; omega)]
        simp only [Option.bind_some]
        rw [ih (i + m) _ _ (by omega) (by omega) (by simp only [List.length_append, List.length_cons, List.length_nil]; omega)]
        cases lexT (i + m) ((bs s).drop (i + m)) with
        | inl x => rfl
        | inr ts => simp
    · have : i = s.size := by omega
      exact ih i acc nn (by omega) hi ha
theorem rtokens_ok (s : ByteArray) : m_lychgateref01_Tokens s = some ((lexR s).1, (lexR s).2.1, ⟨(lexR s).2.2.xs.map toR, (lexR s).2.2.nn⟩) := by
  unfold m_lychgateref01_Tokens m_lychgateref01_Tokens' lexR
  simp only [decide_eq_true_eq]
  by_cases h : 16384 < s.size
  · rw [if_pos (by omega), if_pos h]; rfl
  · rw [if_neg (by omega), if_neg h]
    have := rlex_loop (s := s) (by omega) s.size 0 [] false (by omega) (by omega) (by simp)
    rw [List.drop_zero] at this
    rw [show ((s, 0, Sl.mk [] false) : ByteArray × Int × Sl T_lychgateref01_Token) = (s, ((0 : Nat) : Int), ⟨[], false⟩) from rfl, this]
    cases hx : lexT 0 (bs s) with
    | inl x => rfl
    | inr ts =>
      have hl := lexT_len _ _ _ _ (Nat.le_refl _) hx
      rw [bs_len] at hl
      simp only [Option.bind_some, Sum.elim_inr, List.nil_append, Bool.false_or]
      rw [gapp_ok (by simp only [List.length_cons, List.length_nil, List.length_map]; omega) (by simp only [List.length_cons, List.length_nil, List.length_map]; omega)]
      simp
end Go.Px
/-! Chapter 1: the laws about whole texts: tokens, names. -/
namespace Go.Px
set_option linter.unusedVariables false
set_option linter.unusedSimpArgs false
theorem gidx_nat {α : Type} (s : Sl α) (i : Nat) : gidx s (i : Int) = s.xs[i]? := by
  unfold gidx
  rw [if_pos (Int.natCast_nonneg i)]
  simp
theorem wakes_ok (u : Unit) : m_lychgatelaw01_wakes u = some true := by
  unfold m_lychgatelaw01_wakes m_lychgatelaw01_wakes'
  rw [tokens_ok]
  have : lexR (lit [120, 61, 45, 49]) = (0, 0, ⟨[⟨1, lit [120], 0, 0⟩, ⟨4, lit [61], 0, 1⟩, ⟨4, lit [45], 0, 2⟩, ⟨3, lit [49], 1, 3⟩, ⟨0, lit [], 0, 4⟩], true⟩) := by kernel_rfl
  rw [this]
  rfl
theorem len_nat {α : Type} (s : Sl α) : s.len = (s.xs.length : Int) := rfl
theorem lexR_len (s : ByteArray) : (lexR s).2.2.xs.length ≤ 16385 := by
  unfold lexR
  split
  · simp
  · split
    · simp
    · rename_i h ts e
      have := lexT_len _ _ _ _ (Nat.le_refl _) e
      rw [bs_len] at this
      simp; omega
noncomputable abbrev ltLoop := l0_lychgatelaw01_LexTokens m_lex_Tokens m_lychgateref01_Tokens m_lychgatelaw01_wakes m_lychgatelaw01_ref
theorem same_loop (l : Sl T_lex_Token) (nn : Bool) (hl : l.xs.length ≤ 16385) : ∀ (n i : Nat), l.xs.length - i = n → i ≤ l.xs.length →
    lpO ltLoop (l.len, (i : Int), l, ⟨l.xs.map toR, nn⟩) = some (.inr ())
  | 0, i, hn, hi => by
    have : i = l.xs.length := by omega
    subst this
    rw [lpO_eq]
    simp [ltLoop, l0_lychgatelaw01_LexTokens, len_nat]
  | n + 1, i, hn, hi => by
    have hlt : i < l.xs.length := by omega
    rw [lpO_eq]
    simp only [ltLoop, l0_lychgatelaw01_LexTokens, decide_eq_true_eq, gidx_nat, List.getElem?_map]
    rw [if_pos (show (i : Int) < l.len by rw [len_nat]; omega), List.getElem?_eq_getElem hlt]
    simp only [Option.bind_some, Option.map_some, m_lychgatelaw01_ref, m_lychgatelaw01_ref']
    rw [wrap_one (by omega)]
    simp
    exact same_loop l nn hl n (i + 1) (by omega) (by omega)
theorem lexTokens (s : ByteArray) : m_lychgatelaw01_LexTokens s = some true := by
  unfold m_lychgatelaw01_LexTokens m_lychgatelaw01_LexTokens'
  rw [tokens_ok, rtokens_ok, wakes_ok]
  have h := same_loop (lexR s).2.2 (lexR s).2.2.nn (lexR_len s) _ 0 rfl (by omega)
  simp only [Option.bind_some, Bool.not_true, Bool.false_eq_true, if_false, ne_eq, not_true_eq_false, decide_false, len_nat, List.length_map]
  rw [show lpO (l0_lychgatelaw01_LexTokens m_lex_Tokens m_lychgateref01_Tokens m_lychgatelaw01_wakes m_lychgatelaw01_ref) (((lexR s).2.2.xs.length : Int), 0, (lexR s).2.2, ⟨(lexR s).2.2.xs.map toR, (lexR s).2.2.nn⟩) = some (.inr ()) from h]
  rfl
/-! names -/
theorem all_nrun (p : UInt8 → Bool) : ∀ l : List UInt8, nrun p l = l.length ↔ l.all p = true
  | [] => by simp [nrun_nil]
  | c :: l => by
    rw [nrun_cons, List.all_cons]
    have ih := all_nrun p l
    cases p c with
    | true => simp [ih]
    | false => simp
def isName (l : List UInt8) : Bool := match l with
  | [] => false
  | c :: _ => isL c && (l.all isW && (decide (l.length ≤ 16) && !isKey l))
theorem name_ok {s : ByteArray} (hs : s.size ≤ 1048576) : m_lex_IsName s = some (isName (bs s)) := by
  unfold m_lex_IsName m_lex_IsName'
  have hz : decide (s ≠ lit []) = !(bs s).isEmpty := by
    cases h : bs s with
    | nil => have : s = lit [] := bs_ext h; simp [this]
    | cons c r =>
      have : s ≠ lit [] := fun e => by rw [e] at h; cases h
      simp [this]
  rw [hz]
  cases h : bs s with
  | nil => rfl
  | cons c r =>
    have hc : gsidx s 0 = some (c.toNat : Int) := gsidx_nat (i := 0) (by rw [h]; rfl)
    simp only [List.isEmpty_cons, Bool.not_false, if_true]
    rw [hc]
    simp only [Option.bind_some, letter_ok]
    unfold isName
    simp only
    by_cases hL : isL c = true
    · rw [if_pos hL]
      have := run_within (s := s) (i := 0) (by omega) (by omega)
      rw [List.drop_zero, h, Nat.zero_add] at this
      rw [show m_lex_run_within (s, 0) = m_lex_run_within (s, ((0 : Nat) : Int)) from rfl, this]
      have hlen : (c :: r).length = s.size := by rw [← h, bs_len]
      simp only [Option.bind_some, decide_eq_true_eq, hL, Bool.true_and]
      have hall := all_nrun isW (c :: r)
      by_cases ha : (c :: r).all isW = true
      · rw [if_pos (by rw [hall.2 ha, hlen]), ha]
        simp only [Bool.true_and, hlen]
        by_cases h16 : s.size ≤ 16
        · rw [if_pos (by omega), key_ok, h]
          simp [h16]
        · rw [if_neg (by omega)]
          simp [h16]
      · rw [if_neg (by intro e; exact ha (hall.1 (by omega)))]
        simp only [Bool.not_eq_true] at ha
        rw [ha]; simp
    · rw [if_neg hL]
      simp only [Bool.not_eq_true] at hL
      rw [hL]; simp
theorem rname_loop {s : ByteArray} (hs : s.size ≤ 1048576) : ∀ (n i : Nat), s.size - i = n → i ≤ s.size → lpO (l0_lychgateref01_IsName m_lychgateref01_letter m_lychgateref01_digit m_lychgateref01_IsKey) (s, (i : Int)) = some (if ((bs s).drop i).all isW then .inr s else .inl false)
  | 0, i, hn, hi => by
    have : i = s.size := by omega
    subst this
    rw [lpO_eq]
    simp [l0_lychgateref01_IsName, List.drop_eq_nil_of_le, bs_len]
  | n + 1, i, hn, hi => by
    have hlt : i < s.size := by omega
    obtain ⟨c, hc, hd⟩ := drop_cons (l := bs s) (i := i) (by rw [bs_len]; exact hlt)
    rw [lpO_eq]
    simp only [l0_lychgateref01_IsName, decide_eq_true_eq]
    rw [if_pos (Int.ofNat_lt.2 hlt), gsidx_nat hc]
    have hw := wrap_one (n := i) (by omega)
    simp only [Option.bind_some, rletter_ok, rdigit_ok]
    rw [hd, List.all_cons]
    have ih := rname_loop hs n (i + 1) (by omega) (by omega)
    cases hL : isL c with
    | true =>
      simp only [isW, hL, Bool.true_or, Bool.true_and, Bool.not_true, Bool.false_eq_true, if_false, Option.bind_some, hw]
      exact ih
    | false =>
      cases hD : isD c with
      | true =>
        simp only [isW, hL, hD, Bool.or_true, Bool.true_and, Bool.not_true, Bool.not_false, Bool.false_eq_true, if_false, if_true, Option.bind_some, hw]
        exact ih
      | false => simp [isW, hL, hD]
theorem rname_ok {s : ByteArray} (hs : s.size ≤ 1048576) : m_lychgateref01_IsName s = some (isName (bs s)) := by
  unfold m_lychgateref01_IsName m_lychgateref01_IsName'
  simp only [decide_eq_true_eq]
  cases h : bs s with
  | nil =>
    have h0 : s.size = 0 := by rw [← bs_len, h]; rfl
    rw [if_pos (by omega)]; rfl
  | cons c r =>
    have hlen : (c :: r).length = s.size := by rw [← h, bs_len]
    have h1 : 1 ≤ s.size := by rw [← hlen]; simp
    have hc : gsidx s 0 = some (c.toNat : Int) := gsidx_nat (i := 0) (by rw [h]; rfl)
    rw [if_neg (by omega)]
    simp only [Option.bind_some, decide_eq_true_eq]
    unfold isName
    simp only [hlen]
    by_cases h16 : s.size ≤ 16
    · rw [if_neg (by omega), hc]
      simp only [Option.bind_some, rletter_ok]
      cases hL : isL c with
      | false => simp
      | true =>
        have hlp := rname_loop hs _ 0 rfl (by omega)
        rw [List.drop_zero, h] at hlp
        simp only [Bool.not_true, Bool.false_eq_true, if_false]
        rw [show lpO (l0_lychgateref01_IsName m_lychgateref01_letter m_lychgateref01_digit m_lychgateref01_IsKey) (s, 0) = _ from hlp]
        cases ha : (c :: r).all isW with
        | true =>
          simp only [if_true, Option.bind_some, Sum.elim_inr]
          rw [rkey_ok, h]
          simp [h16]
        | false => simp
    · rw [if_pos (by omega)]
      simp [h16]
theorem name_key (l : List UInt8) : (isName l && isKey l) = false := by
  unfold isName
  split
  · rfl
  · cases isKey _ <;> simp
theorem lexNames {s : ByteArray} (hs : s.size ≤ 1048576) : m_lychgatelaw01_LexNames s = some true := by
  unfold m_lychgatelaw01_LexNames m_lychgatelaw01_LexNames'
  rw [wakes_ok, name_ok hs, rname_ok hs, key_ok, rkey_ok]
  have := name_key (bs s)
  revert this
  cases isName (bs s) <;> cases isKey (bs s) <;> simp
end Go.Px
/-! Chapter 1: what a token leans on: the bytes up to it, and what may stand behind. -/
namespace Go.Px
set_option linter.unusedVariables false
set_option linter.unusedSimpArgs false
/-- what may stand behind a token -/
def sep (r : List UInt8) : Prop := ∀ c, r.head? = some c → isW c = false ∧ c ≠ 62 ∧ c ≠ 61
theorem nrun_take (p : UInt8 → Bool) : ∀ (l : List UInt8) (m : Nat), nrun p l ≤ m → nrun p (l.take m) = nrun p l
  | [], m, h => by simp
  | c :: l, 0, h => by
    rw [nrun_cons] at h ⊢
    split at h
    · omega
    · rename_i hp; simp [hp, nrun_nil]
  | c :: l, m + 1, h => by
    rw [nrun_cons] at h ⊢
    rw [List.take_succ_cons, nrun_cons]
    cases hp : p c with
    | true =>
      rw [hp] at h
      simp only [if_true] at h ⊢
      rw [nrun_take p l m (by omega)]
    | false => rfl
theorem nrun_app (p : UInt8 → Bool) {r : List UInt8} (hr : ∀ c, r.head? = some c → p c = false) : ∀ (l : List UInt8), nrun p (l ++ r) = nrun p l
  | [] => by
    match r, hr with
    | [], _ => rfl
    | c :: r, hr => rw [List.nil_append, nrun_cons, hr c rfl]; rfl
  | c :: l => by
    rw [List.cons_append, nrun_cons, nrun_cons, nrun_app p hr l]
theorem sep_W {r : List UInt8} (h : sep r) : ∀ c, r.head? = some c → isW c = false := fun c hc => (h c hc).1
theorem sep_D {r : List UInt8} (h : sep r) : ∀ c, r.head? = some c → isD c = false := fun c hc => by
  have := (h c hc).1
  unfold isW at this
  cases hd : isD c with
  | true => rw [hd] at this; simp at this
  | false => rfl
theorem sep_L {r : List UInt8} (h : sep r) : ∀ c, r.head? = some c → isL c = false := fun c hc => by
  have := (h c hc).1
  unfold isW at this
  cases hd : isL c with
  | true => rw [hd] at this; simp at this
  | false => rfl
theorem letterAt_app {l r : List UInt8} (h : sep r) {n : Nat} (hn : n ≤ l.length) : letterAt (l ++ r)[n]? = letterAt l[n]? := by
  rcases Nat.lt_or_ge n l.length with hlt | hge
  · rw [List.getElem?_append_left hlt]
  · rw [List.getElem?_append_right hge, List.getElem?_eq_none hge]
    have : n - l.length = 0 := by omega
    rw [this]
    match r, h with
    | [], _ => rfl
    | c :: r, h => exact sep_L h c rfl
theorem letterAt_take {l : List UInt8} {n m : Nat} (h : letterAt l[n]? = false) : letterAt (l.take m)[n]? = false := by
  rw [List.getElem?_take]
  split
  · exact h
  · rfl
theorem two_app {l r : List UInt8} (h : sep r) (hne : l ≠ []) : two (l ++ r) = two l := by
  match l, hne with
  | [a], _ =>
    match r, h with
    | [], _ => rfl
    | c :: r, h =>
      obtain ⟨_, h62, h61⟩ := h c rfl
      simp [two, h62, h61]
  | a :: b :: l, _ => simp [two]
theorem signLen_app {l r : List UInt8} (h : sep r) (hne : l ≠ []) : signLen (l ++ r) = signLen l := by
  unfold signLen
  rw [two_app h hne]
  match l, hne with
  | a :: l, _ => rfl
theorem nxt_app {l r : List UInt8} (hne : l ≠ []) (h : sep r) {k v : Int} {n : Nat} (hx : nxt l = .tok k n v) : nxt (l ++ r) = .tok k n v := by
  match l, hne with
  | c :: l, hne =>
    have hn := nxt_pos hne
    rw [hx] at hn
    simp only [NxOK] at hn
    unfold nxt at hx
    simp only at hx
    rw [List.cons_append]
    unfold nxt
    simp only
    split at hx
    · cases hx
    · rename_i h1
      rw [if_neg h1]
      split at hx
      · cases hx
      · rename_i h2
        rw [if_neg h2]
        split at hx
        · rename_i h3
          rw [if_pos h3]
          unfold nxNum numBad at hx ⊢
          rw [← List.cons_append, nrun_app isD (sep_D h), letterAt_app h (nrun_le _ _), List.take_append_of_le_length (nrun_le _ _)]
          exact hx
        · rename_i h3
          rw [if_neg h3]
          split at hx
          · rename_i h4
            rw [if_pos h4]
            unfold nxWord at hx ⊢
            rw [← List.cons_append, nrun_app isW (sep_W h), List.take_append_of_le_length (nrun_le _ _)]
            exact hx
          · rename_i h4
            rw [if_neg h4]
            unfold nxSign at hx ⊢
            rw [← List.cons_append, signLen_app h hne]
            exact hx
theorem two_take {l : List UInt8} {m : Nat} (h : two l = true) (hm : 2 ≤ m) : two (l.take m) = true := by
  unfold two at h ⊢
  rw [List.take_take, Nat.min_eq_left hm]
  exact h
theorem two_take' {l : List UInt8} {m : Nat} (h : two l = false) : two (l.take m) = false := by
  rcases Nat.lt_or_ge m 2 with hm | hm
  · exact two_short (by rw [List.length_take]; omega)
  · unfold two at h ⊢
    rw [List.take_take, Nat.min_eq_left hm]
    exact h
theorem nxt_take {l : List UInt8} (hne : l ≠ []) {m : Nat} {x : Nx} (hx : nxt l = x) (hm : match x with | .skip n => n ≤ m | .tok _ n _ => n ≤ m | .err _ => False) : nxt (l.take m) = x := by
  have hn := nxt_pos hne
  rw [hx] at hn
  have hm1 : 1 ≤ m := by
    cases x with
    | err e => exact hm.elim
    | skip n => simp only [NxOK] at hn hm; omega
    | tok k n v => simp only [NxOK] at hn hm; omega
  match l, hne, m, hm1 with
  | c :: l, hne, m + 1, _ =>
    rw [List.take_succ_cons]
    have e : c :: l.take m = (c :: l).take (m + 1) := rfl
    unfold nxt at hx ⊢
    simp only at hx ⊢
    split at hx
    · rename_i h1
      rw [if_pos h1]; exact hx
    · rename_i h1
      rw [if_neg h1]
      split at hx
      · rename_i h2
        rw [if_pos h2, e, ← hx]
        subst hx
        congr 1
        exact nrun_take notNl _ _ hm
      · rename_i h2
        rw [if_neg h2]
        split at hx
        · rename_i h3
          rw [if_pos h3, e]
          unfold nxNum at hx
          split at hx
          · subst hx; exact hm.elim
          · rename_i hb
            subst hx
            simp only at hm
            have hr := nrun_take isD (c :: l) (m + 1) hm
            unfold nxNum
            have : numBad ((c :: l).take (m + 1)) = false := by
              have hb' : numBad (c :: l) = false := by simpa using hb
              unfold numBad at hb' ⊢
              simp only [Bool.or_eq_false_iff] at hb' ⊢
              obtain ⟨b1, b2, b3⟩ := hb'
              refine ⟨?_, ?_, ?_⟩
              · rw [hr, List.take_take, Nat.min_eq_left hm]; exact b1
              · rw [hr]; exact b2
              · rw [hr]; exact letterAt_take b3
            rw [this, hr, List.take_take, Nat.min_eq_left hm]
            rfl
        · rename_i h3
          rw [if_neg h3]
          split at hx
          · rename_i h4
            rw [if_pos h4, e]
            unfold nxWord at hx
            split at hx
            · subst hx; exact hm.elim
            · rename_i hb
              subst hx
              simp only at hm
              have hr := nrun_take isW (c :: l) (m + 1) hm
              unfold nxWord
              rw [hr, if_neg hb, List.take_take, Nat.min_eq_left hm]
          · rename_i h4
            rw [if_neg h4, e]
            unfold nxSign at hx
            split at hx
            · subst hx; exact hm.elim
            · rename_i hb
              subst hx
              simp only at hm
              have hr : signLen ((c :: l).take (m + 1)) = signLen (c :: l) := by
                unfold signLen at hm ⊢
                cases ht : two (c :: l) with
                | true =>
                  rw [ht] at hm
                  rw [two_take ht (by simpa using hm)]; rfl
                | false =>
                  rw [two_take' ht]; rfl
              unfold nxSign
              rw [hr, if_neg hb]
/-- a token's text is that token, whatever stands behind -/
theorem tok_again {l r : List UInt8} (hne : l ≠ []) (h : sep r) {k v : Int} {n : Nat} (hx : nxt l = .tok k n v) : nxt (l.take n ++ r) = .tok k n v := by
  have hn := nxt_pos hne
  rw [hx] at hn
  simp only [NxOK] at hn
  refine nxt_app ?_ h (nxt_take hne hx (Nat.le_refl _))
  intro e
  have := congrArg List.length e
  rw [List.length_take, List.length_nil] at this
  omega
theorem sep_32 (r : List UInt8) : sep (32 :: r) := fun c hc => by cases hc; decide
theorem sep_10 (r : List UInt8) : sep (10 :: r) := fun c hc => by cases hc; decide
theorem sep_nil : sep [] := fun c hc => by cases hc
/-! the first fault -/
theorem lexT_first : ∀ (N : Nat) (l : List UInt8) (i a : Nat) (e : Int), l.length ≤ N → lexT i l = .inl (a, e) → ∃ m ts, a = i + m ∧ m < l.length ∧ lexT i (l.take m) = .inr ts ∧ nxt (l.drop m) = .err e
  | 0, l, i, a, e, hN, h => by
    have : l = [] := List.eq_nil_of_length_eq_zero (by omega)
    subst this
    rw [lexT_nil] at h; cases h
  | N + 1, l, i, a, e, hN, h => by
    by_cases hne : l = []
    · subst hne
      rw [lexT_nil] at h; cases h
    · have hp := nxt_pos hne
      rw [lexT_cons _ hne] at h
      have htk : ∀ (n m : Nat), 1 ≤ n → n ≤ l.length → l.take (n + m) ≠ [] := by
        intro n m h1 h2 e
        have := congrArg List.length e
        rw [List.length_take, List.length_nil] at this
        omega
      cases hx : nxt l with
      | err e' =>
        rw [hx] at h
        cases h
        exact ⟨0, [], rfl, List.length_pos_iff.2 hne, by rw [List.take_zero, lexT_nil], by rw [List.drop_zero, hx]⟩
      | skip n =>
        rw [hx] at h hp
        simp only [NxOK] at hp
        obtain ⟨m, ts, ha, hm, h1, h2⟩ := lexT_first N _ _ _ _ (by rw [List.length_drop]; omega) h
        rw [List.length_drop] at hm
        rw [List.drop_drop] at h2
        refine ⟨n + m, ts, by omega, by omega, ?_, h2⟩
        rw [lexT_cons _ (htk n m hp.1 hp.2), nxt_take hne hx (by show n ≤ n + m; omega)]
        simp only
        rw [List.drop_take, Nat.add_sub_cancel_left]
        exact h1
      | tok k n v =>
        rw [hx] at h hp
        simp only [NxOK] at hp
        simp only at h
        cases hr : lexT (i + n) (l.drop n) with
        | inr us => rw [hr] at h; cases h
        | inl x =>
          rw [hr] at h
          cases h
          obtain ⟨m, ts, ha, hm, h1, h2⟩ := lexT_first N _ _ _ _ (by rw [List.length_drop]; omega) hr
          rw [List.length_drop] at hm
          rw [List.drop_drop] at h2
          refine ⟨n + m, ⟨k, lit ((l.take (n + m)).take n), v, (i : Int)⟩ :: ts, by omega, by omega, ?_, h2⟩
          rw [lexT_cons _ (htk n m hp.1 hp.2), nxt_take hne hx (by show n ≤ n + m; omega)]
          simp only
          rw [List.drop_take, Nat.add_sub_cancel_left, h1]
theorem lexFirst (s : ByteArray) : m_lychgatelaw01_LexFirst s = some true := by
  unfold m_lychgatelaw01_LexFirst m_lychgatelaw01_LexFirst'
  rw [tokens_ok, wakes_ok]
  simp only [Option.bind_some, Bool.not_true, Bool.false_eq_true, if_false, decide_eq_true_eq, if_true]
  unfold lexR
  by_cases hs : 16384 < s.size
  · rw [if_pos hs]; simp
  · rw [if_neg hs]
    cases hx : lexT 0 (bs s) with
    | inr ts => simp
    | inl x =>
      obtain ⟨a, e⟩ := x
      obtain ⟨m, ts, ha, hm, h1, h2⟩ := lexT_first _ _ _ _ _ (Nat.le_refl _) hx
      rw [bs_len] at hm
      have ha : a = m := by omega
      subst ha
      have hd : (bs s).drop a ≠ [] := by
        intro e
        have := congrArg List.length e
        rw [List.length_drop, bs_len] at this
        simp at this; omega
      have he0 := err_ne hd h2
      have he10 : e ≠ 10 := by
        intro h
        subst h
        match hl : (bs s).drop a, hd with
        | c :: r, _ =>
          rw [hl] at h2
          unfold nxt at h2
          simp only at h2
          split at h2
          · cases h2
          · split at h2
            · cases h2
            · split at h2
              · unfold nxNum at h2; split at h2 <;> cases h2
              · split at h2
                · unfold nxWord at h2; split at h2 <;> cases h2
                · unfold nxSign at h2; split at h2 <;> cases h2
      simp only [he0, if_false, Option.bind_some, he10, decide_false, Bool.false_eq_true]
      rw [if_neg (by omega)]
      have hlt : ¬ (s.size : Int) ≤ (a : Int) := by omega
      simp only [Option.bind_some, hlt, decide_false, Bool.false_eq_true, if_false]
      have c1 : gsslice s 0 (a : Int) = some (s.extract 0 a) := gsslice_nat (i := 0) (by omega) (by omega)
      have c2 : gsslice s (a : Int) (s.size : Int) = some (s.extract a s.size) := gsslice_nat (by omega) (by omega)
      have b1 : bs (s.extract 0 a) = (bs s).take a := by rw [bs_extract, List.drop_zero]
      have b2 : bs (s.extract a s.size) = (bs s).drop a := by rw [bs_extract, List.take_of_length_le (by rw [bs_len]; exact Nat.le_refl _)]
      have z1 : (s.extract 0 a).size ≤ 16384 := by rw [← bs_len, b1, List.length_take]; omega
      have z2 : (s.extract a s.size).size ≤ 16384 := by rw [← bs_len, b2, List.length_drop, bs_len]; omega
      have l1 : lexR (s.extract 0 a) = (0, 0, ⟨ts ++ [⟨0, lit [], 0, (s.extract 0 a).size⟩], true⟩) := by
        unfold lexR; rw [if_neg (by omega), b1, h1]
      have l2 : lexR (s.extract a s.size) = (0, e, ⟨[], false⟩) := by
        unfold lexR; rw [if_neg (by omega), b2, lexT_cons _ hd, h2]; rfl
      rw [c1, c2]
      simp only [Option.bind_some]
      rw [tokens_ok, tokens_ok, l1, l2]
      simp
end Go.Px
/-! Chapter 1: tokens written with a blank between are the same tokens again. -/
namespace Go.Px
set_option linter.unusedVariables false
set_option linter.unusedSimpArgs false
/-- a token whose text is read as it, whatever stands behind -/
structure TokOK (N : Nat) (t : T_lex_Token) : Prop where
  ne : bs t.Text_ ≠ []
  le : (bs t.Text_).length ≤ N
  again : ∀ r, sep r → nxt (bs t.Text_ ++ r) = .tok t.Kind_ (bs t.Text_).length t.Num_
theorem lexT_toks : ∀ (N : Nat) (l : List UInt8) (i : Nat) (ts : List T_lex_Token), l.length ≤ N → lexT i l = .inr ts → ∀ t ∈ ts, TokOK N t
  | 0, l, i, ts, hN, h => by
    have : l = [] := List.eq_nil_of_length_eq_zero (by omega)
    subst this
    rw [lexT_nil] at h; cases h; simp
  | N + 1, l, i, ts, hN, h => by
    by_cases hne : l = []
    · subst hne
      rw [lexT_nil] at h; cases h; simp
    · have hp := nxt_pos hne
      rw [lexT_cons _ hne] at h
      have up : ∀ t, TokOK N t → TokOK (N + 1) t := fun t k => ⟨k.ne, Nat.le_succ_of_le k.le, k.again⟩
      cases hx : nxt l with
      | err e => rw [hx] at h; cases h
      | skip n =>
        rw [hx] at h hp
        simp only [NxOK] at hp
        exact fun t ht => up t (lexT_toks N _ _ _ (by rw [List.length_drop]; omega) h t ht)
      | tok k n v =>
        rw [hx] at h hp
        simp only [NxOK] at hp
        simp only at h
        cases hr : lexT (i + n) (l.drop n) with
        | inl x => rw [hr] at h; cases h
        | inr us =>
          rw [hr] at h
          cases h
          have ih := lexT_toks N _ _ _ (by rw [List.length_drop]; omega) hr
          intro t ht
          rcases List.mem_cons.1 ht with e | ht
          · subst e
            have hlen : (l.take n).length = n := by rw [List.length_take]; omega
            refine ⟨?_, ?_, ?_⟩
            · intro e
              rw [bs_lit] at e
              rw [e] at hlen; simp at hlen; omega
            · rw [bs_lit, hlen]; omega
            · intro r hr
              rw [bs_lit, hlen]
              exact tok_again hne hr hx
          · exact up t (ih t ht)
def textsOf (ts : List T_lex_Token) : List UInt8 := ts.flatMap fun t => bs t.Text_ ++ [32]
abbrev key3 (t : T_lex_Token) : Int × ByteArray × Int := (t.Kind_, t.Text_, t.Num_)
theorem lexT_again {N : Nat} : ∀ (ts : List T_lex_Token) (j : Nat), (∀ t ∈ ts, TokOK N t) → ∃ us, lexT j (textsOf ts ++ [32]) = .inr us ∧ us.map key3 = ts.map key3
  | [], j, _ => by
    refine ⟨[], ?_, rfl⟩
    show lexT j [32] = _
    rw [lexT_cons _ (by simp)]
    have : nxt [32] = .skip 1 := rfl
    rw [this]
    exact lexT_nil _
  | t :: ts, j, h => by
    have ht := h t (by simp)
    obtain ⟨us, h1, h2⟩ := lexT_again ts (j + (bs t.Text_).length + 1) (fun x hx => h x (by simp [hx]))
    have e : textsOf (t :: ts) ++ [32] = bs t.Text_ ++ (32 :: (textsOf ts ++ [32])) := by simp [textsOf]
    refine ⟨⟨t.Kind_, lit (bs t.Text_), t.Num_, (j : Int)⟩ :: us, ?_, ?_⟩
    · rw [e, lexT_cons _ (by simp [ht.ne]), ht.again _ (sep_32 _)]
      simp only
      rw [List.drop_left, List.take_left, lexT_cons _ (by simp)]
      have : nxt (32 :: (textsOf ts ++ [32])) = .skip 1 := rfl
      rw [this]
      simp only [List.drop_succ_cons, List.drop_zero]
      rw [h1]
    · simp [h2]; exact bs_ext rfl
noncomputable abbrev agLoop := l0_lychgatelaw01_LexAgain m_lex_Tokens m_lychgatelaw01_wakes
noncomputable abbrev agSame := l1_lychgatelaw01_LexAgain m_lex_Tokens m_lychgatelaw01_wakes
theorem bif_true {α : Type} {b : Bool} (h : b = true) (x y : α) : (bif b then x else y) = x := by rw [h]; rfl
theorem ag_loop (l : Sl T_lex_Token) (hn : l.xs.length ≤ 16385) (ht : ∀ t ∈ l.xs, t.Text_.size ≤ 16384) : ∀ (n i : Nat) (a : ByteArray), l.xs.length - i = n → i ≤ l.xs.length → a.size ≤ i * 16385 → lpO agLoop (a, (l.len, ((i : Int), l))) = some (lit (bs a ++ textsOf (l.xs.drop i)), l)
  | 0, i, a, hm, hi, ha => by
    have : i = l.xs.length := by omega
    subst this
    rw [lpO_eq]
    simp only [agLoop, l0_lychgatelaw01_LexAgain, decide_eq_true_eq]
    rw [if_neg (by rw [len_nat]; omega), List.drop_eq_nil_of_le (Nat.le_refl _)]
    simp only [Option.bind_some, textsOf, List.flatMap_nil, List.append_nil]
    congr 2
  | n + 1, i, a, hm, hi, ha => by
    have hlt : i < l.xs.length := by omega
    rw [lpO_eq]
    simp only [agLoop, l0_lychgatelaw01_LexAgain, decide_eq_true_eq, gidx_nat]
    rw [if_pos (by rw [len_nat]; omega), List.getElem?_eq_getElem hlt]
    have hz := ht _ (List.getElem_mem hlt)
    have hw := wrap_one (n := i) (by omega)
    have hsz : (l.xs[i].Text_ ++ lit [32]).size = l.xs[i].Text_.size + 1 := by rw [← bs_len, bs_append, List.length_append, bs_len, bs_lit]; rfl
    simp only [Option.bind_some, hw]
    rw [bif_true (by simp; omega), bif_true (by rw [hsz]; simp; omega)]
    simp only [Option.bind_some]
    refine (ag_loop l hn ht n (i + 1) _ (by omega) (by omega) ?_).trans ?_
    · rw [← bs_len, bs_append, bs_append, List.length_append, List.length_append, bs_len, bs_len, bs_lit]
      simp only [List.length_cons, List.length_nil]
      rw [Nat.add_mul]; omega
    · congr 2
      apply bs_ext
      rw [bs_lit, bs_lit, bs_append, bs_append, bs_lit]
      rw [List.drop_eq_getElem_cons hlt]
      simp only [textsOf, List.flatMap_cons, List.append_assoc]
theorem ag_same (l m : Sl T_lex_Token) (hn : l.xs.length ≤ 16385) (hk : m.xs.map key3 = l.xs.map key3) : ∀ (n i : Nat), l.xs.length - i = n → i ≤ l.xs.length → lpO agSame (l.len, (i : Int), l, m) = some (.inr ())
  | 0, i, hm, hi => by
    have : i = l.xs.length := by omega
    subst this
    rw [lpO_eq]
    simp only [agSame, l1_lychgatelaw01_LexAgain, decide_eq_true_eq]
    rw [if_neg (by rw [len_nat]; omega)]
    rfl
  | n + 1, i, hm, hi => by
    have hlt : i < l.xs.length := by omega
    have hlt2 : i < m.xs.length := by have := congrArg List.length hk; simp at this; omega
    have he : key3 m.xs[i] = key3 l.xs[i] := by
      have := congrArg (fun x => x[i]?) hk
      simpa [List.getElem?_eq_getElem hlt, List.getElem?_eq_getElem hlt2] using this
    simp only [key3, Prod.mk.injEq] at he
    obtain ⟨e1, e2, e3⟩ := he
    rw [lpO_eq]
    simp only [agSame, l1_lychgatelaw01_LexAgain, decide_eq_true_eq, gidx_nat]
    rw [if_pos (by rw [len_nat]; omega), List.getElem?_eq_getElem hlt, List.getElem?_eq_getElem hlt2]
    have hw := wrap_one (n := i) (by omega)
    simp only [Option.bind_some, e1, e2, e3, ne_eq, not_true_eq_false, if_false, decide_false, Bool.false_eq_true, hw]
    exact ag_same l m hn hk n (i + 1) (by omega) (by omega)
theorem lexAgain (s : ByteArray) : m_lychgatelaw01_LexAgain s = some true := by
  unfold m_lychgatelaw01_LexAgain m_lychgatelaw01_LexAgain'
  rw [tokens_ok, wakes_ok]
  simp only [Option.bind_some, Bool.not_true, Bool.false_eq_true, if_false, decide_eq_true_eq]
  have hlen := lexR_len s
  revert hlen
  unfold lexR
  by_cases hs : 16384 < s.size
  · rw [if_pos hs]; intro _; simp
  · rw [if_neg hs]
    cases hx : lexT 0 (bs s) with
    | inl x =>
      obtain ⟨a, e⟩ := x
      obtain ⟨m, ts, ha, hm, h1, h2⟩ := lexT_first _ _ _ _ _ (Nat.le_refl _) hx
      have he := err_ne (by
        intro e
        have := congrArg List.length e
        rw [List.length_drop, List.length_nil] at this
        omega) h2
      intro _
      simp [he]
    | inr ts =>
      intro hlen
      have htok := lexT_toks _ _ _ _ (Nat.le_refl _) hx
      simp only at hlen
      simp only [ne_eq, not_true_eq_false, decide_false, Option.bind_some, Bool.false_eq_true, if_false]
      generalize hl : (⟨ts ++ [⟨0, lit [], 0, s.size⟩], true⟩ : Sl T_lex_Token) = l
      have hlx : l.xs = ts ++ [⟨0, lit [], 0, s.size⟩] := by rw [← hl]
      have hts : ∀ t ∈ l.xs, t.Text_.size ≤ 16384 := by
        rw [hlx]
        intro t ht
        rcases List.mem_append.1 ht with h | h
        · have := (htok t h).le
          rw [bs_len, bs_len] at this; omega
        · rw [List.mem_singleton] at h; subst h; simp [size_lit]
      have hlp := ag_loop l (by rw [hlx]; exact hlen) hts _ 0 (lit []) rfl (by omega) (by simp [size_lit])
      rw [List.drop_zero, bs_lit, List.nil_append] at hlp
      have htx : textsOf l.xs = textsOf ts ++ [32] := by rw [hlx]; simp [textsOf, bs_lit]
      rw [htx] at hlp
      rw [show lpO (l0_lychgatelaw01_LexAgain m_lex_Tokens m_lychgatelaw01_wakes) (lit [], l.len, 0, l) = _ from hlp]
      simp only [Option.bind_some]
      by_cases hz : 16384 < (lit (textsOf ts ++ [32])).size
      · rw [if_pos (by omega)]
      · rw [if_neg (by omega), tokens_ok]
        obtain ⟨us, h1, h2⟩ := lexT_again ts 0 htok
        have hR : lexR (lit (textsOf ts ++ [32])) = (0, 0, ⟨us ++ [⟨0, lit [], 0, (lit (textsOf ts ++ [32])).size⟩], true⟩) := by
          unfold lexR
          rw [if_neg hz, bs_lit, h1]
        rw [hR]
        have hk : (us ++ [(⟨0, lit [], 0, ((lit (textsOf ts ++ [32])).size : Int)⟩ : T_lex_Token)]).map key3 = l.xs.map key3 := by
          rw [hlx]; simp [h2]
        have hle : (us ++ [(⟨0, lit [], 0, ((lit (textsOf ts ++ [32])).size : Int)⟩ : T_lex_Token)]).length = l.xs.length := by
          have := congrArg List.length hk
          simpa using this
        have hsame := ag_same l ⟨us ++ [⟨0, lit [], 0, ((lit (textsOf ts ++ [32])).size : Int)⟩], true⟩ (by rw [hlx]; exact hlen) hk _ 0 rfl (by omega)
        simp only [Option.bind_some, ne_eq, not_true_eq_false, decide_false, Bool.false_eq_true, if_false, len_nat, hle]
        rw [show lpO (l1_lychgatelaw01_LexAgain m_lex_Tokens m_lychgatelaw01_wakes) ((l.xs.length : Int), 0, l, ⟨us ++ [⟨0, lit [], 0, ((lit (textsOf ts ++ [32])).size : Int)⟩], true⟩) = _ from hsame]
        rfl
end Go.Px
/-! Chapter 1: two texts with a line feed between. -/
namespace Go.Px
set_option linter.unusedVariables false
set_option linter.unusedSimpArgs false
theorem nxt_skip_app {l r : List UInt8} (hne : l ≠ []) {n : Nat} (hx : nxt l = .skip n) : nxt (l ++ 10 :: r) = .skip n := by
  match l, hne with
  | c :: l, _ =>
    rw [List.cons_append]
    unfold nxt at hx ⊢
    simp only at hx ⊢
    split at hx
    · rename_i h1; rw [if_pos h1]; exact hx
    · rename_i h1
      rw [if_neg h1]
      split at hx
      · rename_i h2
        rw [if_pos h2, ← hx, ← List.cons_append, nrun_app notNl (fun c hc => by cases hc; decide)]
      · exfalso
        split at hx
        · unfold nxNum at hx; split at hx <;> cases hx
        · split at hx
          · unfold nxWord at hx; split at hx <;> cases hx
          · unfold nxSign at hx; split at hx <;> cases hx
def shiftT (d : Nat) (t : T_lex_Token) : T_lex_Token := ⟨t.Kind_, t.Text_, t.Num_, t.At_ + (d : Int)⟩
theorem lexT_shift : ∀ (N : Nat) (l : List UInt8) (i d : Nat) (ts : List T_lex_Token), l.length ≤ N → lexT i l = .inr ts → lexT (i + d) l = .inr (ts.map (shiftT d))
  | 0, l, i, d, ts, hN, h => by
    have : l = [] := List.eq_nil_of_length_eq_zero (by omega)
    subst this
    rw [lexT_nil] at h ⊢; cases h; rfl
  | N + 1, l, i, d, ts, hN, h => by
    by_cases hne : l = []
    · subst hne
      rw [lexT_nil] at h ⊢; cases h; rfl
    · have hp := nxt_pos hne
      rw [lexT_cons _ hne] at h ⊢
      cases hx : nxt l with
      | err e => rw [hx] at h; cases h
      | skip n =>
        rw [hx] at h hp
        simp only [NxOK] at hp
        simp only at h ⊢
        have := lexT_shift N _ _ d _ (by rw [List.length_drop]; omega) h
        rw [show i + d + n = i + n + d by omega]; exact this
      | tok k n v =>
        rw [hx] at h hp
        simp only [NxOK] at hp
        simp only at h ⊢
        cases hr : lexT (i + n) (l.drop n) with
        | inl x => rw [hr] at h; cases h
        | inr us =>
          rw [hr] at h
          cases h
          have := lexT_shift N _ _ d _ (by rw [List.length_drop]; omega) hr
          rw [show i + d + n = i + n + d by omega, this]
          simp [shiftT]
theorem lexT_join : ∀ (N : Nat) (l r : List UInt8) (i : Nat) (ts us : List T_lex_Token), l.length ≤ N → lexT i l = .inr ts → lexT (i + l.length + 1) r = .inr us → lexT i (l ++ 10 :: r) = .inr (ts ++ us)
  | N, [], r, i, ts, us, hN, h, k => by
    rw [lexT_nil] at h; cases h
    rw [List.nil_append, lexT_cons _ (by simp)]
    have : nxt (10 :: r) = .skip 1 := rfl
    rw [this]
    simp only [List.drop_succ_cons, List.drop_zero, List.nil_append]
    simpa using k
  | N + 1, c :: l, r, i, ts, us, hN, h, k => by
    have hne : c :: l ≠ [] := by simp
    have hp := nxt_pos hne
    rw [lexT_cons _ hne] at h
    rw [lexT_cons _ (by simp)]
    cases hx : nxt (c :: l) with
    | err e => rw [hx] at h; cases h
    | skip n =>
      rw [hx] at h hp
      simp only [NxOK] at hp
      rw [nxt_skip_app hne hx]
      simp only at h ⊢
      rw [List.drop_append_of_le_length hp.2]
      refine lexT_join N _ r _ ts us (by rw [List.length_drop]; omega) h ?_
      rw [List.length_drop, show i + n + ((c :: l).length - n) + 1 = i + (c :: l).length + 1 by omega]
      exact k
    | tok q n v =>
      rw [hx] at h hp
      simp only [NxOK] at hp
      rw [nxt_app hne (sep_10 r) hx]
      simp only at h ⊢
      cases hr : lexT (i + n) ((c :: l).drop n) with
      | inl x => rw [hr] at h; cases h
      | inr vs =>
        rw [hr] at h
        cases h
        rw [List.drop_append_of_le_length hp.2, List.take_append_of_le_length hp.2]
        have := lexT_join N _ r _ vs us (by rw [List.length_drop]; omega) hr (by
          rw [List.length_drop, show i + n + ((c :: l).length - n) + 1 = i + (c :: l).length + 1 by omega]
          exact k)
        rw [this]
        rfl
noncomputable abbrev jnA := l0_lychgatelaw01_LexJoined m_lex_Tokens m_lychgatelaw01_wakes
noncomputable abbrev jnB := l1_lychgatelaw01_LexJoined m_lex_Tokens m_lychgatelaw01_wakes
theorem jnA_ok (s : ByteArray) (a q b c : Sl T_lex_Token) (hq : q.xs.length ≤ 16385) (h : ∀ (i : Nat) x, q.xs[i]? = some x → c.xs[i]? = some x) : ∀ (n i : Nat), q.xs.length - i = n → i ≤ q.xs.length → lpO jnA (s, a, q, q.len, (i : Int), b, c) = some (.inr (s, a, b, c))
  | 0, i, hm, hi => by
    have : i = q.xs.length := by omega
    subst this
    rw [lpO_eq]
    simp only [jnA, l0_lychgatelaw01_LexJoined, decide_eq_true_eq]
    rw [if_neg (by rw [len_nat]; omega)]
    rfl
  | n + 1, i, hm, hi => by
    have hlt : i < q.xs.length := by omega
    have he := List.getElem?_eq_getElem hlt
    rw [lpO_eq]
    simp only [jnA, l0_lychgatelaw01_LexJoined, decide_eq_true_eq, gidx_nat]
    rw [if_pos (by rw [len_nat]; omega), he, h _ _ he]
    have hw := wrap_one (n := i) (by omega)
    simp only [Option.bind_some, hw]
    simp
    exact jnA_ok s a q b c hq h n (i + 1) (by omega) (by omega)
theorem jnB_ok (s : ByteArray) (a b c : Sl T_lex_Token) (hs : s.size ≤ 16384) (ha : a.xs.length ≤ 16385) (ha1 : 1 ≤ a.xs.length) (hb : b.xs.length ≤ 16385) (hat : ∀ t ∈ b.xs, 0 ≤ t.At_ ∧ t.At_ ≤ 16384) (h : ∀ (i : Nat) x, b.xs[i]? = some x → c.xs[a.xs.length - 1 + i]? = some (shiftT (s.size + 1) x)) : ∀ (n i : Nat), b.xs.length - i = n → i ≤ b.xs.length → lpO jnB (s, a, b.len, (i : Int), c, b) = some (.inr ())
  | 0, i, hm, hi => by
    have : i = b.xs.length := by omega
    subst this
    rw [lpO_eq]
    simp only [jnB, l1_lychgatelaw01_LexJoined, decide_eq_true_eq]
    rw [if_neg (by rw [len_nat]; omega)]
    rfl
  | n + 1, i, hm, hi => by
    have hlt : i < b.xs.length := by omega
    have he := List.getElem?_eq_getElem hlt
    have hb2 := hat _ (List.getElem_mem hlt)
    have hw := wrap_one (n := i) (by omega)
    have w1 : IntKind.i64.wrap (a.len - 1) = ((a.xs.length - 1 : Nat) : Int) := by rw [len_nat, wrap_id (by omega) (by omega)]; omega
    have w2 : IntKind.i64.wrap (IntKind.i64.wrap (a.len - 1) + (i : Int)) = ((a.xs.length - 1 + i : Nat) : Int) := by rw [w1, wrap_add (by omega)]
    have w3 : IntKind.i64.wrap (b.xs[i].At_ + IntKind.i64.wrap ((s.size : Int) + 1)) = b.xs[i].At_ + ((s.size + 1 : Nat) : Int) := by
      rw [wrap_one (by omega), wrap_id (by omega) (by omega)]
    rw [lpO_eq]
    simp only [jnB, l1_lychgatelaw01_LexJoined, decide_eq_true_eq, w2, gidx_nat]
    rw [if_pos (by rw [len_nat]; omega), he, h _ _ he]
    simp only [Option.bind_some, hw, w3, shiftT]
    simp
    exact jnB_ok s a b c hs ha ha1 hb hat h n (i + 1) (by omega) (by omega)
theorem lexT_at : ∀ (N : Nat) (l : List UInt8) (i : Nat) (ts : List T_lex_Token), l.length ≤ N → lexT i l = .inr ts → ∀ t ∈ ts, (i : Int) ≤ t.At_ ∧ t.At_ ≤ ((i + l.length : Nat) : Int)
  | 0, l, i, ts, hN, h => by
    have : l = [] := List.eq_nil_of_length_eq_zero (by omega)
    subst this
    rw [lexT_nil] at h; cases h; simp
  | N + 1, l, i, ts, hN, h => by
    by_cases hne : l = []
    · subst hne
      rw [lexT_nil] at h; cases h; simp
    · have hp := nxt_pos hne
      rw [lexT_cons _ hne] at h
      cases hx : nxt l with
      | err e => rw [hx] at h; cases h
      | skip n =>
        rw [hx] at h hp
        simp only [NxOK] at hp
        intro t ht
        have := lexT_at N _ _ _ (by rw [List.length_drop]; omega) h t ht
        rw [List.length_drop] at this
        omega
      | tok k n v =>
        rw [hx] at h hp
        simp only [NxOK] at hp
        simp only at h
        cases hr : lexT (i + n) (l.drop n) with
        | inl x => rw [hr] at h; cases h
        | inr us =>
          rw [hr] at h
          cases h
          intro t ht
          rcases List.mem_cons.1 ht with e | ht
          · subst e; simp only; omega
          · have := lexT_at N _ _ _ (by rw [List.length_drop]; omega) hr t ht
            rw [List.length_drop] at this
            omega
/-- the fault of a text that has one -/
theorem lexR_err {s : ByteArray} (h : (lexR s).2.1 = 0) : s.size ≤ 16384 ∧ ∃ ts, lexT 0 (bs s) = .inr ts ∧ lexR s = (0, 0, ⟨ts ++ [⟨0, lit [], 0, s.size⟩], true⟩) := by
  unfold lexR at h ⊢
  by_cases hs : 16384 < s.size
  · rw [if_pos hs] at h; cases h
  · rw [if_neg hs] at h ⊢
    refine ⟨by omega, ?_⟩
    cases hx : lexT 0 (bs s) with
    | inr ts => exact ⟨ts, rfl, rfl⟩
    | inl x =>
      rw [hx] at h
      obtain ⟨a, e⟩ := x
      obtain ⟨m, ts, ha, hm, h1, h2⟩ := lexT_first _ _ _ _ _ (Nat.le_refl _) hx
      have he := err_ne (by
        intro e
        have := congrArg List.length e
        rw [List.length_drop, List.length_nil] at this
        omega) h2
      exact absurd h he
theorem lexJoined (s t : ByteArray) (hst : s.size + t.size ≤ 2097152) : m_lychgatelaw01_LexJoined (s, t) = some true := by
  unfold m_lychgatelaw01_LexJoined m_lychgatelaw01_LexJoined'
  simp only
  rw [tokens_ok, tokens_ok, wakes_ok]
  have w0 : IntKind.i64.wrap (IntKind.i64.wrap ((s.size : Int) + (t.size : Int)) + 1) = ((s.size + t.size + 1 : Nat) : Int) := by
    rw [wrap_add (by omega), wrap_one (by omega)]
  simp only [Option.bind_some, Bool.not_true, Bool.false_eq_true, if_false, decide_eq_true_eq, w0]
  by_cases e1 : (lexR s).2.1 = 0
  · by_cases e2 : (lexR t).2.1 = 0
    · obtain ⟨hs, ts, h1, hR1⟩ := lexR_err e1
      obtain ⟨ht, us, h2, hR2⟩ := lexR_err e2
      have n1 := lexT_len _ _ _ _ (Nat.le_refl _) h1
      have n2 := lexT_len _ _ _ _ (Nat.le_refl _) h2
      rw [bs_len] at n1 n2
      rw [hR1, hR2]
      simp only [ne_eq, not_true_eq_false, if_false, Option.bind_some]
      by_cases hz : 16384 < s.size + t.size + 1
      · have : (16384 : Int) < ((s.size + t.size + 1 : Nat) : Int) := by omega
        simp only [this, decide_true, if_true, Option.bind_some]
      · have : ¬ (16384 : Int) < ((s.size + t.size + 1 : Nat) : Int) := by omega
        simp only [this, decide_false, Bool.false_eq_true, if_false]
        have z1 : (s ++ lit [10]).size = s.size + 1 := by rw [← bs_len, bs_append, List.length_append, bs_len, bs_lit]; rfl
        have z2 : (s ++ lit [10] ++ t).size = s.size + 1 + t.size := by rw [← bs_len, bs_append, List.length_append, bs_len, z1, bs_len]
        rw [bif_true (by simp; omega), bif_true (by rw [z1]; simp; omega), tokens_ok]
        have hb : bs (s ++ lit [10] ++ t) = bs s ++ 10 :: bs t := by rw [bs_append, bs_append, bs_lit]; simp
        have hj := lexT_join _ (bs s) (bs t) 0 ts (us.map (shiftT (s.size + 1))) (Nat.le_refl _) h1 (by
          have := lexT_shift _ _ 0 (s.size + 1) _ (Nat.le_refl _) h2
          rw [bs_len, show 0 + s.size + 1 = 0 + (s.size + 1) by omega]
          exact this)
        have hR3 : lexR (s ++ lit [10] ++ t) = (0, 0, ⟨ts ++ us.map (shiftT (s.size + 1)) ++ [⟨0, lit [], 0, (s.size + 1 + t.size : Nat)⟩], true⟩) := by
          unfold lexR
          rw [if_neg (by omega), hb, hj, z2]
        rw [hR3]
        generalize ha : (⟨ts ++ [⟨0, lit [], 0, s.size⟩], true⟩ : Sl T_lex_Token) = a
        generalize hbb : (⟨us ++ [⟨0, lit [], 0, t.size⟩], true⟩ : Sl T_lex_Token) = b
        generalize hc : (⟨ts ++ us.map (shiftT (s.size + 1)) ++ [⟨0, lit [], 0, (s.size + 1 + t.size : Nat)⟩], true⟩ : Sl T_lex_Token) = c
        have la : a.xs.length = ts.length + 1 := by rw [← ha]; simp
        have lb : b.xs.length = us.length + 1 := by rw [← hbb]; simp
        have lc : c.xs.length = ts.length + us.length + 1 := by rw [← hc]; simp; omega
        have wl : IntKind.i64.wrap (IntKind.i64.wrap (a.len + b.len) - 1) = c.len := by
          rw [len_nat, len_nat, len_nat, wrap_add (by omega), wrap_id (by omega) (by omega)]; omega
        have wa : IntKind.i64.wrap (a.len - 1) = ((ts.length : Nat) : Int) := by rw [len_nat, wrap_id (by omega) (by omega)]; omega
        simp only [Option.bind_some, not_true_eq_false, if_false, wl, decide_false, Bool.false_eq_true, wa]
        have hcut : gslice a 0 ((ts.length : Nat) : Int) = some ⟨ts, true⟩ := by
          rw [gslice_ok (by omega) (by omega) (by omega)]
          rw [← ha]
          simp
        rw [hcut]
        have hA := jnA_ok s a ⟨ts, true⟩ b c (by simp only; omega) (fun i x hx => by
          rw [← hc]
          simp only
          have hlt := (List.getElem?_eq_some_iff.1 hx).1
          simp only at hlt
          rw [List.append_assoc, List.getElem?_append_left hlt]
          exact hx) _ 0 rfl (by omega)
        have hB := jnB_ok s a b c hs (by omega) (by omega) (by omega) (fun x hx => by
          rw [← hbb] at hx
          rcases List.mem_append.1 hx with h | h
          · have := lexT_at _ _ _ _ (Nat.le_refl _) h2 x h
            rw [bs_len] at this; omega
          · rw [List.mem_singleton] at h; subst h; simp only; omega) (fun i x hx => by
          rw [← hc, la]
          rw [← hbb] at hx
          simp only at hx ⊢
          rw [Nat.add_sub_cancel, List.append_assoc, List.getElem?_append_right (by omega), Nat.add_sub_cancel_left]
          have : us.map (shiftT (s.size + 1)) ++ [(⟨0, lit [], 0, ((s.size + 1 + t.size : Nat) : Int)⟩ : T_lex_Token)] = (us ++ [(⟨0, lit [], 0, (t.size : Int)⟩ : T_lex_Token)]).map (shiftT (s.size + 1)) := by
            simp [shiftT]; omega
          rw [this, List.getElem?_map, hx]
          rfl) _ 0 rfl (by omega)
        simp only [Option.bind_some]
        rw [show lpO (l0_lychgatelaw01_LexJoined m_lex_Tokens m_lychgatelaw01_wakes) (s, a, ⟨ts, true⟩, Sl.len ⟨ts, true⟩, 0, b, c) = _ from hA]
        simp only [Option.bind_some, Sum.elim_inr]
        rw [show lpO (l1_lychgatelaw01_LexJoined m_lex_Tokens m_lychgatelaw01_wakes) (s, a, b.len, 0, c, b) = _ from hB]
        rfl
    · simp [e1, e2]
  · simp [e1]
end Go.Px
/-! Chapter 1: numbers and their digits. -/
namespace Go.Px
set_option linter.unusedVariables false
set_option linter.unusedSimpArgs false
/-- the digits of a number -/
def digs (k : Nat) : List UInt8 := if h : k < 10 then [UInt8.ofNat (48 + k)] else digs (k / 10) ++ [UInt8.ofNat (48 + k % 10)]
termination_by k
decreasing_by omega
theorem u8_nat {n : Nat} (h : n < 256) : (UInt8.ofNat n).toNat = n := UInt8.toNat_ofNat_of_lt' (by simpa [UInt8.size] using h)
theorem digs_small {k : Nat} (h : k < 10) : digs k = [UInt8.ofNat (48 + k)] := by rw [digs, dif_pos h]
theorem digs_great {k : Nat} (h : ¬ k < 10) : digs k = digs (k / 10) ++ [UInt8.ofNat (48 + k % 10)] := by rw [digs, dif_neg h]
theorem isD_dig {n : Nat} (h : n < 10) : isD (UInt8.ofNat (48 + n)) = true := by
  unfold isD
  rw [u8_nat (by omega)]
  simp; omega
theorem numF_app : ∀ (l r : List UInt8) (a : Nat), numF a (l ++ r) = numF (numF a l) r
  | [], r, a => rfl
  | c :: l, r, a => numF_app l r _
theorem digs_ok : ∀ (N k : Nat), k ≤ N → (digs k).all isD = true ∧ numVal (digs k) = k ∧ 1 ≤ (digs k).length ∧ (10 ≤ k → (digs k).head? ≠ some 48) ∧ (k < 10 → (digs k).length = 1) ∧ (digs k).length ≤ k + 1 ∧ (1 ≤ k → (digs k).head? ≠ some 48)
  | 0, k, h => by
    have : k = 0 := by omega
    subst this
    rw [digs_small (by omega)]
    decide
  | N + 1, k, h => by
    by_cases hk : k < 10
    · rw [digs_small hk]
      refine ⟨by rw [List.all_cons, isD_dig hk]; rfl, ?_, by simp, fun h => by omega, fun _ => rfl, by simp, ?_⟩
      · show numF 0 [_] = k
        unfold numF numF
        rw [u8_nat (by omega)]; omega
      · intro h1 e
        simp only [List.head?_cons, Option.some.injEq] at e
        have := congrArg UInt8.toNat e
        rw [u8_nat (by omega)] at this
        simp at this; omega
    · obtain ⟨h1, h2, h3, h4, h5, h6, h7⟩ := digs_ok N (k / 10) (by omega)
      rw [digs_great hk]
      have hhead : (digs (k / 10) ++ [UInt8.ofNat (48 + k % 10)]).head? = (digs (k / 10)).head? := by
        match digs (k / 10), h3 with
        | c :: r, _ => rfl
      refine ⟨?_, ?_, by simp, fun _ => ?_, fun h => by omega, by simp only [List.length_append, List.length_cons, List.length_nil]; omega, fun _ => ?_⟩
      · rw [List.all_append, h1]
        rw [List.all_cons, isD_dig (show k % 10 < 10 by omega)]; rfl
      · unfold numVal at h2 ⊢
        rw [numF_app, h2]
        show k / 10 * 10 + ((UInt8.ofNat (48 + k % 10)).toNat - 48) = k
        rw [u8_nat (by omega)]; omega
      · rw [hhead]; exact h7 (by omega)
      · rw [hhead]; exact h7 (by omega)
theorem ofInts_one {n : Nat} : ofInts [(n : Int)] = lit [UInt8.ofNat n] := by
  apply bs_ext
  rfl
noncomputable abbrev vaLoop := l0_lychgatelaw01_LexValues m_lex_Tokens m_lychgatelaw01_wakes
theorem va_loop (n : Int) : ∀ (N m : Nat) (acc : List UInt8), m ≤ N → m ≤ 1099511627781 → acc.length + m ≤ 9000000000000 → lpO vaLoop (n, lit acc, (m : Int)) = some (n, lit (if m = 0 ∧ acc ≠ [] then acc else digs m ++ acc)) := by
  have base : ∀ (acc : List UInt8), acc ≠ [] → lpO vaLoop (n, lit acc, ((0 : Nat) : Int)) = some (n, lit acc) := by
    intro acc h
    rw [lpO_eq]
    have : lit acc ≠ lit [] := fun e => h (by have := congrArg bs e; simpa [bs_lit] using this)
    simp [vaLoop, l0_lychgatelaw01_LexValues, this]
  have step : ∀ (m : Nat) (acc : List UInt8), m ≤ 1099511627781 → acc.length ≤ 9000000000000 → (0 < m ∨ acc = []) → vaLoop (n, lit acc, (m : Int)) = some (.next (n, lit (UInt8.ofNat (48 + m % 10) :: acc), ((m / 10 : Nat) : Int))) := by
    intro m acc hm ha hc
    have hcond : (if decide (0 < (m : Int)) = true then some (n, lit acc, (m : Int), true) else some (n, lit acc, (m : Int), decide (lit acc = lit []))) = some (n, lit acc, (m : Int), true) := by
      by_cases h0 : 0 < m
      · rw [if_pos (decide_eq_true (show (0 : Int) < (m : Int) by omega))]
      · rcases hc with h | h
        · exact absurd h h0
        · subst h
          simp
    simp only [vaLoop, l0_lychgatelaw01_LexValues]
    rw [hcond]
    have t1 : Int.tmod (m : Int) 10 = ((m % 10 : Nat) : Int) := by rw [Int.tmod_eq_emod_of_nonneg (by omega)]; omega
    have t2 : Int.tdiv (m : Int) 10 = ((m / 10 : Nat) : Int) := by rw [Int.tdiv_eq_ediv_of_nonneg (by omega)]; omega
    have t3 : IntKind.u8.wrap (IntKind.i64.wrap (48 + Int.tmod (m : Int) 10)) = ((48 + m % 10 : Nat) : Int) := by
      rw [t1, show (48 : Int) + ((m % 10 : Nat) : Int) = ((48 + m % 10 : Nat) : Int) by omega, wrap_nat (by omega), wrap8 (by omega)]
    simp only [Option.bind_some, if_true, t3, t2]
    rw [wrap_nat (by omega), ofInts_one, bif_true (by rw [size_lit, size_lit]; simp; omega)]
    have : lit [UInt8.ofNat (48 + m % 10)] ++ lit acc = lit (UInt8.ofNat (48 + m % 10) :: acc) := by
      apply bs_ext; rw [bs_append, bs_lit, bs_lit, bs_lit]; rfl
    rw [this]
  intro N
  induction N with
  | zero =>
    intro m acc h1 h2 h3
    have : m = 0 := by omega
    subst this
    by_cases ha : acc = []
    · subst ha
      rw [lpO_eq, step 0 [] (by omega) (by simp) (.inr rfl)]
      show lpO vaLoop (n, lit [UInt8.ofNat 48], ((0 : Nat) : Int)) = _
      rw [base _ (by simp)]
      simp [digs_small (show 0 < 10 by omega)]
    · rw [base _ ha, if_pos ⟨rfl, ha⟩]
  | succ N ih =>
    intro m acc h1 h2 h3
    by_cases h0 : m = 0
    · exact ih m acc (by omega) h2 h3
    · rw [if_neg (by intro h; exact h0 h.1), lpO_eq, step m acc h2 (by omega) (.inl (by omega))]
      simp only [Option.bind_some]
      rw [ih (m / 10) _ (by omega) (by omega) (by simp only [List.length_cons]; omega)]
      by_cases hk : m < 10
      · have : m / 10 = 0 := by omega
        have hm : m % 10 = m := by omega
        rw [if_pos ⟨this, by simp⟩, digs_small hk, hm]; rfl
      · rw [if_neg (by intro h; omega), digs_great hk, List.append_assoc]
        rfl
theorem digs_short {k : Nat} (h : k ≤ 1099511627781) : (digs k).length ≤ 14 := by
  have key : ∀ (d k : Nat), k < 10 ^ d → 1 ≤ d → (digs k).length ≤ d := by
    intro d
    induction d with
    | zero => intro k _ h; omega
    | succ d ih =>
      intro k hk _
      by_cases h10 : k < 10
      · rw [digs_small h10]; simp
      · rw [digs_great h10]
        have hd : 1 ≤ d := by
          rcases Nat.eq_zero_or_pos d with h | h
          · subst h; simp at hk; omega
          · exact h
        have := ih (k / 10) (by rw [Nat.div_lt_iff_lt_mul (by omega)]; rw [Nat.pow_succ] at hk; exact hk) hd
        simp only [List.length_append, List.length_cons, List.length_nil]; omega
  exact key 14 k (by omega) (by omega)
theorem nxt_num {l : List UInt8} (h : l.all isD = true) (hne : l ≠ []) : nxt l = if 1099511627776 < numVal l ∨ (1 < l.length ∧ l.head? = some 48) then .err 12 else .tok 3 l.length (numVal l : Nat) := by
  match l, hne with
  | c :: r, _ =>
    have hr : nrun isD (c :: r) = (c :: r).length := (all_nrun isD _).2 h
    have hd : isD c = true := by rw [List.all_cons, Bool.and_eq_true] at h; exact h.1
    have hd2 := hd
    simp only [isD, Bool.and_eq_true, decide_eq_true_eq] at hd2
    unfold nxt
    simp only
    rw [if_neg (by omega), if_neg (by omega), if_pos hd]
    unfold nxNum numBad
    rw [hr, List.take_length, List.getElem?_eq_none (Nat.le_refl _)]
    simp [letterAt]
theorem lexValues (x : Int) : m_lychgatelaw01_LexValues x = some true := by
  unfold m_lychgatelaw01_LexValues m_lychgatelaw01_LexValues'
  obtain ⟨k, hk, hk2⟩ : ∃ k : Nat, (if 0 < if 1099511627781 < x then 1099511627781 else x then if 1099511627781 < x then 1099511627781 else x else 0) = (k : Int) ∧ k ≤ 1099511627781 := by
    refine ⟨(if 0 < if 1099511627781 < x then 1099511627781 else x then if 1099511627781 < x then 1099511627781 else x else 0 : Int).toNat, ?_, ?_⟩
    · split <;> split <;> omega
    · split <;> split <;> omega
  rw [hk]
  have hlp := va_loop (k : Int) _ k [] (Nat.le_refl _) hk2 (by simp; omega)
  rw [if_neg (by simp), List.append_nil] at hlp
  rw [show lpO (l0_lychgatelaw01_LexValues m_lex_Tokens m_lychgatelaw01_wakes) ((k : Int), lit [], (k : Int)) = _ from hlp]
  obtain ⟨d1, d2, d3, d4, d5, d6, d7⟩ := digs_ok _ k (Nat.le_refl _)
  have hsh := digs_short hk2
  have hne : digs k ≠ [] := by intro e; rw [e] at d3; simp at d3
  have hlong : ¬ (1 < (digs k).length ∧ (digs k).head? = some 48) := by
    intro ⟨h1, h2⟩
    exact d4 (by by_cases h : k < 10
                 · have := d5 h; omega
                 · omega) h2
  have hzero : lit [48] ++ lit (digs k) = lit (48 :: digs k) := by apply bs_ext; rw [bs_append, bs_lit, bs_lit, bs_lit]; rfl
  have hR0 : (lexR (lit (48 :: digs k))).2.1 = 12 := by
    unfold lexR
    rw [if_neg (by rw [size_lit]; simp only [List.length_cons]; omega), bs_lit, lexT_cons _ (by simp), nxt_num (by rw [List.all_cons, d1]; rfl) (by simp), if_pos (.inr ⟨by simp only [List.length_cons]; omega, rfl⟩)]
  simp only [Option.bind_some]
  rw [tokens_ok]
  simp only [Option.bind_some]
  rw [bif_true (by rw [size_lit]; simp; omega), hzero, tokens_ok, wakes_ok]
  simp only [Option.bind_some, Bool.not_true, Bool.false_eq_true, if_false, hR0, ne_eq, not_true_eq_false, decide_false]
  by_cases hg : 1099511627776 < k
  · have hR : (lexR (lit (digs k))).2.1 = 12 := by
      unfold lexR
      rw [if_neg (by rw [size_lit]; omega), bs_lit, lexT_cons _ hne, nxt_num d1 hne, if_pos (.inl (by rw [d2]; exact hg))]
    rw [if_pos (decide_eq_true (show (1099511627776 : Int) < (k : Int) by omega)), hR]
    rfl
  · have hR : lexR (lit (digs k)) = (0, 0, ⟨[⟨3, lit (digs k), (k : Int), 0⟩, ⟨0, lit [], 0, ((lit (digs k)).size : Int)⟩], true⟩) := by
      unfold lexR
      rw [if_neg (by rw [size_lit]; omega), bs_lit, lexT_cons _ hne, nxt_num d1 hne, if_neg (by rw [d2]; rintro (h | h); exact hg h; exact hlong h)]
      simp only
      rw [List.drop_length, lexT_nil, List.take_length, d2]
      rfl
    rw [if_neg (fun h => hg (by have := of_decide_eq_true h; omega)), hR]
    have g0 : gidx (⟨[⟨3, lit (digs k), (k : Int), 0⟩, ⟨0, lit [], 0, ((lit (digs k)).size : Int)⟩], true⟩ : Sl T_lex_Token) 0 = some ⟨3, lit (digs k), (k : Int), 0⟩ := rfl
    have l0 : (⟨[⟨3, lit (digs k), (k : Int), 0⟩, ⟨0, lit [], 0, ((lit (digs k)).size : Int)⟩], true⟩ : Sl T_lex_Token).len = 2 := rfl
    simp only [l0, g0, Option.bind_some, decide_true, if_true]
end Go.Px
/-! Chapter 1: what stands between the tokens. -/
namespace Go.Px
set_option linter.unusedVariables false
set_option linter.unusedSimpArgs false
/-- are these bytes blanks and remarks? rem: is the first of them within a remark? -/
def remB (rem : Bool) (b : UInt8) : Bool := decide (b.toNat = 35) || (rem && decide (b.toNat ≠ 10))
def scan : Bool → List UInt8 → Bool
  | _, [] => true
  | rem, b :: r => (remB rem b || (decide (b.toNat = 32) || decide (b.toNat = 10))) && scan (remB rem b) r
theorem scan_cons (rem : Bool) (b : UInt8) (r : List UInt8) : scan rem (b :: r) = ((remB rem b || (decide (b.toNat = 32) || decide (b.toNat = 10))) && scan (remB rem b) r) := rfl
theorem nrun_stop (p : UInt8 → Bool) : ∀ (l : List UInt8) (c : UInt8), (l.drop (nrun p l)).head? = some c → p c = false
  | [], c, h => by simp at h
  | b :: l, c, h => by
    rw [nrun_cons] at h
    cases hb : p b with
    | true => rw [hb] at h; exact nrun_stop p l c (by simpa using h)
    | false => rw [hb] at h; simp at h; rw [← h]; exact hb
theorem scan_rem : ∀ (l r : List UInt8), (∀ c ∈ l, notNl c = true) → scan true (l ++ r) = scan true r
  | [], r, _ => rfl
  | c :: l, r, h => by
    have hc := h c (by simp)
    simp only [notNl, decide_eq_true_eq] at hc
    have : remB true c = true := by simp [remB, hc]
    rw [List.cons_append, scan_cons, this, scan_rem l r fun x hx => h x (by simp [hx])]
    rfl
def GapP (l : List UInt8) (i : Nat) (ts : List T_lex_Token) (rem : Bool) : Prop :=
    ∃ g, g ≤ l.length ∧ scan rem (l.take g) = true ∧ (ts = [] ∧ g = l.length ∨ ∃ k n v ts', ts = ⟨k, lit ((l.drop g).take n), v, ((i + g : Nat) : Int)⟩ :: ts' ∧ 1 ≤ n ∧ g + n ≤ l.length ∧ nxt (l.drop g) = .tok k n v ∧ lexT (i + g + n) (l.drop (g + n)) = .inr ts')
theorem gap_ok : ∀ (N : Nat) (l : List UInt8) (i : Nat) (ts : List T_lex_Token) (rem : Bool), l.length ≤ N → lexT i l = .inr ts → (rem = true → ∀ c, l.head? = some c → c.toNat = 10) → GapP l i ts rem
  | N, [], i, ts, rem, hN, h, hr => by
    rw [lexT_nil] at h; cases h
    exact ⟨0, by simp, rfl, .inl ⟨rfl, rfl⟩⟩
  | N + 1, c :: l, i, ts, rem, hN, h, hr => by
    have hne : c :: l ≠ [] := by simp
    have hp := nxt_pos hne
    have h' := h
    rw [lexT_cons _ hne] at h
    cases hx : nxt (c :: l) with
    | err e => rw [hx] at h; cases h
    | tok k n v =>
      rw [hx] at h hp
      simp only [NxOK] at hp
      simp only at h
      cases hq : lexT (i + n) ((c :: l).drop n) with
      | inl x => rw [hq] at h; cases h
      | inr us =>
        rw [hq] at h
        cases h
        refine ⟨0, by simp, rfl, .inr ⟨k, n, v, us, ?_, hp.1, by omega, hx, ?_⟩⟩
        · simp
        · rw [Nat.add_zero, Nat.zero_add]; exact hq
    | skip n =>
      rw [hx] at h hp
      simp only [NxOK] at hp
      simp only at h
      -- the rest
      have go : ∀ (rem' : Bool), (rem' = true → ∀ d, ((c :: l).drop n).head? = some d → d.toNat = 10) → (∀ r, scan rem ((c :: l).take n ++ r) = scan rem' r) → GapP (c :: l) i ts rem := fun rem' h1 h2 => by
        obtain ⟨g, hg, hs, ho⟩ := gap_ok N ((c :: l).drop n) (i + n) ts rem' (by rw [List.length_drop]; simp only [List.length_cons] at hN ⊢; omega) h h1
        rw [List.length_drop] at hg
        have ht : (c :: l).take (n + g) = (c :: l).take n ++ ((c :: l).drop n).take g := by rw [List.take_add]
        refine ⟨n + g, by omega, by rw [ht, h2]; exact hs, ?_⟩
        rcases ho with ⟨rfl, hg2⟩ | ⟨k, m, v, ts', e, hm, hgm, hn, hr⟩
        · left
          rw [List.length_drop] at hg2
          exact ⟨rfl, by omega⟩
        · right
          rw [List.length_drop] at hgm
          rw [List.drop_drop] at e hn hr
          refine ⟨k, m, v, ts', ?_, hm, by omega, hn, ?_⟩
          · rw [e, show i + n + g = i + (n + g) by omega]
          · rw [show i + (n + g) + m = i + n + g + m by omega, show n + g + m = n + (g + m) by omega]; exact hr
      unfold nxt at hx
      simp only at hx
      split at hx
      · rename_i hb
        obtain rfl : n = 1 := by cases hx; rfl
        refine go false (fun h => by cases h) fun r => ?_
        show scan rem (c :: r) = scan false r
        rw [scan_cons]
        rcases hb with hb | hb
        · have hrem : rem = false := by
            cases hrm : rem with
            | false => rfl
            | true => have := hr hrm c rfl; omega
          subst hrem
          have : remB false c = false := by simp [remB, hb]
          rw [this]; simp [hb]
        · have : remB rem c = false := by simp [remB, hb]
          rw [this]; simp [hb]
      · split at hx
        · rename_i hb hc
          obtain rfl : n = nrun notNl (c :: l) := by cases hx; rfl
          refine go true (fun _ d hd => ?_) fun r => ?_
          · have := nrun_stop notNl _ d hd
            simp only [notNl, decide_eq_false_iff_not] at this; omega
          · have hall := all_run notNl (c :: l)
            have : notNl c = true := by simp [notNl, hc]
            rw [nrun_cons, this]
            simp only [if_true, List.take_succ_cons, List.cons_append]
            rw [nrun_cons, this] at hall
            simp only [if_true, List.take_succ_cons] at hall
            have hrb : remB rem c = true := by simp [remB, hc]
            rw [scan_cons, hrb, scan_rem _ _ fun x hx => hall x (by simp [hx])]
            rfl
        · exfalso
          split at hx
          · unfold nxNum at hx; split at hx <;> cases hx
          · split at hx
            · unfold nxWord at hx; split at hx <;> cases hx
            · unfold nxSign at hx; split at hx <;> cases hx
theorem impB_ok : ∀ l : List UInt8, (impB CC 5 l : Option (List Int)) = some (l.map fun u => (u.toNat : Int))
  | [] => rfl
  | u :: l => by
    show ((some (u.toNat : Int)).bind fun q => (impB CC 5 l : Option (List Int)).bind fun qs => some (q :: qs)) = _
    rw [impB_ok l]
    rfl
theorem impB_bind {β : Type} (l : List UInt8) (K : List Int → Option β) : ((impB CC 5 l).bind fun (y : List Int) => K y) = K (l.map fun u => (u.toNat : Int)) := by
  show Option.bind (α := List Int) (impB CC 5 l) K = _
  rw [impB_ok]
  rfl
noncomputable abbrev cvA := l0_lychgatelaw01_LexCovers m_lex_Tokens m_lychgatelaw01_wakes
noncomputable abbrev cvB := l1_lychgatelaw01_LexCovers m_lex_Tokens m_lychgatelaw01_wakes
theorem cvA_ok (s : ByteArray) (a b : Int) (l : List UInt8) (hl : l.length ≤ 16384) (t : Sl T_lex_Token × Int × ByteArray × Int × Int) : ∀ (n j : Nat) (rem : Bool), l.length - j = n → j ≤ l.length →
    lpO cvA (s, rem, a, b, ⟨l.map fun u => (u.toNat : Int), true⟩, (Sl.mk (l.map fun u => (u.toNat : Int)) true).len, (j : Int), t) = some (if scan rem (l.drop j) then .inr (s, a, b, t) else .inl false)
  | 0, j, rem, hn, hj => by
    have : j = l.length := by omega
    subst this
    rw [lpO_eq]
    simp only [cvA, l0_lychgatelaw01_LexCovers, decide_eq_true_eq]
    rw [if_neg (by rw [len_nat]; simp)]
    simp [scan]
  | n + 1, j, rem, hn, hj => by
    have hlt : j < l.length := by omega
    obtain ⟨c, hc, hd⟩ := drop_cons hlt
    have hw := wrap_one (n := j) (by omega)
    rw [lpO_eq]
    simp only [cvA, l0_lychgatelaw01_LexCovers, decide_eq_true_eq, gidx_nat, List.getElem?_map]
    rw [if_pos (by rw [len_nat]; simp; omega), hc, hd]
    have e35 : ((c.toNat : Int) = 35) ↔ c.toNat = 35 := by omega
    have e32 : ((c.toNat : Int) = 32) ↔ c.toNat = 32 := by omega
    have e10 : ((c.toNat : Int) = 10) ↔ c.toNat = 10 := by omega
    simp only [Option.map_some, Option.bind_some, e35, e32, e10, ne_eq, hw]
    rw [scan_cons]
    have ih : ∀ r, lpO cvA (s, r, a, b, ⟨l.map fun u => (u.toNat : Int), true⟩, (Sl.mk (l.map fun u => (u.toNat : Int)) true).len, IntKind.i64.wrap ((j : Int) + 1), t) = some (if scan r (l.drop (j + 1)) then .inr (s, a, b, t) else .inl false) := fun r => by
      rw [hw]; exact cvA_ok s a b l hl t n (j + 1) r (by omega) (by omega)
    by_cases h35 : c.toNat = 35
    · have : remB rem c = true := by simp [remB, h35]
      rw [if_pos h35, this]
      simp only [Option.bind_some, Bool.not_true, Bool.false_eq_true, if_false, Bool.true_or, Bool.true_and]
      exact ih true
    · rw [if_neg h35]
      cases rem with
      | true =>
        simp only [if_true, Option.bind_some]
        by_cases h10 : c.toNat = 10
        · have : remB true c = false := by simp [remB, h10]
          rw [this]
          simp only [h10, not_true_eq_false, decide_false, Bool.not_false, if_true, Option.bind_some, Bool.false_eq_true, if_false, Bool.false_or]
          simp
          exact ih false
        · have : remB true c = true := by simp [remB, h10]
          rw [this]
          simp only [h10, not_false_eq_true, decide_true, Bool.not_true, Bool.false_eq_true, if_false, Option.bind_some, Bool.true_or, Bool.true_and]
          exact ih true
      | false =>
        have : remB false c = false := by simp [remB, h35]
        rw [this]
        simp only [Bool.false_eq_true, if_false, Option.bind_some, Bool.not_false, if_true, Bool.false_or]
        by_cases h32 : c.toNat = 32
        · simp only [e32, e10, h32, not_true_eq_false, if_false, Option.bind_some, Bool.false_eq_true, decide_true, Bool.true_or, Bool.true_and]
          exact ih false
        · by_cases h10 : c.toNat = 10
          · simp only [e32, e10, h32, h10, not_false_eq_true, not_true_eq_false, decide_false, if_true, if_false, Option.bind_some, Bool.false_eq_true, decide_true, Bool.or_true, Bool.true_and]
            exact ih false
          · simp only [e32, e10, h32, h10, not_false_eq_true, decide_true, decide_false, if_true, Option.bind_some, Bool.or_false, Bool.false_and, Bool.false_eq_true, if_false]
theorem cvB_ok {s : ByteArray} (hs : s.size ≤ 16384) (L : Sl T_lex_Token) (hL : L.xs.length ≤ 16385) : ∀ (ts : List T_lex_Token) (at_ i : Nat), at_ ≤ s.size → lexT at_ ((bs s).drop at_) = .inr ts → (∀ t ∈ ts, t.Kind_ ≠ 0) → L.xs.drop i = ts ++ [⟨0, lit [], 0, s.size⟩] → i + ts.length + 1 = L.xs.length →
    lpO cvB (s, (at_ : Int), L.len, (i : Int), L) = some (.inr (s, (s.size : Int))) := by
  -- one token
  have one : ∀ (t : T_lex_Token) (at_ i g n : Nat), (at_ + g + n ≤ s.size) → L.xs[i]? = some t → t.At_ = ((at_ + g : Nat) : Int) → bs t.Text_ = ((bs s).drop (at_ + g)).take n → ((bs s).drop (at_ + g)).length = s.size - (at_ + g) → (decide (t.Kind_ = 0) != decide (i + 1 = L.xs.length)) = false → i < L.xs.length → scan false (((bs s).drop at_).take g) = true →
      cvB (s, (at_ : Int), L.len, (i : Int), L) = some (.next (s, ((at_ + g + n : Nat) : Int), L.len, ((i + 1 : Nat) : Int), L)) := by
    intro t at_ i g n hle hi hA hT hdl hk hlt hsc
    have hlenT : t.Text_.size = n := by rw [← bs_len, hT, List.length_take]; omega
    have w1 : IntKind.i64.wrap (t.At_ + (t.Text_.size : Int)) = ((at_ + g + n : Nat) : Int) := by rw [hA, hlenT, wrap_add (by omega)]
    have w2 : IntKind.i64.wrap (L.len - 1) = L.len - 1 := by rw [len_nat, wrap_id (by omega) (by omega)]
    have c1 : gsslice s (t.At_) ((at_ + g + n : Nat) : Int) = some t.Text_ := by
      rw [hA, gsslice_nat (by omega) (by omega)]
      congr 1
      apply bs_ext
      rw [bs_extract, hT, List.take_drop]
    have c2 : gsslice s (at_ : Int) t.At_ = some (lit (((bs s).drop at_).take g)) := by
      rw [hA, gsslice_nat (by omega) (by omega)]
      congr 1
      apply bs_ext
      rw [bs_extract, bs_lit, List.take_drop]
    have hkind : (decide (t.Kind_ = 0) != decide ((i : Int) = L.len - 1)) = false := by
      rw [← hk]
      congr 1
      exact decide_eq_decide.2 (by rw [len_nat]; omega)
    have hgl : (((bs s).drop at_).take g).length ≤ 16384 := by rw [List.length_take, List.length_drop, bs_len]; omega
    have hin := cvA_ok s L.len (i : Int) (((bs s).drop at_).take g) hgl (L, t.Kind_, t.Text_, t.Num_, t.At_) _ 0 false rfl (by omega)
    rw [List.drop_zero, hsc] at hin
    simp only [cvB, l1_lychgatelaw01_LexCovers, decide_eq_true_eq, gidx_nat]
    rw [if_pos (by rw [len_nat]; omega), hi]
    simp only [Option.bind_some, w1, w2]
    rw [if_neg (by rw [hA]; omega), if_neg (by omega), c1]
    simp only [Option.bind_some, ne_eq, not_true_eq_false, if_false, hkind, Bool.false_eq_true]
    rw [c2]
    simp only [Option.bind_some]
    rw [bif_true (by rw [size_lit]; simp; omega)]
    rw [impB_bind]
    erw [hin]
    simp only [if_true, Option.bind_some, Sum.elim_inr, w1]
    rw [wrap_one (by omega)]
  intro ts
  induction ts with
  | nil =>
    intro at_ i hat hlex _ hdr hlen
    obtain ⟨g, hg, hsc, ho⟩ := gap_ok _ _ _ _ false (Nat.le_refl _) hlex (fun h => by cases h)
    have hgl : ((bs s).drop at_).length = s.size - at_ := by rw [List.length_drop, bs_len]
    rcases ho with ⟨_, hg2⟩ | ⟨k, n, v, ts', e, _⟩
    · have hi : L.xs[i]? = some ⟨0, lit [], 0, s.size⟩ := by
        have := congrArg (fun x => x[0]?) hdr
        simpa [List.getElem?_drop] using this
      have := one ⟨0, lit [], 0, s.size⟩ at_ i g 0 (by omega) hi (by simp only; omega) (by simp [bs_lit]) (by rw [List.length_drop, bs_len]) (by simp only [List.length_nil] at hlen; simp; omega) (by simp only [List.length_nil] at hlen; omega) hsc
      rw [lpO_eq, this]
      simp only [Option.bind_some]
      rw [lpO_eq]
      simp only [cvB, l1_lychgatelaw01_LexCovers, decide_eq_true_eq]
      simp only [List.length_nil] at hlen
      rw [if_neg (by rw [len_nat]; omega)]
      simp only [Option.bind_some]
      congr 3
      omega
    · cases e
  | cons t ts ih =>
    intro at_ i hat hlex hk hdr hlen
    obtain ⟨g, hg, hsc, ho⟩ := gap_ok _ _ _ _ false (Nat.le_refl _) hlex (fun h => by cases h)
    have hgl : ((bs s).drop at_).length = s.size - at_ := by rw [List.length_drop, bs_len]
    rcases ho with ⟨e, _⟩ | ⟨k, n, v, ts', e, hn, hgn, hnx, hr⟩
    · cases e
    · simp only [List.cons.injEq] at e
      obtain ⟨et, es⟩ := e
      subst es
      have hi : L.xs[i]? = some t := by
        have := congrArg (fun x => x[0]?) hdr
        simpa [List.getElem?_drop] using this
      rw [List.drop_drop] at et hr
      simp only [List.length_cons] at hlen
      have hstep := one t at_ i g n (by omega) hi (by rw [et]) (by rw [et]; rfl) (by rw [List.length_drop, bs_len]) (by
        have h0 := hk t (by simp)
        simp only [h0, decide_false, Bool.false_bne, decide_eq_false_iff_not]; omega) (by omega) hsc
      rw [lpO_eq, hstep]
      simp only [Option.bind_some]
      refine ih (at_ + g + n) (i + 1) (by omega) (by rw [← Nat.add_assoc] at hr; exact hr) (fun x hx => hk x (by simp [hx])) ?_ (by omega)
      rw [← List.drop_drop, hdr]
      rfl
theorem lexT_kind : ∀ (N : Nat) (l : List UInt8) (i : Nat) (ts : List T_lex_Token), l.length ≤ N → lexT i l = .inr ts → ∀ t ∈ ts, t.Kind_ ≠ 0
  | 0, l, i, ts, hN, h => by
    have : l = [] := List.eq_nil_of_length_eq_zero (by omega)
    subst this
    rw [lexT_nil] at h; cases h; simp
  | N + 1, l, i, ts, hN, h => by
    by_cases hne : l = []
    · subst hne
      rw [lexT_nil] at h; cases h; simp
    · have hp := nxt_pos hne
      rw [lexT_cons _ hne] at h
      cases hx : nxt l with
      | err e => rw [hx] at h; cases h
      | skip n =>
        rw [hx] at h hp
        simp only [NxOK] at hp
        exact lexT_kind N _ _ _ (by rw [List.length_drop]; omega) h
      | tok k n v =>
        rw [hx] at h hp
        simp only [NxOK] at hp
        simp only at h
        cases hr : lexT (i + n) (l.drop n) with
        | inl x => rw [hr] at h; cases h
        | inr us =>
          rw [hr] at h
          cases h
          intro t ht
          rcases List.mem_cons.1 ht with e | ht
          · subst e
            simp only
            match l, hne with
            | c :: l, _ =>
              unfold nxt at hx
              simp only at hx
              split at hx
              · cases hx
              · split at hx
                · cases hx
                · split at hx
                  · unfold nxNum at hx; split at hx <;> cases hx; decide
                  · split at hx
                    · unfold nxWord at hx
                      split at hx
                      · cases hx
                      · cases hx; split <;> decide
                    · unfold nxSign at hx; split at hx <;> cases hx; decide
          · exact lexT_kind N _ _ _ (by rw [List.length_drop]; omega) hr t ht
theorem lexCovers (s : ByteArray) : m_lychgatelaw01_LexCovers s = some true := by
  unfold m_lychgatelaw01_LexCovers m_lychgatelaw01_LexCovers'
  rw [tokens_ok, wakes_ok]
  simp only [Option.bind_some, Bool.not_true, Bool.false_eq_true, if_false]
  by_cases he : (lexR s).2.1 = 0
  · obtain ⟨hs, ts, h1, hR⟩ := lexR_err he
    have n1 := lexT_len _ _ _ _ (Nat.le_refl _) h1
    rw [bs_len] at n1
    have hB := cvB_ok hs ⟨ts ++ [⟨0, lit [], 0, s.size⟩], true⟩ (by simp; omega) ts 0 0 (by omega) (by rw [List.drop_zero]; exact h1) (lexT_kind _ _ _ _ (Nat.le_refl _) h1) rfl (by simp)
    rw [hR]
    simp only [ne_eq, not_true_eq_false, decide_false, Bool.false_eq_true, if_false]
    erw [hB]
    simp
  · have hx : (lexR s).2.2.len = 0 := by
      unfold lexR at he ⊢
      split
      · rfl
      · split
        · rfl
        · rename_i h _ ts e
          rw [if_neg h, e] at he
          exact absurd rfl he
    simp [he, hx]
end Go.Px
