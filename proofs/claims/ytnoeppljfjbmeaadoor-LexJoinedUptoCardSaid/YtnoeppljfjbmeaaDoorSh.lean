/- Part Sh: PxS01. -/
import Derived.Test.YtnoeppljfjbmeaaDoorCh
namespace Go.Px
open Go.Proofs
set_option linter.unusedVariables false
set_option maxRecDepth 100000
/-- lychgate/lex.Tokens$1 -/
noncomputable def m_lex_Tokens_1' (x : Int) : Option Bool :=
  some (decide (x ≠ 10))
noncomputable def m_lex_Tokens_1 : Int → Option Bool := m_lex_Tokens_1'
theorem e_lex_Tokens_1 : @Eq (Int → Option Bool) F0 m_lex_Tokens_1 := (by kernel_rfl : @Eq (Int → Option Bool) F0 (m_lex_Tokens_1'))
/-- lychgate/lex.run -/
noncomputable def l0_lex_run_Tokens1 (f0 : Int → Option Bool) : ByteArray × Int → Option (Step (ByteArray × Int) Int) :=
  fun (y0 : ByteArray × Int) =>
    (if decide (y0.snd < (↑(ByteArray.size y0.fst) : Int)) = true then
          (gsidx y0.fst y0.snd).bind fun (y1 : Int) =>
            (f0 y1).bind fun (y2 : Bool) => some (y0.fst, y0.snd, y2)
        else some (y0.fst, y0.snd, false)).bind
      fun (y3 : ByteArray × Int × Bool) =>
      if y3.snd.snd = true then some (Step.next (y3.fst, IntKind.i64.wrap (y3.snd.fst + 1)))
      else some (Step.done y3.snd.fst)
noncomputable def m_lex_run_Tokens1' (f0 : Int → Option Bool) (x : ByteArray × Int) : Option Int :=
  (lpO (l0_lex_run_Tokens1 f0) x).bind fun (y4 : Int) => some y4
noncomputable def m_lex_run_Tokens1 : (ByteArray × Int) → Option Int := m_lex_run_Tokens1' m_lex_Tokens_1
theorem e_lex_run_Tokens1 : @Eq ((ByteArray × Int) → Option Int) F1 m_lex_run_Tokens1 := (by kernel_rfl : @Eq ((ByteArray × Int) → Option Int) F1 (m_lex_run_Tokens1' F0)).trans (congrArg m_lex_run_Tokens1' e_lex_Tokens_1)
/-- lychgate/lex.digit -/
noncomputable def m_lex_digit' (x : Int) : Option Bool :=
  (if decide (48 ≤ x) = true then some (decide (x ≤ 57)) else some false).bind
    fun (y0 : Bool) => some y0
noncomputable def m_lex_digit : Int → Option Bool := m_lex_digit'
theorem e_lex_digit : @Eq (Int → Option Bool) F2 m_lex_digit := (by kernel_rfl : @Eq (Int → Option Bool) F2 (m_lex_digit'))
/-- lychgate/lex.run -/
noncomputable def l0_lex_run_digit (f2 : Int → Option Bool) : ByteArray × Int → Option (Step (ByteArray × Int) Int) :=
  fun (y0 : ByteArray × Int) =>
    (if decide (y0.snd < (↑(ByteArray.size y0.fst) : Int)) = true then
          (gsidx y0.fst y0.snd).bind fun (y1 : Int) =>
            (f2 y1).bind fun (y2 : Bool) => some (y0.fst, y0.snd, y2)
        else some (y0.fst, y0.snd, false)).bind
      fun (y3 : ByteArray × Int × Bool) =>
      if y3.snd.snd = true then some (Step.next (y3.fst, IntKind.i64.wrap (y3.snd.fst + 1)))
      else some (Step.done y3.snd.fst)
noncomputable def m_lex_run_digit' (f2 : Int → Option Bool) (x : ByteArray × Int) : Option Int :=
  (lpO (l0_lex_run_digit f2) x).bind fun (y4 : Int) => some y4
noncomputable def m_lex_run_digit : (ByteArray × Int) → Option Int := m_lex_run_digit' m_lex_digit
theorem e_lex_run_digit : @Eq ((ByteArray × Int) → Option Int) F3 m_lex_run_digit := (by kernel_rfl : @Eq ((ByteArray × Int) → Option Int) F3 (m_lex_run_digit' F2)).trans (congrArg m_lex_run_digit' e_lex_digit)
/-- strconv.ParseInt -/
noncomputable def m_strconv_ParseInt := libParseInt
theorem e_strconv_ParseInt : F4 = m_strconv_ParseInt := rfl
/-- lychgate/lex.letter -/
noncomputable def m_lex_letter' (x : Int) : Option Bool :=
  (if decide (97 ≤ x) = true then
        if decide (x ≤ 122) = true then some true else some (decide (x = 95))
      else some (decide (x = 95))).bind
    fun (y0 : Bool) => some y0
noncomputable def m_lex_letter : Int → Option Bool := m_lex_letter'
theorem e_lex_letter : @Eq (Int → Option Bool) F5 m_lex_letter := (by kernel_rfl : @Eq (Int → Option Bool) F5 (m_lex_letter'))
/-- lychgate/lex.number -/
noncomputable def m_lex_number' (f4 : ByteArray × Int × Int → Option (Int ⊕ Int)) (f5 : Int → Option Bool) (x : ByteArray × Int × Int) : Option (T_lex_Token × Int) :=
  (gsslice x.fst x.snd.fst x.snd.snd).bind fun (y0 : ByteArray) =>
    ((f4 (y0, 10, 64)).bind fun (y1 : Int ⊕ Int) =>
          Sum.elim (fun (y2 : Int) => some (Sum.inl (x.fst, x.snd.fst, x.snd.snd, y0, y2, 0, lit [], 0, 0)))
            (fun (y3 : Int) => some (Sum.inr (x.fst, x.snd.fst, x.snd.snd, y0, y3, 0, lit [], 0, 0)))
            y1).bind
      fun
        (y4 :
          ByteArray × Int × Int × ByteArray × Int × Int × ByteArray × Int × Int ⊕
            ByteArray × Int × Int × ByteArray × Int × Int × ByteArray × Int × Int) =>
      Sum.elim
        (fun (y5 : ByteArray × Int × Int × ByteArray × Int × Int × ByteArray × Int × Int) =>
          if decide (1099511627776 < y5.snd.snd.snd.snd.fst) = true then
            some (T_lex_Token.mk 0 (lit []) 0 0, 12)
          else
            if decide (1 < (↑(ByteArray.size y5.snd.snd.snd.fst) : Int)) = true then
              (gsidx y5.snd.snd.snd.fst 0).bind fun (y6 : Int) =>
                if decide (y6 = 48) = true then some (T_lex_Token.mk 0 (lit []) 0 0, 12)
                else
                  if decide (y5.snd.snd.fst < (↑(ByteArray.size y5.fst) : Int)) = true then
                    (gsidx y5.fst y5.snd.snd.fst).bind fun (y7 : Int) =>
                      (f5 y7).bind fun (y8 : Bool) =>
                        if y8 = true then some (T_lex_Token.mk 0 (lit []) 0 0, 12)
                        else some (T_lex_Token.mk 3 y5.snd.snd.snd.fst y5.snd.snd.snd.snd.fst y5.snd.fst, 0)
                  else some (T_lex_Token.mk 3 y5.snd.snd.snd.fst y5.snd.snd.snd.snd.fst y5.snd.fst, 0)
            else
              if decide (y5.snd.snd.fst < (↑(ByteArray.size y5.fst) : Int)) = true then
                (gsidx y5.fst y5.snd.snd.fst).bind fun (y9 : Int) =>
                  (f5 y9).bind fun (y10 : Bool) =>
                    if y10 = true then some (T_lex_Token.mk 0 (lit []) 0 0, 12)
                    else some (T_lex_Token.mk 3 y5.snd.snd.snd.fst y5.snd.snd.snd.snd.fst y5.snd.fst, 0)
              else some (T_lex_Token.mk 3 y5.snd.snd.snd.fst y5.snd.snd.snd.snd.fst y5.snd.fst, 0))
        (fun (y11 : ByteArray × Int × Int × ByteArray × Int × Int × ByteArray × Int × Int) =>
          some (T_lex_Token.mk 0 (lit []) 0 0, 12))
        y4
noncomputable def m_lex_number : (ByteArray × Int × Int) → Option (T_lex_Token × Int) := m_lex_number' m_strconv_ParseInt m_lex_letter
theorem e_lex_number : @Eq ((ByteArray × Int × Int) → Option (T_lex_Token × Int)) F6 m_lex_number := (by kernel_rfl : @Eq ((ByteArray × Int × Int) → Option (T_lex_Token × Int)) F6 (m_lex_number' F4 F5)).trans (congr (congrArg m_lex_number' e_strconv_ParseInt) e_lex_letter)
/-- lychgate/lex.within -/
noncomputable def m_lex_within' (f5 : Int → Option Bool) (f2 : Int → Option Bool) (x : Int) : Option Bool :=
  ((f5 x).bind fun (y0 : Bool) =>
        if y0 = true then some true else (f2 x).bind fun (y1 : Bool) => some y1).bind
    fun (y2 : Bool) => some y2
noncomputable def m_lex_within : Int → Option Bool := m_lex_within' m_lex_letter m_lex_digit
theorem e_lex_within : @Eq (Int → Option Bool) F7 m_lex_within := (by kernel_rfl : @Eq (Int → Option Bool) F7 (m_lex_within' F5 F2)).trans (congr (congrArg m_lex_within' e_lex_letter) e_lex_digit)
/-- lychgate/lex.run -/
noncomputable def l0_lex_run_within (f7 : Int → Option Bool) : ByteArray × Int → Option (Step (ByteArray × Int) Int) :=
  fun (y0 : ByteArray × Int) =>
    (if decide (y0.snd < (↑(ByteArray.size y0.fst) : Int)) = true then
          (gsidx y0.fst y0.snd).bind fun (y1 : Int) =>
            (f7 y1).bind fun (y2 : Bool) => some (y0.fst, y0.snd, y2)
        else some (y0.fst, y0.snd, false)).bind
      fun (y3 : ByteArray × Int × Bool) =>
      if y3.snd.snd = true then some (Step.next (y3.fst, IntKind.i64.wrap (y3.snd.fst + 1)))
      else some (Step.done y3.snd.fst)
noncomputable def m_lex_run_within' (f7 : Int → Option Bool) (x : ByteArray × Int) : Option Int :=
  (lpO (l0_lex_run_within f7) x).bind fun (y4 : Int) => some y4
noncomputable def m_lex_run_within : (ByteArray × Int) → Option Int := m_lex_run_within' m_lex_within
theorem e_lex_run_within : @Eq ((ByteArray × Int) → Option Int) F8 m_lex_run_within := (by kernel_rfl : @Eq ((ByteArray × Int) → Option Int) F8 (m_lex_run_within' F7)).trans (congrArg m_lex_run_within' e_lex_within)
/-- lychgate/lex.IsKey -/
noncomputable def m_lex_IsKey' (x : ByteArray) : Option Bool :=
  (if decide (x = lit [116, 121, 112, 101]) = true then
        some (decide (x = lit [116, 121, 112, 101]))
      else
        (if decide (x = lit [102, 110]) = true then
              some (decide (x = lit [102, 110]))
            else
              (if decide (x = lit [111, 119, 110]) = true then
                    some (decide (x = lit [111, 119, 110]))
                  else
                    (if decide (x = lit [99, 101, 108, 108]) = true then
                          some (decide (x = lit [99, 101, 108, 108]))
                        else
                          (if decide (x = lit [99, 111, 117, 110, 116, 101, 100]) = true then
                                some (decide (x = lit [99, 111, 117, 110, 116, 101, 100]))
                              else
                                (if decide (x = lit [108, 111, 99, 107]) = true then
                                      some (decide (x = lit [108, 111, 99, 107]))
                                    else
                                      (if decide (x = lit [103, 117, 97, 114, 100]) = true then
                                            some (decide (x = lit [103, 117, 97, 114, 100]))
                                          else
                                            (if
                                                    decide (x = lit [119, 104, 101, 114, 101]) =
                                                      true then
                                                  some (decide (x = lit [119, 104, 101, 114, 101]))
                                                else
                                                  (if decide (x = lit [105, 110, 116]) = true then
                                                        some (decide (x = lit [105, 110, 116]))
                                                      else
                                                        (if
                                                                decide (x = lit [109, 117, 116]) =
                                                                  true then
                                                              some
                                                                (decide (x = lit [109, 117, 116]))
                                                            else
                                                              (if
                                                                      decide
                                                                          (x = lit [102, 114, 101, 101]) =
                                                                        true then
                                                                    some
                                                                      (decide
                                                                        (x = lit [102, 114, 101, 101]))
                                                                  else
                                                                    (if
                                                                            decide
                                                                                (x =
                                                                                  lit
                                                                                    [117, 110, 108, 111, 99, 107]) =
                                                                              true then
                                                                          some
                                                                            (decide
                                                                              (x =
                                                                                lit [117, 110, 108, 111, 99, 107]))
                                                                        else
                                                                          (if
                                                                                  decide
                                                                                      (x = lit [105, 102]) =
                                                                                    true then
                                                                                some
                                                                                  (decide
                                                                                    (x = lit [105, 102]))
                                                                              else
                                                                                (if
                                                                                        decide
                                                                                            (x =
                                                                                              lit
                                                                                                [101, 108, 115, 101]) =
                                                                                          true then
                                                                                      some
                                                                                        (decide
                                                                                          (x =
                                                                                            lit
                                                                                              [101, 108, 115, 101]))
                                                                                    else
                                                                                      (if
                                                                                              decide
                                                                                                  (x =
                                                                                                    lit
                                                                                                      [119, 104, 105, 108,
                                                                                                        101]) =
                                                                                                true then
                                                                                            some
                                                                                              (decide
                                                                                                (x =
                                                                                                  lit
                                                                                                    [119, 104, 105, 108,
                                                                                                      101]))
                                                                                          else
                                                                                            (if
                                                                                                    decide
                                                                                                        (x =
                                                                                                          lit
                                                                                                            [114, 101,
                                                                                                              116, 117,
                                                                                                              114, 110]) =
                                                                                                      true then
                                                                                                  some
                                                                                                    (decide
                                                                                                      (x =
                                                                                                        lit
                                                                                                          [114, 101, 116,
                                                                                                            117, 114,
                                                                                                            110]))
                                                                                                else
                                                                                                  (if
                                                                                                          decide
                                                                                                              (x =
                                                                                                                lit
                                                                                                                  [97, 98,
                                                                                                                    111,
                                                                                                                    114,
                                                                                                                    116]) =
                                                                                                            true then
                                                                                                        some
                                                                                                          (decide
                                                                                                            (x =
                                                                                                              lit
                                                                                                                [97, 98,
                                                                                                                  111,
                                                                                                                  114,
                                                                                                                  116]))
                                                                                                      else
                                                                                                        (if
                                                                                                                decide
                                                                                                                    (x =
                                                                                                                      lit
                                                                                                                        [102,
                                                                                                                          111,
                                                                                                                          114,
                                                                                                                          107]) =
                                                                                                                  true then
                                                                                                              some
                                                                                                                (decide
                                                                                                                  (x =
                                                                                                                    lit
                                                                                                                      [102,
                                                                                                                        111,
                                                                                                                        114,
                                                                                                                        107]))
                                                                                                            else
                                                                                                              (if
                                                                                                                      decide
                                                                                                                          (x =
                                                                                                                            lit
                                                                                                                              [110,
                                                                                                                                101,
                                                                                                                                119]) =
                                                                                                                        true then
                                                                                                                    some
                                                                                                                      (decide
                                                                                                                        (x =
                                                                                                                          lit
                                                                                                                            [110,
                                                                                                                              101,
                                                                                                                              119]))
                                                                                                                  else
                                                                                                                    some
                                                                                                                      (decide
                                                                                                                        (x =
                                                                                                                          lit
                                                                                                                            [97,
                                                                                                                              114,
                                                                                                                              114,
                                                                                                                              97,
                                                                                                                              121]))).bind
                                                                                                                fun
                                                                                                                  (y0 :
                                                                                                                    Bool) =>
                                                                                                                some
                                                                                                                  y0).bind
                                                                                                          fun
                                                                                                            (y1 : Bool) =>
                                                                                                          some
                                                                                                            y1).bind
                                                                                                    fun (y2 : Bool) =>
                                                                                                    some y2).bind
                                                                                              fun (y3 : Bool) =>
                                                                                              some y3).bind
                                                                                        fun (y4 : Bool) =>
                                                                                        some y4).bind
                                                                                  fun (y5 : Bool) => some y5).bind
                                                                            fun (y6 : Bool) => some y6).bind
                                                                      fun (y7 : Bool) => some y7).bind
                                                                fun (y8 : Bool) => some y8).bind
                                                          fun (y9 : Bool) => some y9).bind
                                                    fun (y10 : Bool) => some y10).bind
                                              fun (y11 : Bool) => some y11).bind
                                        fun (y12 : Bool) => some y12).bind
                                  fun (y13 : Bool) => some y13).bind
                            fun (y14 : Bool) => some y14).bind
                      fun (y15 : Bool) => some y15).bind
                fun (y16 : Bool) => some y16).bind
          fun (y17 : Bool) => some y17).bind
    fun (y18 : Bool) => if y18 = true then some true else some false
noncomputable def m_lex_IsKey : ByteArray → Option Bool := m_lex_IsKey'
theorem e_lex_IsKey : @Eq (ByteArray → Option Bool) F9 m_lex_IsKey := (by kernel_rfl : @Eq (ByteArray → Option Bool) F9 (m_lex_IsKey'))
/-- lychgate/lex.word -/
noncomputable def m_lex_word' (f9 : ByteArray → Option Bool) (x : ByteArray × Int × Int) : Option (T_lex_Token × Int) :=
  (gsslice x.fst x.snd.fst x.snd.snd).bind fun (y0 : ByteArray) =>
    if decide (16 < (↑y0.size : Int)) = true then
      some (T_lex_Token.mk 0 (lit []) 0 0, 13)
    else
      (f9 y0).bind fun (y1 : Bool) =>
        (if y1 = true then some ((0, lit [], 0, 0), 2, y0, 0, x.snd.fst)
            else some ((0, lit [], 0, 0), 1, y0, 0, x.snd.fst)).bind
          fun (y2 : (Int × ByteArray × Int × Int) × Int × ByteArray × Int × Int) =>
          some (T_lex_Token.mk y2.snd.fst y2.snd.snd.fst y2.snd.snd.snd.fst y2.snd.snd.snd.snd, 0)
noncomputable def m_lex_word : (ByteArray × Int × Int) → Option (T_lex_Token × Int) := m_lex_word' m_lex_IsKey
theorem e_lex_word : @Eq ((ByteArray × Int × Int) → Option (T_lex_Token × Int)) F10 m_lex_word := (by kernel_rfl : @Eq ((ByteArray × Int × Int) → Option (T_lex_Token × Int)) F10 (m_lex_word' F9)).trans (congrArg m_lex_word' e_lex_IsKey)
/-- internal/stringslite.HasPrefix -/
noncomputable def m_internal_stringslite_HasPrefix' (x : ByteArray × ByteArray) : Option Bool :=
  (if decide ((↑(ByteArray.size x.snd) : Int) ≤ (↑(ByteArray.size x.fst) : Int)) = true then
        (gsslice x.fst 0 (↑(ByteArray.size x.snd) : Int)).bind fun (y0 : ByteArray) =>
          some (decide (y0 = x.snd))
      else some false).bind
    fun (y1 : Bool) => some y1
noncomputable def m_internal_stringslite_HasPrefix : (ByteArray × ByteArray) → Option Bool := m_internal_stringslite_HasPrefix'
theorem e_internal_stringslite_HasPrefix : @Eq ((ByteArray × ByteArray) → Option Bool) F11 m_internal_stringslite_HasPrefix := (by kernel_rfl : @Eq ((ByteArray × ByteArray) → Option Bool) F11 (m_internal_stringslite_HasPrefix'))
/-- strings.HasPrefix -/
noncomputable def m_strings_HasPrefix' (f11 : ByteArray × ByteArray → Option Bool) (x : ByteArray × ByteArray) : Option Bool :=
  (f11 x).bind fun (y0 : Bool) => some y0
noncomputable def m_strings_HasPrefix : (ByteArray × ByteArray) → Option Bool := m_strings_HasPrefix' m_internal_stringslite_HasPrefix
theorem e_strings_HasPrefix : @Eq ((ByteArray × ByteArray) → Option Bool) F12 m_strings_HasPrefix := (by kernel_rfl : @Eq ((ByteArray × ByteArray) → Option Bool) F12 (m_strings_HasPrefix' F11)).trans (congrArg m_strings_HasPrefix' e_internal_stringslite_HasPrefix)
/-- strings.IndexByte -/
noncomputable def m_strings_IndexByte := libIndexByte
theorem e_strings_IndexByte : F13 = m_strings_IndexByte := rfl
/-- lychgate/lex.sign -/
noncomputable def l0_lex_sign (f12 : ByteArray × ByteArray → Option Bool) (f13 : ByteArray × Int → Option Int) : ByteArray × (ByteArray × ByteArray × ByteArray) × Int → Option (Step (ByteArray × (ByteArray × ByteArray × ByteArray) × Int) (ByteArray ⊕ ByteArray)) :=
  fun (y0 : ByteArray × (ByteArray × ByteArray × ByteArray) × Int) =>
    if decide (y0.snd.snd < 3) = true then
      (gnth [y0.snd.fst.fst, y0.snd.fst.snd.fst, y0.snd.fst.snd.snd] y0.snd.snd).bind fun (y1 : ByteArray) =>
        (f12 (y0.fst, y1)).bind fun (y2 : Bool) =>
          if y2 = true then some (Step.done (Sum.inl y1))
          else some (Step.next (y0.fst, y0.snd.fst, IntKind.i64.wrap (y0.snd.snd + 1)))
    else some (Step.done (Sum.inr y0.fst))
noncomputable def m_lex_sign' (f12 : ByteArray × ByteArray → Option Bool) (f13 : ByteArray × Int → Option Int) (x : ByteArray) : Option ByteArray :=
  (lpO (l0_lex_sign f12 f13) (x, (lit [45, 62], lit [60, 61], lit [61, 61]), 0)).bind
    fun (y3 : ByteArray ⊕ ByteArray) =>
    Sum.elim (fun (y4 : ByteArray) => some y4)
      (fun (y5 : ByteArray) =>
        (gsidx y5 0).bind fun (y6 : Int) =>
          (f13 (lit [123, 125, 40, 41, 91, 93, 44, 58, 59, 61, 43, 45, 38, 60], y6)).bind fun (y7 : Int) =>
            if decide (0 ≤ y7) = true then
              (gsslice y5 0 1).bind fun (y8 : ByteArray) => some y8
            else some (lit []))
      y3
noncomputable def m_lex_sign : ByteArray → Option ByteArray := m_lex_sign' m_strings_HasPrefix m_strings_IndexByte
theorem e_lex_sign : @Eq (ByteArray → Option ByteArray) F14 m_lex_sign := (by kernel_rfl : @Eq (ByteArray → Option ByteArray) F14 (m_lex_sign' F12 F13)).trans (congr (congrArg m_lex_sign' e_strings_HasPrefix) e_strings_IndexByte)
/-- lychgate/lex.Tokens -/
noncomputable def l0_lex_Tokens (f1 : ByteArray × Int → Option Int) (f2 : Int → Option Bool) (f3 : ByteArray × Int → Option Int) (f6 : ByteArray × Int × Int → Option (T_lex_Token × Int)) (f5 : Int → Option Bool) (f8 : ByteArray × Int → Option Int) (f10 : ByteArray × Int × Int → Option (T_lex_Token × Int)) (f14 : ByteArray → Option ByteArray) : ByteArray × Int × Sl T_lex_Token → Option (Step (ByteArray × Int × Sl T_lex_Token) (Int × Int ⊕ ByteArray × Sl T_lex_Token)) :=
  fun (y0 : ByteArray × Int × Sl T_lex_Token) =>
    if decide (y0.snd.fst < (↑(ByteArray.size y0.fst) : Int)) = true then
      ((gsidx y0.fst y0.snd.fst).bind fun (y1 : Int) =>
            (if decide (y1 = 32) = true then
                  some (y0.fst, y0.snd.fst, 0, y1, true, y0.snd.snd, 0, lit [], 0, 0)
                else
                  some
                    (y0.fst, y0.snd.fst, 0, y1, decide (y1 = 10), y0.snd.snd, 0, lit [], 0, 0)).bind
              fun (y2 : ByteArray × Int × Int × Int × Bool × Sl T_lex_Token × Int × ByteArray × Int × Int) =>
              (if y2.snd.snd.snd.snd.fst = true then
                    some (Sum.inl (y2.fst, IntKind.i64.wrap (y2.snd.fst + 1), y2.snd.snd.snd.snd.snd.fst))
                  else
                    if decide (y2.snd.snd.snd.fst = 35) = true then
                      (f1 (y2.fst, y2.snd.fst)).bind fun (y3 : Int) =>
                        some (Sum.inl (y2.fst, y3, y2.snd.snd.snd.snd.snd.fst))
                    else
                      (f2 y2.snd.snd.snd.fst).bind fun (y4 : Bool) =>
                        (if y4 = true then
                              (f3 (y2.fst, y2.snd.fst)).bind fun (y5 : Int) =>
                                (f6 (y2.fst, y2.snd.fst, y5)).bind fun (y6 : T_lex_Token × Int) =>
                                  some
                                    (y2.fst, y2.snd.fst, y6.snd, y2.snd.snd.snd.snd.snd.fst, y6.fst.Kind_, y6.fst.Text_,
                                      y6.fst.Num_, y6.fst.At_)
                            else
                              (f5 y2.snd.snd.snd.fst).bind fun (y7 : Bool) =>
                                (if y7 = true then
                                      (f8 (y2.fst, y2.snd.fst)).bind fun (y8 : Int) =>
                                        (f10 (y2.fst, y2.snd.fst, y8)).bind fun (y9 : T_lex_Token × Int) =>
                                          some
                                            (y2.fst, y2.snd.fst, y9.snd, y2.snd.snd.snd.snd.snd.fst, y9.fst.Kind_,
                                              y9.fst.Text_, y9.fst.Num_, y9.fst.At_)
                                    else
                                      (gsslice y2.fst y2.snd.fst (↑(ByteArray.size y2.fst) : Int)).bind
                                        fun (y10 : ByteArray) =>
                                        (f14 y10).bind fun (y11 : ByteArray) =>
                                          (if decide (y11 = lit []) = true then
                                                some
                                                  (y2.fst, y2.snd.fst, 11, y2.snd.snd.snd.snd.snd.fst, 4, y11, 0,
                                                    y2.snd.fst)
                                              else
                                                some
                                                  (y2.fst, y2.snd.fst, y2.snd.snd.fst, y2.snd.snd.snd.snd.snd.fst, 4, y11,
                                                    0, y2.snd.fst)).bind
                                            fun
                                              (y12 :
                                                ByteArray ×
                                                  Int × Int × Sl T_lex_Token × Int × ByteArray × Int × Int) =>
                                            some y12).bind
                                  fun
                                    (y13 :
                                      ByteArray × Int × Int × Sl T_lex_Token × Int × ByteArray × Int × Int) =>
                                  some y13).bind
                          fun (y14 : ByteArray × Int × Int × Sl T_lex_Token × Int × ByteArray × Int × Int) =>
                          some (Sum.inr y14)).bind
                fun
                  (y15 :
                    ByteArray × Int × Sl T_lex_Token ⊕
                      ByteArray × Int × Int × Sl T_lex_Token × Int × ByteArray × Int × Int) =>
                Sum.elim (fun (y16 : ByteArray × Int × Sl T_lex_Token) => some (Sum.inl y16))
                  (fun (y17 : ByteArray × Int × Int × Sl T_lex_Token × Int × ByteArray × Int × Int) =>
                    if decide (y17.snd.snd.fst ≠ 0) = true then
                      some (Sum.inr (y17.snd.fst, y17.snd.snd.fst))
                    else
                      (gapp 40 y17.snd.snd.snd.fst
                            [T_lex_Token.mk y17.snd.snd.snd.snd.fst y17.snd.snd.snd.snd.snd.fst
                                y17.snd.snd.snd.snd.snd.snd.fst y17.snd.snd.snd.snd.snd.snd.snd]).bind
                        fun (y18 : Sl T_lex_Token) =>
                        some
                          (Sum.inl
                            (y17.fst,
                              IntKind.i64.wrap (y17.snd.fst + (↑(ByteArray.size y17.snd.snd.snd.snd.snd.fst) : Int)),
                              y18)))
                  y15).bind
        fun (y19 : ByteArray × Int × Sl T_lex_Token ⊕ Int × Int) =>
        Sum.elim (fun (y20 : ByteArray × Int × Sl T_lex_Token) => some (Step.next y20))
          (fun (y21 : Int × Int) => some (Step.done (Sum.inl y21))) y19
    else some (Step.done (Sum.inr (y0.fst, y0.snd.snd)))
noncomputable def m_lex_Tokens' (f1 : ByteArray × Int → Option Int) (f2 : Int → Option Bool) (f3 : ByteArray × Int → Option Int) (f6 : ByteArray × Int × Int → Option (T_lex_Token × Int)) (f5 : Int → Option Bool) (f8 : ByteArray × Int → Option Int) (f10 : ByteArray × Int × Int → Option (T_lex_Token × Int)) (f14 : ByteArray → Option ByteArray) (x : ByteArray) : Option (Int × Int × Sl T_lex_Token) :=
  (if decide (16384 < (↑x.size : Int)) = true then some (0, 10, Sl.mk [] false)
      else
        (lpO (l0_lex_Tokens f1 f2 f3 f6 f5 f8 f10 f14) (x, 0, Sl.mk [] false)).bind
          fun (y22 : Int × Int ⊕ ByteArray × Sl T_lex_Token) =>
          Sum.elim (fun (y23 : Int × Int) => some (y23.fst, y23.snd, Sl.mk [] false))
            (fun (y24 : ByteArray × Sl T_lex_Token) =>
              (gapp 40 y24.snd [T_lex_Token.mk 0 (lit []) 0 (↑(ByteArray.size y24.fst) : Int)]).bind
                fun (y25 : Sl T_lex_Token) => some (0, 0, y25))
            y22).bind
    fun (y26 : Int × Int × Sl T_lex_Token) => some y26
noncomputable def m_lex_Tokens : ByteArray → Option (Int × Int × Sl T_lex_Token) := m_lex_Tokens' m_lex_run_Tokens1 m_lex_digit m_lex_run_digit m_lex_number m_lex_letter m_lex_run_within m_lex_word m_lex_sign
theorem e_lex_Tokens : @Eq (ByteArray → Option (Int × Int × Sl T_lex_Token)) F15 m_lex_Tokens := (by kernel_rfl : @Eq (ByteArray → Option (Int × Int × Sl T_lex_Token)) F15 (m_lex_Tokens' F1 F2 F3 F6 F5 F8 F10 F14)).trans (congr (congr (congr (congr (congr (congr (congr (congrArg m_lex_Tokens' e_lex_run_Tokens1) e_lex_digit) e_lex_run_digit) e_lex_number) e_lex_letter) e_lex_run_within) e_lex_word) e_lex_sign)
/-- lychgate/lychgateref01.letter -/
noncomputable def m_lychgateref01_letter' (x : Int) : Option Bool :=
  (if decide (97 ≤ x) = true then
        if decide (x ≤ 122) = true then some true else some (decide (x = 95))
      else some (decide (x = 95))).bind
    fun (y0 : Bool) => some y0
noncomputable def m_lychgateref01_letter : Int → Option Bool := m_lychgateref01_letter'
theorem e_lychgateref01_letter : @Eq (Int → Option Bool) F16 m_lychgateref01_letter := (by kernel_rfl : @Eq (Int → Option Bool) F16 (m_lychgateref01_letter'))
/-- lychgate/lychgateref01.digit -/
noncomputable def m_lychgateref01_digit' (x : Int) : Option Bool :=
  (if decide (48 ≤ x) = true then some (decide (x ≤ 57)) else some false).bind
    fun (y0 : Bool) => some y0
noncomputable def m_lychgateref01_digit : Int → Option Bool := m_lychgateref01_digit'
theorem e_lychgateref01_digit : @Eq (Int → Option Bool) F17 m_lychgateref01_digit := (by kernel_rfl : @Eq (Int → Option Bool) F17 (m_lychgateref01_digit'))
/-- lychgate/lychgateref01.IsKey -/
noncomputable def m_lychgateref01_IsKey' (x : ByteArray) : Option Bool :=
  (if decide (x = lit [116, 121, 112, 101]) = true then
        some (decide (x = lit [116, 121, 112, 101]))
      else
        (if decide (x = lit [102, 110]) = true then
              some (decide (x = lit [102, 110]))
            else
              (if decide (x = lit [111, 119, 110]) = true then
                    some (decide (x = lit [111, 119, 110]))
                  else
                    (if decide (x = lit [99, 101, 108, 108]) = true then
                          some (decide (x = lit [99, 101, 108, 108]))
                        else
                          (if decide (x = lit [99, 111, 117, 110, 116, 101, 100]) = true then
                                some (decide (x = lit [99, 111, 117, 110, 116, 101, 100]))
                              else
                                (if decide (x = lit [108, 111, 99, 107]) = true then
                                      some (decide (x = lit [108, 111, 99, 107]))
                                    else
                                      (if decide (x = lit [103, 117, 97, 114, 100]) = true then
                                            some (decide (x = lit [103, 117, 97, 114, 100]))
                                          else
                                            (if
                                                    decide (x = lit [119, 104, 101, 114, 101]) =
                                                      true then
                                                  some (decide (x = lit [119, 104, 101, 114, 101]))
                                                else
                                                  (if decide (x = lit [105, 110, 116]) = true then
                                                        some (decide (x = lit [105, 110, 116]))
                                                      else
                                                        (if
                                                                decide (x = lit [109, 117, 116]) =
                                                                  true then
                                                              some
                                                                (decide (x = lit [109, 117, 116]))
                                                            else
                                                              (if
                                                                      decide
                                                                          (x = lit [102, 114, 101, 101]) =
                                                                        true then
                                                                    some
                                                                      (decide
                                                                        (x = lit [102, 114, 101, 101]))
                                                                  else
                                                                    (if
                                                                            decide
                                                                                (x =
                                                                                  lit
                                                                                    [117, 110, 108, 111, 99, 107]) =
                                                                              true then
                                                                          some
                                                                            (decide
                                                                              (x =
                                                                                lit [117, 110, 108, 111, 99, 107]))
                                                                        else
                                                                          (if
                                                                                  decide
                                                                                      (x = lit [105, 102]) =
                                                                                    true then
                                                                                some
                                                                                  (decide
                                                                                    (x = lit [105, 102]))
                                                                              else
                                                                                (if
                                                                                        decide
                                                                                            (x =
                                                                                              lit
                                                                                                [101, 108, 115, 101]) =
                                                                                          true then
                                                                                      some
                                                                                        (decide
                                                                                          (x =
                                                                                            lit
                                                                                              [101, 108, 115, 101]))
                                                                                    else
                                                                                      (if
                                                                                              decide
                                                                                                  (x =
                                                                                                    lit
                                                                                                      [119, 104, 105, 108,
                                                                                                        101]) =
                                                                                                true then
                                                                                            some
                                                                                              (decide
                                                                                                (x =
                                                                                                  lit
                                                                                                    [119, 104, 105, 108,
                                                                                                      101]))
                                                                                          else
                                                                                            (if
                                                                                                    decide
                                                                                                        (x =
                                                                                                          lit
                                                                                                            [114, 101,
                                                                                                              116, 117,
                                                                                                              114, 110]) =
                                                                                                      true then
                                                                                                  some
                                                                                                    (decide
                                                                                                      (x =
                                                                                                        lit
                                                                                                          [114, 101, 116,
                                                                                                            117, 114,
                                                                                                            110]))
                                                                                                else
                                                                                                  (if
                                                                                                          decide
                                                                                                              (x =
                                                                                                                lit
                                                                                                                  [97, 98,
                                                                                                                    111,
                                                                                                                    114,
                                                                                                                    116]) =
                                                                                                            true then
                                                                                                        some
                                                                                                          (decide
                                                                                                            (x =
                                                                                                              lit
                                                                                                                [97, 98,
                                                                                                                  111,
                                                                                                                  114,
                                                                                                                  116]))
                                                                                                      else
                                                                                                        (if
                                                                                                                decide
                                                                                                                    (x =
                                                                                                                      lit
                                                                                                                        [102,
                                                                                                                          111,
                                                                                                                          114,
                                                                                                                          107]) =
                                                                                                                  true then
                                                                                                              some
                                                                                                                (decide
                                                                                                                  (x =
                                                                                                                    lit
                                                                                                                      [102,
                                                                                                                        111,
                                                                                                                        114,
                                                                                                                        107]))
                                                                                                            else
                                                                                                              (if
                                                                                                                      decide
                                                                                                                          (x =
                                                                                                                            lit
                                                                                                                              [110,
                                                                                                                                101,
                                                                                                                                119]) =
                                                                                                                        true then
                                                                                                                    some
                                                                                                                      (decide
                                                                                                                        (x =
                                                                                                                          lit
                                                                                                                            [110,
                                                                                                                              101,
                                                                                                                              119]))
                                                                                                                  else
                                                                                                                    some
                                                                                                                      (decide
                                                                                                                        (x =
                                                                                                                          lit
                                                                                                                            [97,
                                                                                                                              114,
                                                                                                                              114,
                                                                                                                              97,
                                                                                                                              121]))).bind
                                                                                                                fun
                                                                                                                  (y0 :
                                                                                                                    Bool) =>
                                                                                                                some
                                                                                                                  y0).bind
                                                                                                          fun
                                                                                                            (y1 : Bool) =>
                                                                                                          some
                                                                                                            y1).bind
                                                                                                    fun (y2 : Bool) =>
                                                                                                    some y2).bind
                                                                                              fun (y3 : Bool) =>
                                                                                              some y3).bind
                                                                                        fun (y4 : Bool) =>
                                                                                        some y4).bind
                                                                                  fun (y5 : Bool) => some y5).bind
                                                                            fun (y6 : Bool) => some y6).bind
                                                                      fun (y7 : Bool) => some y7).bind
                                                                fun (y8 : Bool) => some y8).bind
                                                          fun (y9 : Bool) => some y9).bind
                                                    fun (y10 : Bool) => some y10).bind
                                              fun (y11 : Bool) => some y11).bind
                                        fun (y12 : Bool) => some y12).bind
                                  fun (y13 : Bool) => some y13).bind
                            fun (y14 : Bool) => some y14).bind
                      fun (y15 : Bool) => some y15).bind
                fun (y16 : Bool) => some y16).bind
          fun (y17 : Bool) => some y17).bind
    fun (y18 : Bool) => if y18 = true then some true else some false
noncomputable def m_lychgateref01_IsKey : ByteArray → Option Bool := m_lychgateref01_IsKey'
theorem e_lychgateref01_IsKey : @Eq (ByteArray → Option Bool) F18 m_lychgateref01_IsKey := (by kernel_rfl : @Eq (ByteArray → Option Bool) F18 (m_lychgateref01_IsKey'))
/-- lychgate/lychgateref01.sign -/
noncomputable def m_lychgateref01_sign' (x : ByteArray × Int) : Option Int :=
  (if decide (IntKind.i64.wrap (x.snd + 1) < (↑(ByteArray.size x.fst) : Int)) = true then
        (gsslice x.fst x.snd (IntKind.i64.wrap (x.snd + 2))).bind fun (y0 : ByteArray) =>
          some (x.fst, x.snd, y0)
      else some (x.fst, x.snd, lit [])).bind
    fun (y1 : ByteArray × Int × ByteArray) =>
    (if decide (y1.snd.snd = lit [45, 62]) = true then some (y1.fst, y1.snd.fst, true)
        else
          if decide (y1.snd.snd = lit [60, 61]) = true then
            some (y1.fst, y1.snd.fst, true)
          else some (y1.fst, y1.snd.fst, decide (y1.snd.snd = lit [61, 61]))).bind
      fun (y2 : ByteArray × Int × Bool) =>
      if y2.snd.snd = true then some 2
      else
        (gsidx y2.fst y2.snd.fst).bind fun (y3 : Int) =>
          (if decide (y3 = 123) = true then some (decide (y3 = 123))
              else
                (if decide (y3 = 125) = true then some (decide (y3 = 125))
                    else
                      (if decide (y3 = 40) = true then some (decide (y3 = 40))
                          else
                            (if decide (y3 = 41) = true then some (decide (y3 = 41))
                                else
                                  (if decide (y3 = 91) = true then some (decide (y3 = 91))
                                      else
                                        (if decide (y3 = 93) = true then
                                              some (decide (y3 = 93))
                                            else
                                              (if decide (y3 = 44) = true then
                                                    some (decide (y3 = 44))
                                                  else
                                                    (if decide (y3 = 58) = true then
                                                          some (decide (y3 = 58))
                                                        else
                                                          (if decide (y3 = 59) = true then
                                                                some (decide (y3 = 59))
                                                              else
                                                                (if decide (y3 = 61) = true then
                                                                      some (decide (y3 = 61))
                                                                    else
                                                                      (if decide (y3 = 43) = true then
                                                                            some (decide (y3 = 43))
                                                                          else
                                                                            (if
                                                                                    decide (y3 = 45) =
                                                                                      true then
                                                                                  some (decide (y3 = 45))
                                                                                else
                                                                                  (if
                                                                                          decide (y3 = 38) =
                                                                                            true then
                                                                                        some
                                                                                          (decide (y3 = 38))
                                                                                      else
                                                                                        some
                                                                                          (decide
                                                                                            (y3 = 60))).bind
                                                                                    fun (y4 : Bool) =>
                                                                                    some y4).bind
                                                                              fun (y5 : Bool) => some y5).bind
                                                                        fun (y6 : Bool) => some y6).bind
                                                                  fun (y7 : Bool) => some y7).bind
                                                            fun (y8 : Bool) => some y8).bind
                                                      fun (y9 : Bool) => some y9).bind
                                                fun (y10 : Bool) => some y10).bind
                                          fun (y11 : Bool) => some y11).bind
                                    fun (y12 : Bool) => some y12).bind
                              fun (y13 : Bool) => some y13).bind
                        fun (y14 : Bool) => some y14).bind
                  fun (y15 : Bool) => some y15).bind
            fun (y16 : Bool) => if y16 = true then some 1 else some 0
noncomputable def m_lychgateref01_sign : (ByteArray × Int) → Option Int := m_lychgateref01_sign'
theorem e_lychgateref01_sign : @Eq ((ByteArray × Int) → Option Int) F19 m_lychgateref01_sign := (by kernel_rfl : @Eq ((ByteArray × Int) → Option Int) F19 (m_lychgateref01_sign'))
/-- lychgate/lychgateref01.one -/
noncomputable def l0_lychgateref01_one (f16 : Int → Option Bool) (f17 : Int → Option Bool) (f18 : ByteArray → Option Bool) (f19 : ByteArray × Int → Option Int) : ByteArray × Int × Int × (Int × ByteArray × Int × Int) × Int × ByteArray × Int × Int → Option (Step (ByteArray × Int × Int × (Int × ByteArray × Int × Int) × Int × ByteArray × Int × Int) (ByteArray × Int × Int × (Int × ByteArray × Int × Int) × Int × ByteArray × Int × Int)) :=
  fun (y4 : ByteArray × Int × Int × (Int × ByteArray × Int × Int) × Int × ByteArray × Int × Int) =>
    if decide (y4.snd.snd.fst < (↑(ByteArray.size y4.fst) : Int)) = true then
      (gsidx y4.fst y4.snd.snd.fst).bind fun (y5 : Int) =>
        (f16 y5).bind fun (y6 : Bool) =>
          (gsidx y4.fst y4.snd.snd.fst).bind fun (y7 : Int) =>
            (f17 y7).bind fun (y8 : Bool) =>
              (if (!y6) = true then some (y4.fst, y4.snd.fst, y4.snd.snd.fst, !y8, y4.snd.snd.snd)
                  else some (y4.fst, y4.snd.fst, y4.snd.snd.fst, false, y4.snd.snd.snd)).bind
                fun (y9 : ByteArray × Int × Int × Bool × (Int × ByteArray × Int × Int) × Int × ByteArray × Int × Int) =>
                if y9.snd.snd.snd.fst = true then
                  some (Step.done (y9.fst, y9.snd.fst, y9.snd.snd.fst, y9.snd.snd.snd.snd))
                else
                  some
                    (Step.next (y9.fst, y9.snd.fst, IntKind.i64.wrap (y9.snd.snd.fst + 1), y9.snd.snd.snd.snd))
    else some (Step.done y4)
noncomputable def l1_lychgateref01_one (f16 : Int → Option Bool) (f17 : Int → Option Bool) (f18 : ByteArray → Option Bool) (f19 : ByteArray × Int → Option Int) : ByteArray × Int × Int × Int × Bool × (Int × ByteArray × Int × Int) × Int × ByteArray × Int × Int → Option (Step (ByteArray × Int × Int × Int × Bool × (Int × ByteArray × Int × Int) × Int × ByteArray × Int × Int) (ByteArray × Int × Int × Int × Bool × (Int × ByteArray × Int × Int) × Int × ByteArray × Int × Int)) :=
  fun (y17 : ByteArray × Int × Int × Int × Bool × (Int × ByteArray × Int × Int) × Int × ByteArray × Int × Int) =>
    if decide (y17.snd.snd.fst < (↑(ByteArray.size y17.fst) : Int)) = true then
      (gsidx y17.fst y17.snd.snd.fst).bind fun (y18 : Int) =>
        (f17 y18).bind fun (y19 : Bool) =>
          if (!y19) = true then some (Step.done y17)
          else
            (if decide (y17.snd.snd.snd.fst ≤ 1099511627776) = true then
                  (gsidx y17.fst y17.snd.snd.fst).bind fun (y20 : Int) =>
                    some
                      (y17.fst, y17.snd.fst, y17.snd.snd.fst,
                        IntKind.i64.wrap
                          (IntKind.i64.wrap (y17.snd.snd.snd.fst * 10) +
                            IntKind.i64.wrap (IntKind.u8.wrap (y20 - 48))),
                        y17.snd.snd.snd.snd)
                else some y17).bind
              fun
                (y21 :
                  ByteArray × Int × Int × Int × Bool × (Int × ByteArray × Int × Int) × Int × ByteArray × Int × Int) =>
              (if decide (1099511627776 < y21.snd.snd.snd.fst) = true then
                    some
                      (y21.fst, y21.snd.fst, y21.snd.snd.fst, y21.snd.snd.snd.fst, true, y21.snd.snd.snd.snd.snd)
                  else some y21).bind
                fun
                  (y22 :
                    ByteArray × Int × Int × Int × Bool × (Int × ByteArray × Int × Int) × Int × ByteArray × Int × Int) =>
                some
                  (Step.next (y22.fst, y22.snd.fst, IntKind.i64.wrap (y22.snd.snd.fst + 1), y22.snd.snd.snd))
    else some (Step.done y17)
noncomputable def m_lychgateref01_one' (f16 : Int → Option Bool) (f17 : Int → Option Bool) (f18 : ByteArray → Option Bool) (f19 : ByteArray × Int → Option Int) (x : ByteArray × Int) : Option (T_lychgateref01_Token × Int) :=
  (gsidx x.fst x.snd).bind fun (y0 : Int) =>
    (f16 y0).bind fun (y1 : Bool) =>
      (gsidx x.fst x.snd).bind fun (y2 : Int) =>
        (f17 y2).bind fun (y3 : Bool) =>
          (if y1 = true then
                (lpO (l0_lychgateref01_one f16 f17 f18 f19) (x.fst, x.snd, x.snd, (0, lit [], 0, 0), 0, lit [], 0, x.snd)).bind
                  fun (y10 : ByteArray × Int × Int × (Int × ByteArray × Int × Int) × Int × ByteArray × Int × Int) =>
                  (gsslice y10.fst y10.snd.fst y10.snd.snd.fst).bind fun (y11 : ByteArray) =>
                    if decide (16 < (↑y11.size : Int)) = true then
                      some (Sum.inl (13, 0, lit [], 0, 0))
                    else
                      (f18 y11).bind fun (y12 : Bool) =>
                        (if y12 = true then some (y10.snd.snd.snd.fst, 2, y11, y10.snd.snd.snd.snd.snd.snd)
                            else some (y10.snd.snd.snd.fst, 1, y11, y10.snd.snd.snd.snd.snd.snd)).bind
                          fun (y13 : (Int × ByteArray × Int × Int) × Int × ByteArray × Int × Int) =>
                          some (Sum.inl (0, y13.snd))
              else
                some (Sum.inr (x.fst, x.snd, x.snd, y3, (0, lit [], 0, 0), 0, lit [], 0, x.snd))).bind
            fun
              (y14 :
                Int × Int × ByteArray × Int × Int ⊕
                  ByteArray × Int × Int × Bool × (Int × ByteArray × Int × Int) × Int × ByteArray × Int × Int) =>
            Sum.elim
              (fun (y15 : Int × Int × ByteArray × Int × Int) =>
                some
                  (T_lychgateref01_Token.mk y15.snd.fst y15.snd.snd.fst y15.snd.snd.snd.fst y15.snd.snd.snd.snd,
                    y15.fst))
              (fun (y16 : ByteArray × Int × Int × Bool × (Int × ByteArray × Int × Int) × Int × ByteArray × Int × Int) =>
                (if y16.snd.snd.snd.fst = true then
                      (lpO (l1_lychgateref01_one f16 f17 f18 f19) (y16.fst, y16.snd.fst, y16.snd.snd.fst, 0, false, y16.snd.snd.snd.snd)).bind
                        fun
                          (y23 :
                            ByteArray ×
                              Int × Int × Int × Bool × (Int × ByteArray × Int × Int) × Int × ByteArray × Int × Int) =>
                        (if decide (y23.snd.snd.fst < (↑(ByteArray.size y23.fst) : Int)) = true then
                              (gsidx y23.fst y23.snd.snd.fst).bind fun (y24 : Int) =>
                                (f16 y24).bind fun (y25 : Bool) =>
                                  some
                                    (y23.fst, y23.snd.fst, y23.snd.snd.fst, y23.snd.snd.snd.fst, y23.snd.snd.snd.snd.fst,
                                      y25, y23.snd.snd.snd.snd.snd)
                            else
                              some
                                (y23.fst, y23.snd.fst, y23.snd.snd.fst, y23.snd.snd.snd.fst, y23.snd.snd.snd.snd.fst,
                                  false, y23.snd.snd.snd.snd.snd)).bind
                          fun
                            (y26 :
                              ByteArray ×
                                Int ×
                                  Int ×
                                    Int × Bool × Bool × (Int × ByteArray × Int × Int) × Int × ByteArray × Int × Int) =>
                          (if y26.snd.snd.snd.snd.fst = true then
                                some
                                  (y26.fst, y26.snd.fst, y26.snd.snd.fst, y26.snd.snd.snd.fst, true,
                                    y26.snd.snd.snd.snd.snd.snd)
                              else
                                if y26.snd.snd.snd.snd.snd.fst = true then
                                  some
                                    (y26.fst, y26.snd.fst, y26.snd.snd.fst, y26.snd.snd.snd.fst, true,
                                      y26.snd.snd.snd.snd.snd.snd)
                                else
                                  (gsidx y26.fst y26.snd.fst).bind fun (y27 : Int) =>
                                    if decide (y27 = 48) = true then
                                      some
                                        (y26.fst, y26.snd.fst, y26.snd.snd.fst, y26.snd.snd.snd.fst,
                                          decide (IntKind.i64.wrap (y26.snd.fst + 1) < y26.snd.snd.fst),
                                          y26.snd.snd.snd.snd.snd.snd)
                                    else
                                      some
                                        (y26.fst, y26.snd.fst, y26.snd.snd.fst, y26.snd.snd.snd.fst, false,
                                          y26.snd.snd.snd.snd.snd.snd)).bind
                            fun
                              (y28 :
                                ByteArray ×
                                  Int × Int × Int × Bool × (Int × ByteArray × Int × Int) × Int × ByteArray × Int × Int) =>
                            if y28.snd.snd.snd.snd.fst = true then some (Sum.inl (12, 0, lit [], 0, 0))
                            else
                              (gsslice y28.fst y28.snd.fst y28.snd.snd.fst).bind fun (y29 : ByteArray) =>
                                some
                                  (Sum.inl (0, 3, y29, y28.snd.snd.snd.fst, y28.snd.snd.snd.snd.snd.snd.snd.snd.snd))
                    else some (Sum.inr (y16.fst, y16.snd.fst, y16.snd.snd.snd.snd))).bind
                  fun
                    (y30 :
                      Int × Int × ByteArray × Int × Int ⊕
                        ByteArray × Int × (Int × ByteArray × Int × Int) × Int × ByteArray × Int × Int) =>
                  Sum.elim
                    (fun (y31 : Int × Int × ByteArray × Int × Int) =>
                      some
                        (T_lychgateref01_Token.mk y31.snd.fst y31.snd.snd.fst y31.snd.snd.snd.fst
                            y31.snd.snd.snd.snd,
                          y31.fst))
                    (fun (y32 : ByteArray × Int × (Int × ByteArray × Int × Int) × Int × ByteArray × Int × Int) =>
                      (f19 (y32.fst, y32.snd.fst)).bind fun (y33 : Int) =>
                        if decide (y33 = 0) = true then
                          some (T_lychgateref01_Token.mk 0 (lit []) 0 0, 11)
                        else
                          (gsslice y32.fst y32.snd.fst (IntKind.i64.wrap (y32.snd.fst + y33))).bind
                            fun (y34 : ByteArray) =>
                            some
                              (T_lychgateref01_Token.mk 4 y34 y32.snd.snd.snd.snd.snd.fst
                                  y32.snd.snd.snd.snd.snd.snd,
                                0))
                    y30)
              y14
noncomputable def m_lychgateref01_one : (ByteArray × Int) → Option (T_lychgateref01_Token × Int) := m_lychgateref01_one' m_lychgateref01_letter m_lychgateref01_digit m_lychgateref01_IsKey m_lychgateref01_sign
theorem e_lychgateref01_one : @Eq ((ByteArray × Int) → Option (T_lychgateref01_Token × Int)) F20 m_lychgateref01_one := (by kernel_rfl : @Eq ((ByteArray × Int) → Option (T_lychgateref01_Token × Int)) F20 (m_lychgateref01_one' F16 F17 F18 F19)).trans (congr (congr (congr (congrArg m_lychgateref01_one' e_lychgateref01_letter) e_lychgateref01_digit) e_lychgateref01_IsKey) e_lychgateref01_sign)
/-- lychgate/lychgateref01.Tokens -/
noncomputable def l0_lychgateref01_Tokens (f20 : ByteArray × Int → Option (T_lychgateref01_Token × Int)) : ByteArray × Int × Sl T_lychgateref01_Token → Option (Step (ByteArray × Int × Sl T_lychgateref01_Token) (ByteArray × Int × Sl T_lychgateref01_Token)) :=
  fun (y5 : ByteArray × Int × Sl T_lychgateref01_Token) =>
    (if decide (y5.snd.fst < (↑(ByteArray.size y5.fst) : Int)) = true then
          (gsidx y5.fst y5.snd.fst).bind fun (y6 : Int) =>
            some (y5.fst, y5.snd.fst, decide (y6 ≠ 10), y5.snd.snd)
        else some (y5.fst, y5.snd.fst, false, y5.snd.snd)).bind
      fun (y7 : ByteArray × Int × Bool × Sl T_lychgateref01_Token) =>
      if y7.snd.snd.fst = true then
        some (Step.next (y7.fst, IntKind.i64.wrap (y7.snd.fst + 1), y7.snd.snd.snd))
      else some (Step.done (y7.fst, y7.snd.fst, y7.snd.snd.snd))
noncomputable def l1_lychgateref01_Tokens (f20 : ByteArray × Int → Option (T_lychgateref01_Token × Int)) : ByteArray × Int × Sl T_lychgateref01_Token → Option (Step (ByteArray × Int × Sl T_lychgateref01_Token) (Int × Int ⊕ ByteArray × Sl T_lychgateref01_Token)) :=
  fun (y0 : ByteArray × Int × Sl T_lychgateref01_Token) =>
    if decide (y0.snd.fst < (↑(ByteArray.size y0.fst) : Int)) = true then
      (((gsidx y0.fst y0.snd.fst).bind fun (y1 : Int) =>
                if decide (y1 = 32) = true then some (y0.fst, y0.snd.fst, true, y0.snd.snd)
                else
                  (gsidx y0.fst y0.snd.fst).bind fun (y2 : Int) =>
                    some (y0.fst, y0.snd.fst, decide (y2 = 10), y0.snd.snd)).bind
            fun (y3 : ByteArray × Int × Bool × Sl T_lychgateref01_Token) =>
            if y3.snd.snd.fst = true then
              some (Sum.inl (y3.fst, IntKind.i64.wrap (y3.snd.fst + 1), y3.snd.snd.snd))
            else
              (gsidx y3.fst y3.snd.fst).bind fun (y4 : Int) =>
                if decide (y4 = 35) = true then
                  (lpO (l0_lychgateref01_Tokens f20) (y3.fst, y3.snd.fst, y3.snd.snd.snd)).bind
                    fun (y8 : ByteArray × Int × Sl T_lychgateref01_Token) => some (Sum.inl y8)
                else
                  (f20 (y3.fst, y3.snd.fst)).bind fun (y9 : T_lychgateref01_Token × Int) =>
                    if decide (y9.snd ≠ 0) = true then some (Sum.inr (y3.snd.fst, y9.snd))
                    else
                      (gapp 40 y3.snd.snd.snd [y9.fst]).bind fun (y10 : Sl T_lychgateref01_Token) =>
                        some
                          (Sum.inl (y3.fst, IntKind.i64.wrap (y3.snd.fst + (↑y9.fst.Text_.size : Int)), y10))).bind
        fun (y11 : ByteArray × Int × Sl T_lychgateref01_Token ⊕ Int × Int) =>
        Sum.elim (fun (y12 : ByteArray × Int × Sl T_lychgateref01_Token) => some (Step.next y12))
          (fun (y13 : Int × Int) => some (Step.done (Sum.inl y13))) y11
    else some (Step.done (Sum.inr (y0.fst, y0.snd.snd)))
noncomputable def m_lychgateref01_Tokens' (f20 : ByteArray × Int → Option (T_lychgateref01_Token × Int)) (x : ByteArray) : Option (Int × Int × Sl T_lychgateref01_Token) :=
  if decide (16384 < (↑x.size : Int)) = true then some (0, 10, Sl.mk [] false)
  else
    (lpO (l1_lychgateref01_Tokens f20) (x, 0, Sl.mk [] false)).bind
      fun (y14 : Int × Int ⊕ ByteArray × Sl T_lychgateref01_Token) =>
      Sum.elim (fun (y15 : Int × Int) => some (y15.fst, y15.snd, Sl.mk [] false))
        (fun (y16 : ByteArray × Sl T_lychgateref01_Token) =>
          (gapp 40 y16.snd
                [T_lychgateref01_Token.mk 0 (lit []) 0 (↑(ByteArray.size y16.fst) : Int)]).bind
            fun (y17 : Sl T_lychgateref01_Token) => some (0, 0, y17))
        y14
noncomputable def m_lychgateref01_Tokens : ByteArray → Option (Int × Int × Sl T_lychgateref01_Token) := m_lychgateref01_Tokens' m_lychgateref01_one
theorem e_lychgateref01_Tokens : @Eq (ByteArray → Option (Int × Int × Sl T_lychgateref01_Token)) F21 m_lychgateref01_Tokens := (by kernel_rfl : @Eq (ByteArray → Option (Int × Int × Sl T_lychgateref01_Token)) F21 (m_lychgateref01_Tokens' F20)).trans (congrArg m_lychgateref01_Tokens' e_lychgateref01_one)
/-- lychgate/lychgatelaw01.wakes -/
noncomputable def m_lychgatelaw01_wakes' (f15 : ByteArray → Option (Int × Int × Sl T_lex_Token)) (x : Unit) : Option Bool :=
  (f15 (lit [120, 61, 45, 49])).bind fun (y0 : Int × Int × Sl T_lex_Token) =>
    (if decide (y0.snd.fst = 0) = true then
          if decide (y0.fst = 0) = true then
            if decide (Sl.len y0.snd.snd = 5) = true then
              (gidx y0.snd.snd 0).bind fun (y1 : T_lex_Token) =>
                (gidx y0.snd.snd 0).bind fun (y2 : T_lex_Token) =>
                  if
                      (decide (y2.Kind_ = 1) &&
                          (decide (y2.Text_ = lit [120]) &&
                            (decide (y2.Num_ = 0) && (decide (y2.At_ = 0) && true)))) =
                        true then
                    (gidx y0.snd.snd 3).bind fun (y3 : T_lex_Token) =>
                      (gidx y0.snd.snd 3).bind fun (y4 : T_lex_Token) =>
                        if
                            (decide (y4.Kind_ = 3) &&
                                (decide (y4.Text_ = lit [49]) &&
                                  (decide (y4.Num_ = 1) && (decide (y4.At_ = 3) && true)))) =
                              true then
                          (gidx y0.snd.snd 4).bind fun (y5 : T_lex_Token) =>
                            (gidx y0.snd.snd 4).bind fun (y6 : T_lex_Token) =>
                              some (decide (y6.At_ = 4))
                        else some false
                  else some false
            else some false
          else some false
        else some false).bind
      fun (y7 : Bool) => some y7
noncomputable def m_lychgatelaw01_wakes : Unit → Option Bool := m_lychgatelaw01_wakes' m_lex_Tokens
theorem e_lychgatelaw01_wakes : @Eq (Unit → Option Bool) F22 m_lychgatelaw01_wakes := (by kernel_rfl : @Eq (Unit → Option Bool) F22 (m_lychgatelaw01_wakes' F15)).trans (congrArg m_lychgatelaw01_wakes' e_lex_Tokens)
/-- lychgate/lychgatelaw01.ref -/
noncomputable def m_lychgatelaw01_ref' (x : T_lex_Token) : Option T_lychgateref01_Token :=
  some (T_lychgateref01_Token.mk x.Kind_ x.Text_ x.Num_ x.At_)
noncomputable def m_lychgatelaw01_ref : T_lex_Token → Option T_lychgateref01_Token := m_lychgatelaw01_ref'
theorem e_lychgatelaw01_ref : @Eq (T_lex_Token → Option T_lychgateref01_Token) F23 m_lychgatelaw01_ref := (by kernel_rfl : @Eq (T_lex_Token → Option T_lychgateref01_Token) F23 (m_lychgatelaw01_ref'))
/-- lychgate/lychgatelaw01.LexTokens -/
noncomputable def l0_lychgatelaw01_LexTokens (f15 : ByteArray → Option (Int × Int × Sl T_lex_Token)) (f21 : ByteArray → Option (Int × Int × Sl T_lychgateref01_Token)) (f22 : Unit → Option Bool) (f23 : T_lex_Token → Option T_lychgateref01_Token) : Int × Int × Sl T_lex_Token × Sl T_lychgateref01_Token → Option (Step (Int × Int × Sl T_lex_Token × Sl T_lychgateref01_Token) (Bool ⊕ Unit)) :=
  fun (y4 : Int × Int × Sl T_lex_Token × Sl T_lychgateref01_Token) =>
    if decide (y4.snd.fst < y4.fst) = true then
      (gidx y4.snd.snd.fst y4.snd.fst).bind fun (y5 : T_lex_Token) =>
        (gidx y4.snd.snd.fst y4.snd.fst).bind fun (y6 : T_lex_Token) =>
          (gidx y4.snd.snd.snd y4.snd.fst).bind fun (y7 : T_lychgateref01_Token) =>
            (gidx y4.snd.snd.snd y4.snd.fst).bind fun (y8 : T_lychgateref01_Token) =>
              (f23 y6).bind fun (y9 : T_lychgateref01_Token) =>
                if
                    (!(decide (y9.Kind_ = y8.Kind_) &&
                          (decide (y9.Text_ = y8.Text_) &&
                            (decide (y9.Num_ = y8.Num_) &&
                              (decide (y9.At_ = y8.At_) && true))))) =
                      true then
                  some (Step.done (Sum.inl false))
                else some (Step.next (y4.fst, IntKind.i64.wrap (y4.snd.fst + 1), y4.snd.snd))
    else some (Step.done (Sum.inr ()))
noncomputable def m_lychgatelaw01_LexTokens' (f15 : ByteArray → Option (Int × Int × Sl T_lex_Token)) (f21 : ByteArray → Option (Int × Int × Sl T_lychgateref01_Token)) (f22 : Unit → Option Bool) (f23 : T_lex_Token → Option T_lychgateref01_Token) (x : ByteArray) : Option Bool :=
  (f15 x).bind fun (y0 : Int × Int × Sl T_lex_Token) =>
    (f21 x).bind fun (y1 : Int × Int × Sl T_lychgateref01_Token) =>
      ((f22 ()).bind fun (y2 : Bool) =>
            if (!y2) = true then some (true, y0.snd.snd, y1.snd.snd)
            else
              if decide (y0.fst ≠ y1.fst) = true then some (true, y0.snd.snd, y1.snd.snd)
              else
                if decide (y0.snd.fst ≠ y1.snd.fst) = true then
                  some (true, y0.snd.snd, y1.snd.snd)
                else
                  some
                    (decide (Sl.len y0.snd.snd ≠ Sl.len y1.snd.snd), y0.snd.snd, y1.snd.snd)).bind
        fun (y3 : Bool × Sl T_lex_Token × Sl T_lychgateref01_Token) =>
        if y3.fst = true then some false
        else
          (lpO (l0_lychgatelaw01_LexTokens f15 f21 f22 f23) (Sl.len y3.snd.fst, 0, y3.snd)).bind fun (y10 : Bool ⊕ Unit) =>
            Sum.elim (fun (y11 : Bool) => some y11) (fun (y12 : Unit) => some true) y10
noncomputable def m_lychgatelaw01_LexTokens : ByteArray → Option Bool := m_lychgatelaw01_LexTokens' m_lex_Tokens m_lychgateref01_Tokens m_lychgatelaw01_wakes m_lychgatelaw01_ref
theorem e_lychgatelaw01_LexTokens : @Eq (ByteArray → Option Bool) F24 m_lychgatelaw01_LexTokens := (by kernel_rfl : @Eq (ByteArray → Option Bool) F24 (m_lychgatelaw01_LexTokens' F15 F21 F22 F23)).trans (congr (congr (congr (congrArg m_lychgatelaw01_LexTokens' e_lex_Tokens) e_lychgateref01_Tokens) e_lychgatelaw01_wakes) e_lychgatelaw01_ref)
/-- lychgate/lychgatelaw01.LexCovers -/
noncomputable def l0_lychgatelaw01_LexCovers (f15 : ByteArray → Option (Int × Int × Sl T_lex_Token)) (f22 : Unit → Option Bool) : ByteArray × Bool × Int × Int × Sl Int × Int × Int × Sl T_lex_Token × Int × ByteArray × Int × Int → Option (Step (ByteArray × Bool × Int × Int × Sl Int × Int × Int × Sl T_lex_Token × Int × ByteArray × Int × Int) (Bool ⊕ ByteArray × Int × Int × Sl T_lex_Token × Int × ByteArray × Int × Int)) :=
  fun
      (y12 :
        ByteArray ×
          Bool × Int × Int × Sl Int × Int × Int × Sl T_lex_Token × Int × ByteArray × Int × Int) =>
    if decide (y12.snd.snd.snd.snd.snd.snd.fst < y12.snd.snd.snd.snd.snd.fst) = true then
      (gidx y12.snd.snd.snd.snd.fst y12.snd.snd.snd.snd.snd.snd.fst).bind fun (y13 : Int) =>
        (if decide (y13 = 35) = true then some (y12.fst, true, y13, y12.snd.snd)
            else
              if y12.snd.fst = true then some (y12.fst, decide (y13 ≠ 10), y13, y12.snd.snd)
              else some (y12.fst, false, y13, y12.snd.snd)).bind
          fun
            (y14 :
              ByteArray ×
                Bool ×
                  Int ×
                    Int × Int × Sl Int × Int × Int × Sl T_lex_Token × Int × ByteArray × Int × Int) =>
          (if (!y14.snd.fst) = true then
                if decide (y14.snd.snd.fst ≠ 32) = true then
                  some
                    (y14.fst, y14.snd.fst, y14.snd.snd.snd.fst, y14.snd.snd.snd.snd.fst, y14.snd.snd.snd.snd.snd.fst,
                      y14.snd.snd.snd.snd.snd.snd.fst, y14.snd.snd.snd.snd.snd.snd.snd.fst,
                      decide (y14.snd.snd.fst ≠ 10), y14.snd.snd.snd.snd.snd.snd.snd.snd)
                else
                  some
                    (y14.fst, y14.snd.fst, y14.snd.snd.snd.fst, y14.snd.snd.snd.snd.fst, y14.snd.snd.snd.snd.snd.fst,
                      y14.snd.snd.snd.snd.snd.snd.fst, y14.snd.snd.snd.snd.snd.snd.snd.fst, false,
                      y14.snd.snd.snd.snd.snd.snd.snd.snd)
              else
                some
                  (y14.fst, y14.snd.fst, y14.snd.snd.snd.fst, y14.snd.snd.snd.snd.fst, y14.snd.snd.snd.snd.snd.fst,
                    y14.snd.snd.snd.snd.snd.snd.fst, y14.snd.snd.snd.snd.snd.snd.snd.fst, false,
                    y14.snd.snd.snd.snd.snd.snd.snd.snd)).bind
            fun
              (y15 :
                ByteArray ×
                  Bool ×
                    Int ×
                      Int × Sl Int × Int × Int × Bool × Sl T_lex_Token × Int × ByteArray × Int × Int) =>
            if y15.snd.snd.snd.snd.snd.snd.snd.fst = true then some (Step.done (Sum.inl false))
            else
              some
                (Step.next
                  (y15.fst, y15.snd.fst, y15.snd.snd.fst, y15.snd.snd.snd.fst, y15.snd.snd.snd.snd.fst,
                    y15.snd.snd.snd.snd.snd.fst, IntKind.i64.wrap (y15.snd.snd.snd.snd.snd.snd.fst + 1),
                    y15.snd.snd.snd.snd.snd.snd.snd.snd))
    else
      some
        (Step.done (Sum.inr (y12.fst, y12.snd.snd.fst, y12.snd.snd.snd.fst, y12.snd.snd.snd.snd.snd.snd.snd)))
noncomputable def l1_lychgatelaw01_LexCovers (f15 : ByteArray → Option (Int × Int × Sl T_lex_Token)) (f22 : Unit → Option Bool) : ByteArray × Int × Int × Int × Sl T_lex_Token → Option (Step (ByteArray × Int × Int × Int × Sl T_lex_Token) (Bool ⊕ ByteArray × Int)) :=
  fun (y5 : ByteArray × Int × Int × Int × Sl T_lex_Token) =>
    if decide (y5.snd.snd.snd.fst < y5.snd.snd.fst) = true then
      ((gidx y5.snd.snd.snd.snd y5.snd.snd.snd.fst).bind fun (y6 : T_lex_Token) =>
            (gidx y5.snd.snd.snd.snd y5.snd.snd.snd.fst).bind fun (y7 : T_lex_Token) =>
              (if decide (y7.At_ < y5.snd.fst) = true then
                    some
                      (y5.fst, y5.snd.fst, y5.snd.snd.fst, y5.snd.snd.snd.fst, true, y5.snd.snd.snd.snd, y7.Kind_,
                        y7.Text_, y7.Num_, y7.At_)
                  else
                    if
                        decide
                            ((↑(ByteArray.size y5.fst) : Int) < IntKind.i64.wrap (y7.At_ + (↑y7.Text_.size : Int))) =
                          true then
                      some
                        (y5.fst, y5.snd.fst, y5.snd.snd.fst, y5.snd.snd.snd.fst, true, y5.snd.snd.snd.snd, y7.Kind_,
                          y7.Text_, y7.Num_, y7.At_)
                    else
                      (gsslice y5.fst y7.At_ (IntKind.i64.wrap (y7.At_ + (↑y7.Text_.size : Int)))).bind
                        fun (y8 : ByteArray) =>
                        if decide (y8 ≠ y7.Text_) = true then
                          some
                            (y5.fst, y5.snd.fst, y5.snd.snd.fst, y5.snd.snd.snd.fst, true, y5.snd.snd.snd.snd,
                              y7.Kind_, y7.Text_, y7.Num_, y7.At_)
                        else
                          some
                            (y5.fst, y5.snd.fst, y5.snd.snd.fst, y5.snd.snd.snd.fst,
                              decide (y7.Kind_ = 0) !=
                                decide
                                  (y5.snd.snd.snd.fst = IntKind.i64.wrap (Sl.len y5.snd.snd.snd.snd - 1)),
                              y5.snd.snd.snd.snd, y7.Kind_, y7.Text_, y7.Num_, y7.At_)).bind
                fun
                  (y9 : ByteArray × Int × Int × Int × Bool × Sl T_lex_Token × Int × ByteArray × Int × Int) =>
                if y9.snd.snd.snd.snd.fst = true then some (Sum.inl false)
                else
                  (gsslice y9.fst y9.snd.fst y9.snd.snd.snd.snd.snd.snd.snd.snd.snd).bind fun (y10 : ByteArray) =>
                    bif true && decide (y10.size ≤ 140737488355328) then
                      (impB CC 5 y10.data.toList).bind fun (y11 : List Int) =>
                        (lpO (l0_lychgatelaw01_LexCovers f15 f22)
                              (y9.fst, false, y9.snd.snd.fst, y9.snd.snd.snd.fst, Sl.mk y11 true,
                                (Sl.mk y11 true).len, 0, y9.snd.snd.snd.snd.snd)).bind
                          fun
                            (y16 :
                              Bool ⊕ ByteArray × Int × Int × Sl T_lex_Token × Int × ByteArray × Int × Int) =>
                          Sum.elim (fun (y17 : Bool) => some (Sum.inl y17))
                            (fun
                                (y18 :
                                  ByteArray × Int × Int × Sl T_lex_Token × Int × ByteArray × Int × Int) =>
                              some
                                (Sum.inr
                                  (y18.fst,
                                    IntKind.i64.wrap
                                      (y18.snd.snd.snd.snd.snd.snd.snd +
                                        (↑(ByteArray.size y18.snd.snd.snd.snd.snd.fst) : Int)),
                                    y18.snd.fst, y18.snd.snd.fst, y18.snd.snd.snd.fst)))
                            y16
                    else none).bind
        fun (y19 : Bool ⊕ ByteArray × Int × Int × Int × Sl T_lex_Token) =>
        Sum.elim (fun (y20 : Bool) => some (Step.done (Sum.inl y20)))
          (fun (y21 : ByteArray × Int × Int × Int × Sl T_lex_Token) =>
            some
              (Step.next
                (y21.fst, y21.snd.fst, y21.snd.snd.fst, IntKind.i64.wrap (y21.snd.snd.snd.fst + 1),
                  y21.snd.snd.snd.snd)))
          y19
    else some (Step.done (Sum.inr (y5.fst, y5.snd.fst)))
noncomputable def m_lychgatelaw01_LexCovers' (f15 : ByteArray → Option (Int × Int × Sl T_lex_Token)) (f22 : Unit → Option Bool) (x : ByteArray) : Option Bool :=
  (f15 x).bind fun (y0 : Int × Int × Sl T_lex_Token) =>
    ((f22 ()).bind fun (y1 : Bool) =>
          if (!y1) = true then some (x, true, y0.snd.snd)
          else some (x, decide (y0.snd.fst ≠ 0), y0.snd.snd)).bind
      fun (y2 : ByteArray × Bool × Sl T_lex_Token) =>
      if y2.snd.fst = true then
        ((f22 ()).bind fun (y3 : Bool) =>
              if y3 = true then some (decide (Sl.len y2.snd.snd = 0))
              else some false).bind
          fun (y4 : Bool) => some y4
      else
        (lpO (l1_lychgatelaw01_LexCovers f15 f22) (y2.fst, 0, Sl.len y2.snd.snd, 0, y2.snd.snd)).bind fun (y22 : Bool ⊕ ByteArray × Int) =>
          Sum.elim (fun (y23 : Bool) => some y23)
            (fun (y24 : ByteArray × Int) => some (decide (y24.snd = (↑(ByteArray.size y24.fst) : Int))))
            y22
noncomputable def m_lychgatelaw01_LexCovers : ByteArray → Option Bool := m_lychgatelaw01_LexCovers' m_lex_Tokens m_lychgatelaw01_wakes
theorem e_lychgatelaw01_LexCovers : @Eq (ByteArray → Option Bool) F25 m_lychgatelaw01_LexCovers := (by kernel_rfl : @Eq (ByteArray → Option Bool) F25 (m_lychgatelaw01_LexCovers' F15 F22)).trans (congr (congrArg m_lychgatelaw01_LexCovers' e_lex_Tokens) e_lychgatelaw01_wakes)
/-- lychgate/lychgatelaw01.LexAgain -/
noncomputable def l0_lychgatelaw01_LexAgain (f15 : ByteArray → Option (Int × Int × Sl T_lex_Token)) (f22 : Unit → Option Bool) : ByteArray × Int × Int × Sl T_lex_Token → Option (Step (ByteArray × Int × Int × Sl T_lex_Token) (ByteArray × Sl T_lex_Token)) :=
  fun (y4 : ByteArray × Int × Int × Sl T_lex_Token) =>
    if decide (y4.snd.snd.fst < y4.snd.fst) = true then
      (gidx y4.snd.snd.snd y4.snd.snd.fst).bind fun (y5 : T_lex_Token) =>
        (gidx y4.snd.snd.snd y4.snd.snd.fst).bind fun (y6 : T_lex_Token) =>
          bif !false && decide (y6.Text_.size + 1 ≤ 9223372036854775807) then
            bif
                !false &&
                  decide (ByteArray.size y4.fst + (y6.Text_ ++ lit [32]).size ≤ 9223372036854775807) then
              some
                (Step.next
                  (y4.fst ++ (y6.Text_ ++ lit [32]), y4.snd.fst, IntKind.i64.wrap (y4.snd.snd.fst + 1),
                    y4.snd.snd.snd))
            else none
          else none
    else some (Step.done (y4.fst, y4.snd.snd.snd))
noncomputable def l1_lychgatelaw01_LexAgain (f15 : ByteArray → Option (Int × Int × Sl T_lex_Token)) (f22 : Unit → Option Bool) : Int × Int × Sl T_lex_Token × Sl T_lex_Token → Option (Step (Int × Int × Sl T_lex_Token × Sl T_lex_Token) (Bool ⊕ Unit)) :=
  fun (y10 : Int × Int × Sl T_lex_Token × Sl T_lex_Token) =>
    if decide (y10.snd.fst < y10.fst) = true then
      ((gidx y10.snd.snd.snd y10.snd.fst).bind fun (y11 : T_lex_Token) =>
            (gidx y10.snd.snd.snd y10.snd.fst).bind fun (y12 : T_lex_Token) =>
              (gidx y10.snd.snd.fst y10.snd.fst).bind fun (y13 : T_lex_Token) =>
                (gidx y10.snd.snd.fst y10.snd.fst).bind fun (y14 : T_lex_Token) =>
                  if decide (y12.Kind_ ≠ y14.Kind_) = true then
                    some (y10.fst, y10.snd.fst, true, y10.snd.snd)
                  else
                    (gidx y10.snd.snd.snd y10.snd.fst).bind fun (y15 : T_lex_Token) =>
                      (gidx y10.snd.snd.snd y10.snd.fst).bind fun (y16 : T_lex_Token) =>
                        (gidx y10.snd.snd.fst y10.snd.fst).bind fun (y17 : T_lex_Token) =>
                          (gidx y10.snd.snd.fst y10.snd.fst).bind fun (y18 : T_lex_Token) =>
                            if decide (y16.Text_ ≠ y18.Text_) = true then
                              some (y10.fst, y10.snd.fst, true, y10.snd.snd)
                            else
                              (gidx y10.snd.snd.snd y10.snd.fst).bind fun (y19 : T_lex_Token) =>
                                (gidx y10.snd.snd.snd y10.snd.fst).bind fun (y20 : T_lex_Token) =>
                                  (gidx y10.snd.snd.fst y10.snd.fst).bind fun (y21 : T_lex_Token) =>
                                    (gidx y10.snd.snd.fst y10.snd.fst).bind fun (y22 : T_lex_Token) =>
                                      some
                                        (y10.fst, y10.snd.fst, decide (y20.Num_ ≠ y22.Num_), y10.snd.snd)).bind
        fun (y23 : Int × Int × Bool × Sl T_lex_Token × Sl T_lex_Token) =>
        if y23.snd.snd.fst = true then some (Step.done (Sum.inl false))
        else some (Step.next (y23.fst, IntKind.i64.wrap (y23.snd.fst + 1), y23.snd.snd.snd))
    else some (Step.done (Sum.inr ()))
noncomputable def m_lychgatelaw01_LexAgain' (f15 : ByteArray → Option (Int × Int × Sl T_lex_Token)) (f22 : Unit → Option Bool) (x : ByteArray) : Option Bool :=
  (f15 x).bind fun (y0 : Int × Int × Sl T_lex_Token) =>
    ((f22 ()).bind fun (y1 : Bool) =>
          if (!y1) = true then some (true, y0.snd.snd)
          else some (decide (y0.snd.fst ≠ 0), y0.snd.snd)).bind
      fun (y2 : Bool × Sl T_lex_Token) =>
      if y2.fst = true then (f22 ()).bind fun (y3 : Bool) => some y3
      else
        (lpO (l0_lychgatelaw01_LexAgain f15 f22) (lit [], Sl.len y2.snd, 0, y2.snd)).bind
          fun (y7 : ByteArray × Sl T_lex_Token) =>
          if decide (16384 < (↑(ByteArray.size y7.fst) : Int)) = true then some true
          else
            (f15 y7.fst).bind fun (y8 : Int × Int × Sl T_lex_Token) =>
              (if decide (y8.snd.fst ≠ 0) = true then some (true, y7.snd, y8.snd.snd)
                  else
                    some
                      (decide (Sl.len y8.snd.snd ≠ Sl.len y7.snd), y7.snd, y8.snd.snd)).bind
                fun (y9 : Bool × Sl T_lex_Token × Sl T_lex_Token) =>
                if y9.fst = true then some false
                else
                  (lpO (l1_lychgatelaw01_LexAgain f15 f22) (Sl.len y9.snd.fst, 0, y9.snd)).bind fun (y24 : Bool ⊕ Unit) =>
                    Sum.elim (fun (y25 : Bool) => some y25) (fun (y26 : Unit) => some true) y24
noncomputable def m_lychgatelaw01_LexAgain : ByteArray → Option Bool := m_lychgatelaw01_LexAgain' m_lex_Tokens m_lychgatelaw01_wakes
theorem e_lychgatelaw01_LexAgain : @Eq (ByteArray → Option Bool) F26 m_lychgatelaw01_LexAgain := (by kernel_rfl : @Eq (ByteArray → Option Bool) F26 (m_lychgatelaw01_LexAgain' F15 F22)).trans (congr (congrArg m_lychgatelaw01_LexAgain' e_lex_Tokens) e_lychgatelaw01_wakes)
/-- lychgate/lychgatelaw01.LexFirst -/
noncomputable def m_lychgatelaw01_LexFirst' (f15 : ByteArray → Option (Int × Int × Sl T_lex_Token)) (f22 : Unit → Option Bool) (x : ByteArray) : Option Bool :=
  (f15 x).bind fun (y0 : Int × Int × Sl T_lex_Token) =>
    ((f22 ()).bind fun (y1 : Bool) =>
          if (!y1) = true then some (x, y0.fst, y0.snd.fst, true)
          else
            if decide (y0.snd.fst = 0) = true then some (x, y0.fst, y0.snd.fst, true)
            else some (x, y0.fst, y0.snd.fst, decide (y0.snd.fst = 10))).bind
      fun (y2 : ByteArray × Int × Int × Bool) =>
      if y2.snd.snd.snd = true then
        ((f22 ()).bind fun (y3 : Bool) =>
              if y3 = true then some (decide (y2.snd.fst = 0)) else some false).bind
          fun (y4 : Bool) => some y4
      else
        (if decide (y2.snd.fst < 0) = true then some (y2.fst, y2.snd.fst, y2.snd.snd.fst, true)
            else
              some
                (y2.fst, y2.snd.fst, y2.snd.snd.fst,
                  decide ((↑(ByteArray.size y2.fst) : Int) ≤ y2.snd.fst))).bind
          fun (y5 : ByteArray × Int × Int × Bool) =>
          if y5.snd.snd.snd = true then some false
          else
            (gsslice y5.fst 0 y5.snd.fst).bind fun (y6 : ByteArray) =>
              (f15 y6).bind fun (y7 : Int × Int × Sl T_lex_Token) =>
                (gsslice y5.fst y5.snd.fst (↑(ByteArray.size y5.fst) : Int)).bind fun (y8 : ByteArray) =>
                  (f15 y8).bind fun (y9 : Int × Int × Sl T_lex_Token) =>
                    (if decide (y7.fst = 0) = true then
                          if decide (y7.snd.fst = 0) = true then
                            if decide (y9.fst = 0) = true then
                              some (decide (y9.snd.fst = y5.snd.snd.fst))
                            else some false
                          else some false
                        else some false).bind
                      fun (y10 : Bool) => some y10
noncomputable def m_lychgatelaw01_LexFirst : ByteArray → Option Bool := m_lychgatelaw01_LexFirst' m_lex_Tokens m_lychgatelaw01_wakes
theorem e_lychgatelaw01_LexFirst : @Eq (ByteArray → Option Bool) F27 m_lychgatelaw01_LexFirst := (by kernel_rfl : @Eq (ByteArray → Option Bool) F27 (m_lychgatelaw01_LexFirst' F15 F22)).trans (congr (congrArg m_lychgatelaw01_LexFirst' e_lex_Tokens) e_lychgatelaw01_wakes)
/-- lychgate/lychgatelaw01.LexValues -/
noncomputable def l0_lychgatelaw01_LexValues (f15 : ByteArray → Option (Int × Int × Sl T_lex_Token)) (f22 : Unit → Option Bool) : Int × ByteArray × Int → Option (Step (Int × ByteArray × Int) (Int × ByteArray)) :=
  fun (y0 : Int × ByteArray × Int) =>
    (if decide (0 < y0.snd.snd) = true then some (y0.fst, y0.snd.fst, y0.snd.snd, true)
        else some (y0.fst, y0.snd.fst, y0.snd.snd, decide (y0.snd.fst = lit []))).bind
      fun (y1 : Int × ByteArray × Int × Bool) =>
      if y1.snd.snd.snd = true then
        bif
            !false &&
              decide
                ((ofInts [IntKind.u8.wrap (IntKind.i64.wrap (48 + Int.tmod y1.snd.snd.fst 10))]).size +
                    ByteArray.size y1.snd.fst ≤
                  9223372036854775807) then
          some
            (Step.next
              (y1.fst,
                ofInts [IntKind.u8.wrap (IntKind.i64.wrap (48 + Int.tmod y1.snd.snd.fst 10))] ++ y1.snd.fst,
                IntKind.i64.wrap (Int.tdiv y1.snd.snd.fst 10)))
        else none
      else some (Step.done (y1.fst, y1.snd.fst))
noncomputable def m_lychgatelaw01_LexValues' (f15 : ByteArray → Option (Int × Int × Sl T_lex_Token)) (f22 : Unit → Option Bool) (x : Int) : Option Bool :=
  (lpO (l0_lychgatelaw01_LexValues f15 f22)
        (if 0 < if 1099511627781 < x then 1099511627781 else x then if 1099511627781 < x then 1099511627781 else x else 0,
          lit [],
          if 0 < if 1099511627781 < x then 1099511627781 else x then if 1099511627781 < x then 1099511627781 else x
          else 0)).bind
    fun (y2 : Int × ByteArray) =>
    (f15 y2.snd).bind fun (y3 : Int × Int × Sl T_lex_Token) =>
      bif !false && decide (1 + ByteArray.size y2.snd ≤ 9223372036854775807) then
        (f15 (lit [48] ++ y2.snd)).bind fun (y4 : Int × Int × Sl T_lex_Token) =>
          ((f22 ()).bind fun (y5 : Bool) =>
                if (!y5) = true then some (y2.fst, y3.snd.fst, true, y3.snd.snd)
                else some (y2.fst, y3.snd.fst, decide (y4.snd.fst ≠ 12), y3.snd.snd)).bind
            fun (y6 : Int × Int × Bool × Sl T_lex_Token) =>
            if y6.snd.snd.fst = true then some false
            else
              if decide (1099511627776 < y6.fst) = true then
                some (decide (y6.snd.fst = 12))
              else
                (if decide (y6.snd.fst = 0) = true then
                      if decide (Sl.len y6.snd.snd.snd = 2) = true then
                        (gidx y6.snd.snd.snd 0).bind fun (y7 : T_lex_Token) =>
                          (gidx y6.snd.snd.snd 0).bind fun (y8 : T_lex_Token) =>
                            if decide (y8.Num_ = y6.fst) = true then
                              (gidx y6.snd.snd.snd 0).bind fun (y9 : T_lex_Token) =>
                                (gidx y6.snd.snd.snd 0).bind fun (y10 : T_lex_Token) =>
                                  some (decide (y10.Kind_ = 3))
                            else some false
                      else some false
                    else some false).bind
                  fun (y11 : Bool) => some y11
      else none
noncomputable def m_lychgatelaw01_LexValues : Int → Option Bool := m_lychgatelaw01_LexValues' m_lex_Tokens m_lychgatelaw01_wakes
theorem e_lychgatelaw01_LexValues : @Eq (Int → Option Bool) F28 m_lychgatelaw01_LexValues := (by kernel_rfl : @Eq (Int → Option Bool) F28 (m_lychgatelaw01_LexValues' F15 F22)).trans (congr (congrArg m_lychgatelaw01_LexValues' e_lex_Tokens) e_lychgatelaw01_wakes)
/-- lychgate/lychgatelaw01.LexJoined -/
noncomputable def l0_lychgatelaw01_LexJoined (f15 : ByteArray → Option (Int × Int × Sl T_lex_Token)) (f22 : Unit → Option Bool) : ByteArray × Sl T_lex_Token × Sl T_lex_Token × Int × Int × Sl T_lex_Token × Sl T_lex_Token → Option (Step (ByteArray × Sl T_lex_Token × Sl T_lex_Token × Int × Int × Sl T_lex_Token × Sl T_lex_Token) (Bool ⊕ ByteArray × Sl T_lex_Token × Sl T_lex_Token × Sl T_lex_Token)) :=
  fun
      (y8 :
        ByteArray ×
          Sl T_lex_Token ×
            Sl T_lex_Token × Int × Int × Sl T_lex_Token × Sl T_lex_Token) =>
    if decide (y8.snd.snd.snd.snd.fst < y8.snd.snd.snd.fst) = true then
      (gidx y8.snd.snd.fst y8.snd.snd.snd.snd.fst).bind fun (y9 : T_lex_Token) =>
        (gidx y8.snd.snd.snd.snd.snd.snd y8.snd.snd.snd.snd.fst).bind fun (y10 : T_lex_Token) =>
          (gidx y8.snd.snd.snd.snd.snd.snd y8.snd.snd.snd.snd.fst).bind fun (y11 : T_lex_Token) =>
            if
                (!(decide (y11.Kind_ = y9.Kind_) &&
                      (decide (y11.Text_ = y9.Text_) &&
                        (decide (y11.Num_ = y9.Num_) && (decide (y11.At_ = y9.At_) && true))))) =
                  true then
              some (Step.done (Sum.inl false))
            else
              some
                (Step.next
                  (y8.fst, y8.snd.fst, y8.snd.snd.fst, y8.snd.snd.snd.fst,
                    IntKind.i64.wrap (y8.snd.snd.snd.snd.fst + 1), y8.snd.snd.snd.snd.snd))
    else some (Step.done (Sum.inr (y8.fst, y8.snd.fst, y8.snd.snd.snd.snd.snd)))
noncomputable def l1_lychgatelaw01_LexJoined (f15 : ByteArray → Option (Int × Int × Sl T_lex_Token)) (f22 : Unit → Option Bool) : ByteArray × Sl T_lex_Token × Int × Int × Sl T_lex_Token × Sl T_lex_Token → Option (Step (ByteArray × Sl T_lex_Token × Int × Int × Sl T_lex_Token × Sl T_lex_Token) (Bool ⊕ Unit)) :=
  fun
      (y15 :
        ByteArray × Sl T_lex_Token × Int × Int × Sl T_lex_Token × Sl T_lex_Token) =>
    if decide (y15.snd.snd.snd.fst < y15.snd.snd.fst) = true then
      (gidx y15.snd.snd.snd.snd.snd y15.snd.snd.snd.fst).bind fun (y16 : T_lex_Token) =>
        (gidx y15.snd.snd.snd.snd.snd y15.snd.snd.snd.fst).bind fun (y17 : T_lex_Token) =>
          (gidx y15.snd.snd.snd.snd.fst
                (IntKind.i64.wrap (IntKind.i64.wrap (Sl.len y15.snd.fst - 1) + y15.snd.snd.snd.fst))).bind
            fun (y18 : T_lex_Token) =>
            (gidx y15.snd.snd.snd.snd.fst
                  (IntKind.i64.wrap (IntKind.i64.wrap (Sl.len y15.snd.fst - 1) + y15.snd.snd.snd.fst))).bind
              fun (y19 : T_lex_Token) =>
              if
                  (!(decide (y19.Kind_ = y17.Kind_) &&
                        (decide (y19.Text_ = y17.Text_) &&
                          (decide (y19.Num_ = y17.Num_) &&
                            (decide
                                (y19.At_ =
                                  IntKind.i64.wrap
                                    (y17.At_ + IntKind.i64.wrap ((↑(ByteArray.size y15.fst) : Int) + 1))) &&
                              true))))) =
                    true then
                some (Step.done (Sum.inl false))
              else
                some
                  (Step.next
                    (y15.fst, y15.snd.fst, y15.snd.snd.fst, IntKind.i64.wrap (y15.snd.snd.snd.fst + 1),
                      y15.snd.snd.snd.snd))
    else some (Step.done (Sum.inr ()))
noncomputable def m_lychgatelaw01_LexJoined' (f15 : ByteArray → Option (Int × Int × Sl T_lex_Token)) (f22 : Unit → Option Bool) (x : ByteArray × ByteArray) : Option Bool :=
  (f15 x.fst).bind fun (y0 : Int × Int × Sl T_lex_Token) =>
    (f15 x.snd).bind fun (y1 : Int × Int × Sl T_lex_Token) =>
      ((f22 ()).bind fun (y2 : Bool) =>
            if (!y2) = true then some (x.fst, x.snd, true, y0.snd.snd, y1.snd.snd)
            else
              if decide (y0.snd.fst ≠ 0) = true then
                some (x.fst, x.snd, true, y0.snd.snd, y1.snd.snd)
              else
                if decide (y1.snd.fst ≠ 0) = true then
                  some (x.fst, x.snd, true, y0.snd.snd, y1.snd.snd)
                else
                  some
                    (x.fst, x.snd,
                      decide
                        (16384 <
                          IntKind.i64.wrap
                            (IntKind.i64.wrap ((↑(ByteArray.size x.fst) : Int) + (↑(ByteArray.size x.snd) : Int)) +
                              1)),
                      y0.snd.snd, y1.snd.snd)).bind
        fun (y3 : ByteArray × ByteArray × Bool × Sl T_lex_Token × Sl T_lex_Token) =>
        if y3.snd.snd.fst = true then (f22 ()).bind fun (y4 : Bool) => some y4
        else
          bif !false && decide (ByteArray.size y3.fst + 1 ≤ 9223372036854775807) then
            bif
                !false &&
                  decide
                    ((y3.fst ++ lit [10]).size + ByteArray.size y3.snd.fst ≤ 9223372036854775807) then
              (f15 (y3.fst ++ lit [10] ++ y3.snd.fst)).bind
                fun (y5 : Int × Int × Sl T_lex_Token) =>
                (if decide (y5.snd.fst ≠ 0) = true then
                      some (y3.fst, true, y3.snd.snd.snd.fst, y3.snd.snd.snd.snd, y5.snd.snd)
                    else
                      some
                        (y3.fst,
                          decide
                            (Sl.len y5.snd.snd ≠
                              IntKind.i64.wrap
                                (IntKind.i64.wrap (Sl.len y3.snd.snd.snd.fst + Sl.len y3.snd.snd.snd.snd) -
                                  1)),
                          y3.snd.snd.snd.fst, y3.snd.snd.snd.snd, y5.snd.snd)).bind
                  fun
                    (y6 :
                      ByteArray ×
                        Bool × Sl T_lex_Token × Sl T_lex_Token × Sl T_lex_Token) =>
                  if y6.snd.fst = true then some false
                  else
                    (gslice y6.snd.snd.fst 0 (IntKind.i64.wrap (Sl.len y6.snd.snd.fst - 1))).bind
                      fun (y7 : Sl T_lex_Token) =>
                      (lpO (l0_lychgatelaw01_LexJoined f15 f22) (y6.fst, y6.snd.snd.fst, y7, y7.len, 0, y6.snd.snd.snd)).bind
                        fun
                          (y12 :
                            Bool ⊕
                              ByteArray ×
                                Sl T_lex_Token × Sl T_lex_Token × Sl T_lex_Token) =>
                        Sum.elim (fun (y13 : Bool) => some y13)
                          (fun
                              (y14 :
                                ByteArray ×
                                  Sl T_lex_Token × Sl T_lex_Token × Sl T_lex_Token) =>
                            (lpO (l1_lychgatelaw01_LexJoined f15 f22)
                                  (y14.fst, y14.snd.fst, Sl.len y14.snd.snd.fst, 0, y14.snd.snd.snd,
                                    y14.snd.snd.fst)).bind
                              fun (y20 : Bool ⊕ Unit) =>
                              Sum.elim (fun (y21 : Bool) => some y21) (fun (y22 : Unit) => some true)
                                y20)
                          y12
            else none
          else none
noncomputable def m_lychgatelaw01_LexJoined : (ByteArray × ByteArray) → Option Bool := m_lychgatelaw01_LexJoined' m_lex_Tokens m_lychgatelaw01_wakes
theorem e_lychgatelaw01_LexJoined : @Eq ((ByteArray × ByteArray) → Option Bool) F29 m_lychgatelaw01_LexJoined := (by kernel_rfl : @Eq ((ByteArray × ByteArray) → Option Bool) F29 (m_lychgatelaw01_LexJoined' F15 F22)).trans (congr (congrArg m_lychgatelaw01_LexJoined' e_lex_Tokens) e_lychgatelaw01_wakes)
/-- lychgate/lex.IsName -/
noncomputable def m_lex_IsName' (f5 : Int → Option Bool) (f8 : ByteArray × Int → Option Int) (f9 : ByteArray → Option Bool) (x : ByteArray) : Option Bool :=
  (if decide (x ≠ lit []) = true then
        (gsidx x 0).bind fun (y0 : Int) =>
          (f5 y0).bind fun (y1 : Bool) =>
            if y1 = true then
              (f8 (x, 0)).bind fun (y2 : Int) =>
                if decide (y2 = (↑x.size : Int)) = true then
                  if decide ((↑x.size : Int) ≤ 16) = true then
                    (f9 x).bind fun (y3 : Bool) => some !y3
                  else some false
                else some false
            else some false
      else some false).bind
    fun (y4 : Bool) => some y4
noncomputable def m_lex_IsName : ByteArray → Option Bool := m_lex_IsName' m_lex_letter m_lex_run_within m_lex_IsKey
theorem e_lex_IsName : @Eq (ByteArray → Option Bool) F30 m_lex_IsName := (by kernel_rfl : @Eq (ByteArray → Option Bool) F30 (m_lex_IsName' F5 F8 F9)).trans (congr (congr (congrArg m_lex_IsName' e_lex_letter) e_lex_run_within) e_lex_IsKey)
/-- lychgate/lychgateref01.IsName -/
noncomputable def l0_lychgateref01_IsName (f16 : Int → Option Bool) (f17 : Int → Option Bool) (f18 : ByteArray → Option Bool) : ByteArray × Int → Option (Step (ByteArray × Int) (Bool ⊕ ByteArray)) :=
  fun (y3 : ByteArray × Int) =>
    if decide (y3.snd < (↑(ByteArray.size y3.fst) : Int)) = true then
      (gsidx y3.fst y3.snd).bind fun (y4 : Int) =>
        (f16 y4).bind fun (y5 : Bool) =>
          (gsidx y3.fst y3.snd).bind fun (y6 : Int) =>
            (f17 y6).bind fun (y7 : Bool) =>
              (if (!y5) = true then some (y3.fst, y3.snd, !y7)
                  else some (y3.fst, y3.snd, false)).bind
                fun (y8 : ByteArray × Int × Bool) =>
                if y8.snd.snd = true then some (Step.done (Sum.inl false))
                else some (Step.next (y8.fst, IntKind.i64.wrap (y8.snd.fst + 1)))
    else some (Step.done (Sum.inr y3.fst))
noncomputable def m_lychgateref01_IsName' (f16 : Int → Option Bool) (f17 : Int → Option Bool) (f18 : ByteArray → Option Bool) (x : ByteArray) : Option Bool :=
  (if decide ((↑x.size : Int) < 1) = true then some (x, true)
      else some (x, decide (16 < (↑x.size : Int)))).bind
    fun (y0 : ByteArray × Bool) =>
    if y0.snd = true then some false
    else
      (gsidx y0.fst 0).bind fun (y1 : Int) =>
        (f16 y1).bind fun (y2 : Bool) =>
          if (!y2) = true then some false
          else
            (lpO (l0_lychgateref01_IsName f16 f17 f18) (y0.fst, 0)).bind fun (y9 : Bool ⊕ ByteArray) =>
              Sum.elim (fun (y10 : Bool) => some y10)
                (fun (y11 : ByteArray) => (f18 y11).bind fun (y12 : Bool) => some !y12) y9
noncomputable def m_lychgateref01_IsName : ByteArray → Option Bool := m_lychgateref01_IsName' m_lychgateref01_letter m_lychgateref01_digit m_lychgateref01_IsKey
theorem e_lychgateref01_IsName : @Eq (ByteArray → Option Bool) F31 m_lychgateref01_IsName := (by kernel_rfl : @Eq (ByteArray → Option Bool) F31 (m_lychgateref01_IsName' F16 F17 F18)).trans (congr (congr (congrArg m_lychgateref01_IsName' e_lychgateref01_letter) e_lychgateref01_digit) e_lychgateref01_IsKey)
/-- lychgate/lychgatelaw01.LexNames -/
noncomputable def m_lychgatelaw01_LexNames' (f22 : Unit → Option Bool) (f30 : ByteArray → Option Bool) (f31 : ByteArray → Option Bool) (f9 : ByteArray → Option Bool) (f18 : ByteArray → Option Bool) (x : ByteArray) : Option Bool :=
  ((f22 ()).bind fun (y0 : Bool) =>
        if y0 = true then
          (f30 x).bind fun (y1 : Bool) =>
            (f31 x).bind fun (y2 : Bool) =>
              if (y1 == y2) = true then
                (f9 x).bind fun (y3 : Bool) =>
                  (f18 x).bind fun (y4 : Bool) =>
                    if (y3 == y4) = true then
                      (f30 x).bind fun (y5 : Bool) =>
                        if y5 = true then (f9 x).bind fun (y6 : Bool) => some !y6
                        else some !false
                    else some false
              else some false
        else some false).bind
    fun (y7 : Bool) => some y7
noncomputable def m_lychgatelaw01_LexNames : ByteArray → Option Bool := m_lychgatelaw01_LexNames' m_lychgatelaw01_wakes m_lex_IsName m_lychgateref01_IsName m_lex_IsKey m_lychgateref01_IsKey
theorem e_lychgatelaw01_LexNames : @Eq (ByteArray → Option Bool) F32 m_lychgatelaw01_LexNames := (by kernel_rfl : @Eq (ByteArray → Option Bool) F32 (m_lychgatelaw01_LexNames' F22 F30 F31 F9 F18)).trans (congr (congr (congr (congr (congrArg m_lychgatelaw01_LexNames' e_lychgatelaw01_wakes) e_lex_IsName) e_lychgateref01_IsName) e_lex_IsKey) e_lychgateref01_IsKey)
end Go.Px
