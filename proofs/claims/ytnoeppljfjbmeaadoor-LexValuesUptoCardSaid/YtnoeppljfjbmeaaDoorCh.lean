/- Part Ch: PxT01. -/
import Derived.Test.YtnoeppljfjbmeaaDoorProg
import Derived.Test.YtnoeppljfjbmeaaDoorA7
import Derived.Test.YtnoeppljfjbmeaaDoorSf
namespace Go.Px
open Go.Proofs
set_option linter.unusedVariables false
set_option maxRecDepth 100000
theorem mixedR : Tryd.prog.follows .mixedOrders = true := by kernel_rfl
def GLk : FS → Prop := fun σ => (∃ t p, σ 0 0 = some (.iface t p)) ∧ ∃ t p, σ 1 0 = some (.iface t p)
theorem glm {σ τ : FS} (h : σ.le τ) (g : GLk σ) : GLk τ := by
  obtain ⟨⟨t, p, a⟩, t', p', b⟩ := g
  exact ⟨⟨t, p, h _ _ _ a⟩, t', p', h _ _ _ b⟩
structure T_lex_Token where
  Kind_ : Int
  Text_ : ByteArray
  Num_ : Int
  At_ : Int
structure T_lychgateref01_Token where
  Kind_ : Int
  Text_ : ByteArray
  Num_ : Int
  At_ : Int
abbrev DT : List (Nat × Type) := [(35, T_lex_Token), (31, T_lychgateref01_Token), (5, Int)]
abbrev DD : Nat → Type := findD DT
def ET : List ((T : Nat) × TyE DD T) := [⟨35, true, [.int .i64, .str, .int .i64, .int .i64], fun (x : T_lex_Token) => (x.Kind_, x.Text_, x.Num_, x.At_, ()), fun (a0, a1, a2, a3, _) => some (show T_lex_Token from ⟨a0, a1, a2, a3⟩), fun x y h => by cases h; rfl⟩,
  ⟨31, true, [.int .i64, .str, .int .i64, .int .i64], fun (x : T_lychgateref01_Token) => (x.Kind_, x.Text_, x.Num_, x.At_, ()), fun (a0, a1, a2, a3, _) => some (show T_lychgateref01_Token from ⟨a0, a1, a2, a3⟩), fun x y h => by cases h; rfl⟩,
  ⟨5, false, [.int .u8], fun (x : Int) => (x, ()), fun (a0, _) => some (show Int from a0), fun x y h => by cases h; rfl⟩]
def CC : Cod := codOf DD ET GLk glm
/-! lychgate/lex.Tokens$1 | lex_Tokens_1 -/
def I0 : Sig := { ts := [(0, .int .u8)], es := [] }
def O0 : List (XK × Sig) := [(.ret, { ts := [(0, .bool)], es := [] })]
def H0 : Nat → Option Hint := hfind []
noncomputable def F0 (x : I0.ty CC) : Option (OutTy CC O0) := runA ⟨false⟩ [] lpO Tryd.prog Tryd.f19 1 I0 O0 H0 x
noncomputable def P0 : Spec CC := ⟨19, 1, I0, O0, F0⟩
theorem K0 : P0.OK Tryd.prog := runA_ok okNil mixedR lpO_OK H0 (by kernel_rfl) (by kernel_rfl) (by kernel_rfl) fun x => rfl
/-! lychgate/lex.run | lex_run_Tokens1 -/
def I1 : Sig := { ts := [(0, .str), (1, .int .i64), (2, .clo 19 [])], es := [] }
def O1 : List (XK × Sig) := [(.ret, { ts := [(0, .int .i64)], es := [] })]
def H1 : Nat → Option Hint := hfind [(4, .loop { ts := [(0, .str), (1, .int .i64), (2, .clo 19 [])], es := [] } [(.exit 0, { ts := [(1, .int .i64)], es := [] })]), (7, .cut [(.normal, { ts := [(0, .str), (1, .int .i64), (2, .clo 19 []), (17, .bool)], es := [] })])]
noncomputable def F1 (x : I1.ty CC) : Option (OutTy CC O1) := runA ⟨false⟩ [P0] lpO Tryd.prog Tryd.f18 1 I1 O1 H1 x
noncomputable def P1 : Spec CC := ⟨18, 1, I1, O1, F1⟩
theorem K1 : P1.OK Tryd.prog := runA_ok (okCons K0 okNil) mixedR lpO_OK H1 (by kernel_rfl) (by kernel_rfl) (by kernel_rfl) fun x => rfl
/-! lychgate/lex.digit | lex_digit -/
def I2 : Sig := { ts := [(0, .int .u8)], es := [] }
def O2 : List (XK × Sig) := [(.ret, { ts := [(0, .bool)], es := [] })]
def H2 : Nat → Option Hint := hfind [(3, .cut [(.normal, { ts := [(2, .bool)], es := [] })])]
noncomputable def F2 (x : I2.ty CC) : Option (OutTy CC O2) := runA ⟨false⟩ [] lpO Tryd.prog Tryd.f20 1 I2 O2 H2 x
noncomputable def P2 : Spec CC := ⟨20, 1, I2, O2, F2⟩
theorem K2 : P2.OK Tryd.prog := runA_ok okNil mixedR lpO_OK H2 (by kernel_rfl) (by kernel_rfl) (by kernel_rfl) fun x => rfl
/-! lychgate/lex.run | lex_run_digit -/
def I3 : Sig := { ts := [(0, .str), (1, .int .i64), (2, .clo 20 [])], es := [] }
def O3 : List (XK × Sig) := [(.ret, { ts := [(0, .int .i64)], es := [] })]
def H3 : Nat → Option Hint := hfind [(4, .loop { ts := [(0, .str), (1, .int .i64), (2, .clo 20 [])], es := [] } [(.exit 0, { ts := [(1, .int .i64)], es := [] })]), (7, .cut [(.normal, { ts := [(0, .str), (1, .int .i64), (2, .clo 20 []), (17, .bool)], es := [] })])]
noncomputable def F3 (x : I3.ty CC) : Option (OutTy CC O3) := runA ⟨false⟩ [P2] lpO Tryd.prog Tryd.f18 1 I3 O3 H3 x
noncomputable def P3 : Spec CC := ⟨18, 1, I3, O3, F3⟩
theorem K3 : P3.OK Tryd.prog := runA_ok (okCons K2 okNil) mixedR lpO_OK H3 (by kernel_rfl) (by kernel_rfl) (by kernel_rfl) fun x => rfl
/-! strconv.ParseInt | strconv_ParseInt -/
def I4 : Sig := { ts := [(0, .str), (1, .int .i64), (2, .int .i64)], es := [] }
def O4 : List (XK × Sig) := [(.ret, { ts := [(0, .int .i64), (1, .nili)], es := [] }), (.ret, { ts := [(0, .int .i64), (1, .ifc 60 (.und))], es := [] })]
def F4 (x : I4.ty CC) : Option (OutTy CC O4) := libParseInt x
def P4 : Spec CC := ⟨29, 2, I4, O4, F4⟩
theorem K4 : P4.OK Tryd.prog := spec_ParseInt (fn := Tryd.f29) (by kernel_rfl) (by kernel_rfl) (by kernel_rfl) (fun s hs v h w => Tryd.strconv_ParseInt_10_at64_ok s hs v h w) (fun s hs h w σ hg hw => by
    obtain ⟨⟨t, p, a⟩, _⟩ := hg
    refine (Tryd.strconv_ParseInt_10_at64_syntax s hs h _ w (hw 0 0 _ a) (.inr ⟨_, _, rfl⟩)).mono ?_
    rintro e w' ⟨N, rfl, _, _, hb⟩
    exact ⟨_, rfl, hb⟩) (fun s hs h w σ hg hw => by
    obtain ⟨_, t, p, a⟩ := hg
    refine (Tryd.strconv_ParseInt_10_at64_range s hs h _ w (hw 1 0 _ a) (.inr ⟨_, _, rfl⟩)).mono ?_
    rintro e w' ⟨N, rfl, _, _, hb⟩
    exact ⟨_, rfl, hb⟩)
/-! lychgate/lex.letter | lex_letter -/
def I5 : Sig := { ts := [(0, .int .u8)], es := [] }
def O5 : List (XK × Sig) := [(.ret, { ts := [(0, .bool)], es := [] })]
def H5 : Nat → Option Hint := hfind [(3, .cut [(.normal, { ts := [(2, .bool)], es := [] })])]
noncomputable def F5 (x : I5.ty CC) : Option (OutTy CC O5) := runA ⟨false⟩ [] lpO Tryd.prog Tryd.f22 1 I5 O5 H5 x
noncomputable def P5 : Spec CC := ⟨22, 1, I5, O5, F5⟩
theorem K5 : P5.OK Tryd.prog := runA_ok okNil mixedR lpO_OK H5 (by kernel_rfl) (by kernel_rfl) (by kernel_rfl) fun x => rfl
/-! lychgate/lex.number | lex_number -/
def I6 : Sig := { ts := [(0, .str), (1, .int .i64), (2, .int .i64)], es := [] }
def O6 : List (XK × Sig) := [(.ret, { ts := [(0, .val 35), (1, .int .i64)], es := [] })]
def H6 : Nat → Option Hint := hfind [(5, .cut [(.normal, { ts := [(0, .str), (1, .int .i64), (2, .int .i64), (6, .pc 0 0), (8, .str), (9, .int .i64), (10, .nili)], es := [.cell [.int .i64, .str, .int .i64, .int .i64]] }), (.normal, { ts := [(0, .str), (1, .int .i64), (2, .int .i64), (6, .pc 0 0), (8, .str), (9, .int .i64), (10, .ifc 60 (.und))], es := [.cell [.int .i64, .str, .int .i64, .int .i64]] })])]
noncomputable def F6 (x : I6.ty CC) : Option (OutTy CC O6) := runA ⟨false⟩ [P4, P5] lpO Tryd.prog Tryd.f21 2 I6 O6 H6 x
noncomputable def P6 : Spec CC := ⟨21, 2, I6, O6, F6⟩
theorem K6 : P6.OK Tryd.prog := runA_ok (okCons K4 (okCons K5 okNil)) mixedR lpO_OK H6 (by kernel_rfl) (by kernel_rfl) (by kernel_rfl) fun x => rfl
/-! lychgate/lex.within | lex_within -/
def I7 : Sig := { ts := [(0, .int .u8)], es := [] }
def O7 : List (XK × Sig) := [(.ret, { ts := [(0, .bool)], es := [] })]
def H7 : Nat → Option Hint := hfind [(3, .cut [(.normal, { ts := [(2, .bool)], es := [] })])]
noncomputable def F7 (x : I7.ty CC) : Option (OutTy CC O7) := runA ⟨false⟩ [P5, P2] lpO Tryd.prog Tryd.f24 1 I7 O7 H7 x
noncomputable def P7 : Spec CC := ⟨24, 1, I7, O7, F7⟩
theorem K7 : P7.OK Tryd.prog := runA_ok (okCons K5 (okCons K2 okNil)) mixedR lpO_OK H7 (by kernel_rfl) (by kernel_rfl) (by kernel_rfl) fun x => rfl
/-! lychgate/lex.run | lex_run_within -/
def I8 : Sig := { ts := [(0, .str), (1, .int .i64), (2, .clo 24 [])], es := [] }
def O8 : List (XK × Sig) := [(.ret, { ts := [(0, .int .i64)], es := [] })]
def H8 : Nat → Option Hint := hfind [(4, .loop { ts := [(0, .str), (1, .int .i64), (2, .clo 24 [])], es := [] } [(.exit 0, { ts := [(1, .int .i64)], es := [] })]), (7, .cut [(.normal, { ts := [(0, .str), (1, .int .i64), (2, .clo 24 []), (17, .bool)], es := [] })])]
noncomputable def F8 (x : I8.ty CC) : Option (OutTy CC O8) := runA ⟨false⟩ [P7] lpO Tryd.prog Tryd.f18 1 I8 O8 H8 x
noncomputable def P8 : Spec CC := ⟨18, 1, I8, O8, F8⟩
theorem K8 : P8.OK Tryd.prog := runA_ok (okCons K7 okNil) mixedR lpO_OK H8 (by kernel_rfl) (by kernel_rfl) (by kernel_rfl) fun x => rfl
/-! lychgate/lex.IsKey | lex_IsKey -/
def I9 : Sig := { ts := [(0, .str)], es := [] }
def O9 : List (XK × Sig) := [(.ret, { ts := [(0, .bool)], es := [] })]
def H9 : Nat → Option Hint := hfind [(9, .cut [(.normal, { ts := [(4, .bool)], es := [] })]), (13, .cut [(.normal, { ts := [(4, .bool)], es := [] })]), (17, .cut [(.normal, { ts := [(4, .bool)], es := [] })]), (21, .cut [(.normal, { ts := [(4, .bool)], es := [] })]), (25, .cut [(.normal, { ts := [(4, .bool)], es := [] })]), (29, .cut [(.normal, { ts := [(4, .bool)], es := [] })]), (33, .cut [(.normal, { ts := [(4, .bool)], es := [] })]), (37, .cut [(.normal, { ts := [(4, .bool)], es := [] })]), (41, .cut [(.normal, { ts := [(4, .bool)], es := [] })]), (45, .cut [(.normal, { ts := [(4, .bool)], es := [] })]), (49, .cut [(.normal, { ts := [(4, .bool)], es := [] })]), (53, .cut [(.normal, { ts := [(4, .bool)], es := [] })]), (57, .cut [(.normal, { ts := [(4, .bool)], es := [] })]), (61, .cut [(.normal, { ts := [(4, .bool)], es := [] })]), (65, .cut [(.normal, { ts := [(4, .bool)], es := [] })]), (69, .cut [(.normal, { ts := [(4, .bool)], es := [] })]), (73, .cut [(.normal, { ts := [(4, .bool)], es := [] })]), (77, .cut [(.normal, { ts := [(4, .bool)], es := [] })]), (81, .cut [(.normal, { ts := [(4, .bool)], es := [] })])]
noncomputable def F9 (x : I9.ty CC) : Option (OutTy CC O9) := runA ⟨false⟩ [] lpO Tryd.prog Tryd.f16 1 I9 O9 H9 x
noncomputable def P9 : Spec CC := ⟨16, 1, I9, O9, F9⟩
theorem K9 : P9.OK Tryd.prog := runA_ok okNil mixedR lpO_OK H9 (by kernel_rfl) (by kernel_rfl) (by kernel_rfl) fun x => rfl
/-! lychgate/lex.word | lex_word -/
def I10 : Sig := { ts := [(0, .str), (1, .int .i64), (2, .int .i64)], es := [] }
def O10 : List (XK × Sig) := [(.ret, { ts := [(0, .val 35), (1, .int .i64)], es := [] })]
def H10 : Nat → Option Hint := hfind [(15, .cut [(.normal, { ts := [(6, .pc 0 0), (8, .pc 1 0)], es := [.cell [.int .i64, .str, .int .i64, .int .i64], .cell [.int .i64, .str, .int .i64, .int .i64]] })])]
noncomputable def F10 (x : I10.ty CC) : Option (OutTy CC O10) := runA ⟨false⟩ [P9] lpO Tryd.prog Tryd.f23 2 I10 O10 H10 x
noncomputable def P10 : Spec CC := ⟨23, 2, I10, O10, F10⟩
theorem K10 : P10.OK Tryd.prog := runA_ok (okCons K9 okNil) mixedR lpO_OK H10 (by kernel_rfl) (by kernel_rfl) (by kernel_rfl) fun x => rfl
/-! internal/stringslite.HasPrefix | internal_stringslite_HasPrefix -/
def I11 : Sig := { ts := [(0, .str), (1, .str)], es := [] }
def O11 : List (XK × Sig) := [(.ret, { ts := [(0, .bool)], es := [] })]
def H11 : Nat → Option Hint := hfind [(3, .cut [(.normal, { ts := [(4, .bool)], es := [] })])]
noncomputable def F11 (x : I11.ty CC) : Option (OutTy CC O11) := runA ⟨false⟩ [] lpO Tryd.prog Tryd.f35 1 I11 O11 H11 x
noncomputable def P11 : Spec CC := ⟨35, 1, I11, O11, F11⟩
theorem K11 : P11.OK Tryd.prog := runA_ok okNil mixedR lpO_OK H11 (by kernel_rfl) (by kernel_rfl) (by kernel_rfl) fun x => rfl
/-! strings.HasPrefix | strings_HasPrefix -/
def I12 : Sig := { ts := [(0, .str), (1, .str)], es := [] }
def O12 : List (XK × Sig) := [(.ret, { ts := [(0, .bool)], es := [] })]
def H12 : Nat → Option Hint := hfind []
noncomputable def F12 (x : I12.ty CC) : Option (OutTy CC O12) := runA ⟨false⟩ [P11] lpO Tryd.prog Tryd.f30 1 I12 O12 H12 x
noncomputable def P12 : Spec CC := ⟨30, 1, I12, O12, F12⟩
theorem K12 : P12.OK Tryd.prog := runA_ok (okCons K11 okNil) mixedR lpO_OK H12 (by kernel_rfl) (by kernel_rfl) (by kernel_rfl) fun x => rfl
/-! strings.IndexByte | strings_IndexByte -/
def I13 : Sig := { ts := [(0, .str), (1, .int .u8)], es := [] }
def O13 : List (XK × Sig) := [(.ret, { ts := [(0, .int .i64)], es := [] })]
def F13 (x : I13.ty CC) : Option (OutTy CC O13) := libIndexByte x
def P13 : Spec CC := ⟨31, 1, I13, O13, F13⟩
theorem K13 : P13.OK Tryd.prog := spec_IndexByte (fn := Tryd.f31) (by kernel_rfl) (by kernel_rfl) (by kernel_rfl) fun s c w => Tryd.strings_IndexByte s c w
/-! lychgate/lex.sign | lex_sign -/
def I14 : Sig := { ts := [(0, .str)], es := [] }
def O14 : List (XK × Sig) := [(.ret, { ts := [(0, .str)], es := [] })]
def H14 : Nat → Option Hint := hfind [(6, .loop { ts := [(0, .str), (5, .agg [.str, .str, .str]), (6, .int .i64)], es := [] } [(.ret, { ts := [(2, .str)], es := [] }), (.exit 0, { ts := [(0, .str)], es := [] })])]
noncomputable def F14 (x : I14.ty CC) : Option (OutTy CC O14) := runA ⟨false⟩ [P12, P13] lpO Tryd.prog Tryd.f25 1 I14 O14 H14 x
noncomputable def P14 : Spec CC := ⟨25, 1, I14, O14, F14⟩
theorem K14 : P14.OK Tryd.prog := runA_ok (okCons K12 (okCons K13 okNil)) mixedR lpO_OK H14 (by kernel_rfl) (by kernel_rfl) (by kernel_rfl) fun x => rfl
/-! lychgate/lex.Tokens | lex_Tokens -/
def I15 : Sig := { ts := [(0, .str)], es := [] }
def O15 : List (XK × Sig) := [(.ret, { ts := [(0, .row 0), (1, .int .i64), (2, .int .i64)], es := [.row 35] })]
def H15 : Nat → Option Hint := hfind [(2, .cut [(.ret, { ts := [(2, .row 0), (3, .int .i64), (4, .int .i64)], es := [.row 35] })]), (19, .loop { ts := [(0, .str), (5, .row 0), (6, .int .i64)], es := [.row 35] } [(.ret, { ts := [(2, .nils), (3, .int .i64), (4, .int .i64)], es := [] }), (.exit 0, { ts := [(0, .str), (5, .row 0)], es := [.row 35] })]), (26, .cut [(.normal, { ts := [(0, .str), (5, .row 0), (6, .int .i64)], es := [.row 35] }), (.ret, { ts := [(2, .nils), (3, .int .i64), (4, .int .i64)], es := [] })]), (36, .cut [(.normal, { ts := [(0, .str), (5, .row 0), (6, .int .i64), (7, .pc 1 0), (8, .int .i64), (9, .int .u8), (29, .bool)], es := [.row 35, .cell [.int .i64, .str, .int .i64, .int .i64]] })]), (37, .cut [(.exit 1, { ts := [(0, .str), (5, .row 0), (6, .int .i64)], es := [.row 35] }), (.normal, { ts := [(0, .str), (5, .row 0), (6, .int .i64), (7, .pc 1 0), (8, .int .i64)], es := [.row 35, .cell [.int .i64, .str, .int .i64, .int .i64]] })]), (49, .cut [(.normal, { ts := [(0, .str), (5, .row 0), (6, .int .i64), (7, .pc 1 0), (8, .int .i64)], es := [.row 35, .cell [.int .i64, .str, .int .i64, .int .i64]] })]), (53, .cut [(.normal, { ts := [(0, .str), (5, .row 0), (6, .int .i64), (7, .pc 1 0), (8, .int .i64)], es := [.row 35, .cell [.int .i64, .str, .int .i64, .int .i64]] })]), (59, .cut [(.normal, { ts := [(0, .str), (5, .row 0), (6, .int .i64), (7, .pc 1 0), (8, .int .i64)], es := [.row 35, .cell [.int .i64, .str, .int .i64, .int .i64]] })])]
noncomputable def F15 (x : I15.ty CC) : Option (OutTy CC O15) := runA ⟨false⟩ [P1, P2, P3, P6, P5, P8, P10, P14] lpO Tryd.prog Tryd.f10 3 I15 O15 H15 x
noncomputable def P15 : Spec CC := ⟨10, 3, I15, O15, F15⟩
theorem K15 : P15.OK Tryd.prog := runA_ok (okCons K1 (okCons K2 (okCons K3 (okCons K6 (okCons K5 (okCons K8 (okCons K10 (okCons K14 okNil)))))))) mixedR lpO_OK H15 (by kernel_rfl) (by kernel_rfl) (by kernel_rfl) fun x => rfl
/-! lychgate/lychgateref01.letter | lychgateref01_letter -/
def I16 : Sig := { ts := [(0, .int .u8)], es := [] }
def O16 : List (XK × Sig) := [(.ret, { ts := [(0, .bool)], es := [] })]
def H16 : Nat → Option Hint := hfind [(3, .cut [(.normal, { ts := [(2, .bool)], es := [] })])]
noncomputable def F16 (x : I16.ty CC) : Option (OutTy CC O16) := runA ⟨false⟩ [] lpO Tryd.prog Tryd.f27 1 I16 O16 H16 x
noncomputable def P16 : Spec CC := ⟨27, 1, I16, O16, F16⟩
theorem K16 : P16.OK Tryd.prog := runA_ok okNil mixedR lpO_OK H16 (by kernel_rfl) (by kernel_rfl) (by kernel_rfl) fun x => rfl
/-! lychgate/lychgateref01.digit | lychgateref01_digit -/
def I17 : Sig := { ts := [(0, .int .u8)], es := [] }
def O17 : List (XK × Sig) := [(.ret, { ts := [(0, .bool)], es := [] })]
def H17 : Nat → Option Hint := hfind [(3, .cut [(.normal, { ts := [(2, .bool)], es := [] })])]
noncomputable def F17 (x : I17.ty CC) : Option (OutTy CC O17) := runA ⟨false⟩ [] lpO Tryd.prog Tryd.f28 1 I17 O17 H17 x
noncomputable def P17 : Spec CC := ⟨28, 1, I17, O17, F17⟩
theorem K17 : P17.OK Tryd.prog := runA_ok okNil mixedR lpO_OK H17 (by kernel_rfl) (by kernel_rfl) (by kernel_rfl) fun x => rfl
/-! lychgate/lychgateref01.IsKey | lychgateref01_IsKey -/
def I18 : Sig := { ts := [(0, .str)], es := [] }
def O18 : List (XK × Sig) := [(.ret, { ts := [(0, .bool)], es := [] })]
def H18 : Nat → Option Hint := hfind [(9, .cut [(.normal, { ts := [(4, .bool)], es := [] })]), (13, .cut [(.normal, { ts := [(4, .bool)], es := [] })]), (17, .cut [(.normal, { ts := [(4, .bool)], es := [] })]), (21, .cut [(.normal, { ts := [(4, .bool)], es := [] })]), (25, .cut [(.normal, { ts := [(4, .bool)], es := [] })]), (29, .cut [(.normal, { ts := [(4, .bool)], es := [] })]), (33, .cut [(.normal, { ts := [(4, .bool)], es := [] })]), (37, .cut [(.normal, { ts := [(4, .bool)], es := [] })]), (41, .cut [(.normal, { ts := [(4, .bool)], es := [] })]), (45, .cut [(.normal, { ts := [(4, .bool)], es := [] })]), (49, .cut [(.normal, { ts := [(4, .bool)], es := [] })]), (53, .cut [(.normal, { ts := [(4, .bool)], es := [] })]), (57, .cut [(.normal, { ts := [(4, .bool)], es := [] })]), (61, .cut [(.normal, { ts := [(4, .bool)], es := [] })]), (65, .cut [(.normal, { ts := [(4, .bool)], es := [] })]), (69, .cut [(.normal, { ts := [(4, .bool)], es := [] })]), (73, .cut [(.normal, { ts := [(4, .bool)], es := [] })]), (77, .cut [(.normal, { ts := [(4, .bool)], es := [] })]), (81, .cut [(.normal, { ts := [(4, .bool)], es := [] })])]
noncomputable def F18 (x : I18.ty CC) : Option (OutTy CC O18) := runA ⟨false⟩ [] lpO Tryd.prog Tryd.f17 1 I18 O18 H18 x
noncomputable def P18 : Spec CC := ⟨17, 1, I18, O18, F18⟩
theorem K18 : P18.OK Tryd.prog := runA_ok okNil mixedR lpO_OK H18 (by kernel_rfl) (by kernel_rfl) (by kernel_rfl) fun x => rfl
/-! lychgate/lychgateref01.sign | lychgateref01_sign -/
def I19 : Sig := { ts := [(0, .str), (1, .int .i64)], es := [] }
def O19 : List (XK × Sig) := [(.ret, { ts := [(0, .int .i64)], es := [] })]
def H19 : Nat → Option Hint := hfind [(7, .cut [(.normal, { ts := [(0, .str), (1, .int .i64), (5, .str)], es := [] })]), (12, .cut [(.normal, { ts := [(0, .str), (1, .int .i64), (25, .bool)], es := [] })]), (25, .cut [(.normal, { ts := [(29, .bool)], es := [] })]), (29, .cut [(.normal, { ts := [(29, .bool)], es := [] })]), (33, .cut [(.normal, { ts := [(29, .bool)], es := [] })]), (37, .cut [(.normal, { ts := [(29, .bool)], es := [] })]), (41, .cut [(.normal, { ts := [(29, .bool)], es := [] })]), (45, .cut [(.normal, { ts := [(29, .bool)], es := [] })]), (49, .cut [(.normal, { ts := [(29, .bool)], es := [] })]), (53, .cut [(.normal, { ts := [(29, .bool)], es := [] })]), (57, .cut [(.normal, { ts := [(29, .bool)], es := [] })]), (61, .cut [(.normal, { ts := [(29, .bool)], es := [] })]), (65, .cut [(.normal, { ts := [(29, .bool)], es := [] })]), (69, .cut [(.normal, { ts := [(29, .bool)], es := [] })]), (73, .cut [(.normal, { ts := [(29, .bool)], es := [] })])]
noncomputable def F19 (x : I19.ty CC) : Option (OutTy CC O19) := runA ⟨false⟩ [] lpO Tryd.prog Tryd.f32 1 I19 O19 H19 x
noncomputable def P19 : Spec CC := ⟨32, 1, I19, O19, F19⟩
theorem K19 : P19.OK Tryd.prog := runA_ok okNil mixedR lpO_OK H19 (by kernel_rfl) (by kernel_rfl) (by kernel_rfl) fun x => rfl
/-! lychgate/lychgateref01.one | lychgateref01_one -/
def I20 : Sig := { ts := [(0, .str), (1, .int .i64)], es := [] }
def O20 : List (XK × Sig) := [(.ret, { ts := [(0, .val 31), (1, .int .i64)], es := [] })]
def H20 : Nat → Option Hint := hfind [(13, .cut [(.ret, { ts := [(4, .pc 0 0), (5, .int .i64)], es := [.cell [.int .i64, .str, .int .i64, .int .i64]] }), (.normal, { ts := [(0, .str), (1, .int .i64), (4, .pc 0 0), (6, .pc 1 0), (7, .int .i64), (9, .bool)], es := [.cell [.int .i64, .str, .int .i64, .int .i64], .cell [.int .i64, .str, .int .i64, .int .i64]] })]), (16, .loop { ts := [(0, .str), (1, .int .i64), (4, .pc 0 0), (6, .pc 1 0), (7, .int .i64)], es := [.cell [.int .i64, .str, .int .i64, .int .i64], .cell [.int .i64, .str, .int .i64, .int .i64]] } [(.exit 0, { ts := [(0, .str), (1, .int .i64), (4, .pc 0 0), (6, .pc 1 0), (7, .int .i64)], es := [.cell [.int .i64, .str, .int .i64, .int .i64], .cell [.int .i64, .str, .int .i64, .int .i64]] })]), (30, .cut [(.normal, { ts := [(0, .str), (1, .int .i64), (4, .pc 0 0), (6, .pc 1 0), (7, .int .i64), (47, .bool)], es := [.cell [.int .i64, .str, .int .i64, .int .i64], .cell [.int .i64, .str, .int .i64, .int .i64]] })]), (52, .cut [(.normal, { ts := [(4, .pc 0 0), (6, .pc 1 0)], es := [.cell [.int .i64, .str, .int .i64, .int .i64], .cell [.int .i64, .str, .int .i64, .int .i64]] })]), (62, .cut [(.ret, { ts := [(4, .pc 0 0), (5, .int .i64)], es := [.cell [.int .i64, .str, .int .i64, .int .i64]] }), (.normal, { ts := [(0, .str), (1, .int .i64), (4, .pc 0 0), (6, .pc 1 0)], es := [.cell [.int .i64, .str, .int .i64, .int .i64], .cell [.int .i64, .str, .int .i64, .int .i64]] })]), (69, .loop { ts := [(0, .str), (1, .int .i64), (4, .pc 0 0), (6, .pc 1 0), (7, .int .i64), (13, .int .i64), (14, .bool)], es := [.cell [.int .i64, .str, .int .i64, .int .i64], .cell [.int .i64, .str, .int .i64, .int .i64]] } [(.exit 2, { ts := [(0, .str), (1, .int .i64), (4, .pc 0 0), (6, .pc 1 0), (7, .int .i64), (13, .int .i64), (14, .bool)], es := [.cell [.int .i64, .str, .int .i64, .int .i64], .cell [.int .i64, .str, .int .i64, .int .i64]] })]), (88, .cut [(.normal, { ts := [(0, .str), (1, .int .i64), (4, .pc 0 0), (6, .pc 1 0), (7, .int .i64), (13, .int .i64), (14, .bool)], es := [.cell [.int .i64, .str, .int .i64, .int .i64], .cell [.int .i64, .str, .int .i64, .int .i64]] })]), (94, .cut [(.normal, { ts := [(0, .str), (1, .int .i64), (4, .pc 0 0), (6, .pc 1 0), (7, .int .i64), (13, .int .i64), (14, .bool)], es := [.cell [.int .i64, .str, .int .i64, .int .i64], .cell [.int .i64, .str, .int .i64, .int .i64]] })]), (103, .cut [(.normal, { ts := [(0, .str), (1, .int .i64), (4, .pc 0 0), (6, .pc 1 0), (7, .int .i64), (13, .int .i64), (14, .bool), (16, .bool)], es := [.cell [.int .i64, .str, .int .i64, .int .i64], .cell [.int .i64, .str, .int .i64, .int .i64]] })]), (108, .cut [(.normal, { ts := [(0, .str), (1, .int .i64), (4, .pc 0 0), (6, .pc 1 0), (7, .int .i64), (13, .int .i64), (115, .bool)], es := [.cell [.int .i64, .str, .int .i64, .int .i64], .cell [.int .i64, .str, .int .i64, .int .i64]] })])]
noncomputable def F20 (x : I20.ty CC) : Option (OutTy CC O20) := runA ⟨false⟩ [P16, P17, P18, P19] lpO Tryd.prog Tryd.f26 2 I20 O20 H20 x
noncomputable def P20 : Spec CC := ⟨26, 2, I20, O20, F20⟩
theorem K20 : P20.OK Tryd.prog := runA_ok (okCons K16 (okCons K17 (okCons K18 (okCons K19 okNil)))) mixedR lpO_OK H20 (by kernel_rfl) (by kernel_rfl) (by kernel_rfl) fun x => rfl
/-! lychgate/lychgateref01.Tokens | lychgateref01_Tokens -/
def I21 : Sig := { ts := [(0, .str)], es := [] }
def O21 : List (XK × Sig) := [(.ret, { ts := [(0, .row 0), (1, .int .i64), (2, .int .i64)], es := [.row 31] })]
def H21 : Nat → Option Hint := hfind [(16, .loop { ts := [(0, .str), (5, .row 0), (6, .int .i64)], es := [.row 31] } [(.ret, { ts := [(2, .nils), (3, .int .i64), (4, .int .i64)], es := [] }), (.exit 0, { ts := [(0, .str), (5, .row 0)], es := [.row 31] })]), (23, .cut [(.normal, { ts := [(0, .str), (5, .row 0), (6, .int .i64)], es := [.row 31] }), (.ret, { ts := [(2, .nils), (3, .int .i64), (4, .int .i64)], es := [] })]), (26, .cut [(.normal, { ts := [(0, .str), (5, .row 0), (6, .int .i64), (25, .bool)], es := [.row 31] })]), (38, .loop { ts := [(0, .str), (5, .row 0), (6, .int .i64)], es := [.row 31] } [(.exit 2, { ts := [(0, .str), (5, .row 0), (6, .int .i64)], es := [.row 31] })]), (41, .cut [(.normal, { ts := [(0, .str), (5, .row 0), (6, .int .i64), (41, .bool)], es := [.row 31] })])]
noncomputable def F21 (x : I21.ty CC) : Option (OutTy CC O21) := runA ⟨false⟩ [P20] lpO Tryd.prog Tryd.f11 3 I21 O21 H21 x
noncomputable def P21 : Spec CC := ⟨11, 3, I21, O21, F21⟩
theorem K21 : P21.OK Tryd.prog := runA_ok (okCons K20 okNil) mixedR lpO_OK H21 (by kernel_rfl) (by kernel_rfl) (by kernel_rfl) fun x => rfl
/-! lychgate/lychgatelaw01.wakes | lychgatelaw01_wakes -/
def I22 : Sig := { ts := [], es := [] }
def O22 : List (XK × Sig) := [(.ret, { ts := [(0, .bool)], es := [] })]
def H22 : Nat → Option Hint := hfind [(5, .cut [(.normal, { ts := [(0, .bool)], es := [] })])]
noncomputable def F22 (x : I22.ty CC) : Option (OutTy CC O22) := runA ⟨false⟩ [P15] lpO Tryd.prog Tryd.f12 1 I22 O22 H22 x
noncomputable def P22 : Spec CC := ⟨12, 1, I22, O22, F22⟩
theorem K22 : P22.OK Tryd.prog := runA_ok (okCons K15 okNil) mixedR lpO_OK H22 (by kernel_rfl) (by kernel_rfl) (by kernel_rfl) fun x => rfl
/-! lychgate/lychgatelaw01.ref | lychgatelaw01_ref -/
def I23 : Sig := { ts := [(0, .val 35)], es := [] }
def O23 : List (XK × Sig) := [(.ret, { ts := [(0, .val 31)], es := [] })]
def H23 : Nat → Option Hint := hfind []
noncomputable def F23 (x : I23.ty CC) : Option (OutTy CC O23) := runA ⟨false⟩ [] lpO Tryd.prog Tryd.f13 1 I23 O23 H23 x
noncomputable def P23 : Spec CC := ⟨13, 1, I23, O23, F23⟩
theorem K23 : P23.OK Tryd.prog := runA_ok okNil mixedR lpO_OK H23 (by kernel_rfl) (by kernel_rfl) (by kernel_rfl) fun x => rfl
/-! lychgate/lychgatelaw01.LexTokens | lychgatelaw01_LexTokens -/
def I24 : Sig := { ts := [(0, .str)], es := [] }
def O24 : List (XK × Sig) := [(.ret, { ts := [(0, .bool)], es := [] })]
def H24 : Nat → Option Hint := hfind [(8, .cut [(.normal, { ts := [(3, .row 0), (6, .row 1), (40, .bool)], es := [.row 35, .row 31] })]), (18, .loop { ts := [(3, .row 0), (6, .row 1), (42, .int .i64), (43, .int .i64)], es := [.row 35, .row 31] } [(.ret, { ts := [(2, .bool)], es := [] }), (.exit 0, { ts := [], es := [] })]), (30, .draw [(0, true), (1, true), (2, true), (3, true), (5, true), (6, true), (7, true), (8, true), (4, false), (9, true)] [])]
noncomputable def F24 (x : I24.ty CC) : Option (OutTy CC O24) := runA ⟨false⟩ [P15, P21, P22, P23] lpO Tryd.prog Tryd.f3 1 I24 O24 H24 x
noncomputable def P24 : Spec CC := ⟨3, 1, I24, O24, F24⟩
theorem K24 : P24.OK Tryd.prog := runA_ok (okCons K15 (okCons K21 (okCons K22 (okCons K23 okNil)))) mixedR lpO_OK H24 (by kernel_rfl) (by kernel_rfl) (by kernel_rfl) fun x => rfl
/-! lychgate/lychgatelaw01.LexCovers | lychgatelaw01_LexCovers -/
def I25 : Sig := { ts := [(0, .str)], es := [] }
def O25 : List (XK × Sig) := [(.ret, { ts := [(0, .bool)], es := [] })]
def H25 : Nat → Option Hint := hfind [(6, .cut [(.normal, { ts := [(0, .str), (3, .row 0), (23, .bool)], es := [.row 35] })]), (9, .cut [(.normal, { ts := [(2, .bool)], es := [] })]), (18, .loop { ts := [(0, .str), (3, .row 0), (6, .int .i64), (30, .row 0), (31, .int .i64), (32, .int .i64)], es := [.row 35] } [(.ret, { ts := [(2, .bool)], es := [] }), (.exit 0, { ts := [(0, .str), (6, .int .i64)], es := [] })]), (26, .cut [(.ret, { ts := [(2, .bool)], es := [] }), (.normal, { ts := [(0, .str), (3, .row 0), (6, .int .i64), (30, .row 0), (31, .int .i64), (32, .int .i64)], es := [.row 35] })]), (31, .draw [(0, true), (1, true), (2, true), (3, true), (4, true), (5, true), (6, true), (7, true), (8, true), (9, true), (10, true), (11, true), (12, true), (13, true), (14, true), (15, true), (16, true), (17, true), (18, true), (19, true), (20, true), (21, true), (22, true), (23, true), (24, true), (25, true), (26, true), (27, true), (28, true), (29, true), (30, true), (31, true), (32, true), (33, true), (34, true), (35, true), (36, true), (37, true), (38, true), (39, true), (40, true)] [(.normal, { ts := [(0, .str), (3, .row 0), (6, .int .i64), (8, .pc 1 0), (30, .row 0), (31, .int .i64), (32, .int .i64), (77, .bool)], es := [.row 35, .cell [.int .i64, .str, .int .i64, .int .i64]] })]), (43, .loop { ts := [(0, .str), (3, .row 0), (8, .pc 1 0), (9, .bool), (30, .row 0), (31, .int .i64), (32, .int .i64), (83, .sl 5), (84, .int .i64), (85, .int .i64)], es := [.row 35, .cell [.int .i64, .str, .int .i64, .int .i64]] } [(.ret, { ts := [(2, .bool)], es := [] }), (.exit 2, { ts := [(0, .str), (3, .row 0), (8, .pc 1 0), (30, .row 0), (31, .int .i64), (32, .int .i64)], es := [.row 35, .cell [.int .i64, .str, .int .i64, .int .i64]] })]), (55, .cut [(.normal, { ts := [(0, .str), (3, .row 0), (8, .pc 1 0), (9, .bool), (11, .int .u8), (30, .row 0), (31, .int .i64), (32, .int .i64), (83, .sl 5), (84, .int .i64), (85, .int .i64)], es := [.row 35, .cell [.int .i64, .str, .int .i64, .int .i64]] })]), (57, .cut [(.normal, { ts := [(0, .str), (3, .row 0), (8, .pc 1 0), (9, .bool), (30, .row 0), (31, .int .i64), (32, .int .i64), (83, .sl 5), (84, .int .i64), (85, .int .i64), (107, .bool)], es := [.row 35, .cell [.int .i64, .str, .int .i64, .int .i64]] })])]
noncomputable def F25 (x : I25.ty CC) : Option (OutTy CC O25) := runA ⟨false⟩ [P15, P22] lpO Tryd.prog Tryd.f4 1 I25 O25 H25 x
noncomputable def P25 : Spec CC := ⟨4, 1, I25, O25, F25⟩
theorem K25 : P25.OK Tryd.prog := runA_ok (okCons K15 (okCons K22 okNil)) mixedR lpO_OK H25 (by kernel_rfl) (by kernel_rfl) (by kernel_rfl) fun x => rfl
/-! lychgate/lychgatelaw01.LexAgain | lychgatelaw01_LexAgain -/
def I26 : Sig := { ts := [(0, .str)], es := [] }
def O26 : List (XK × Sig) := [(.ret, { ts := [(0, .bool)], es := [] })]
def H26 : Nat → Option Hint := hfind [(6, .cut [(.normal, { ts := [(3, .row 0), (23, .bool)], es := [.row 35] })]), (18, .loop { ts := [(3, .row 0), (6, .str), (25, .row 0), (26, .int .i64), (27, .int .i64)], es := [.row 35] } [(.exit 0, { ts := [(3, .row 0), (6, .str)], es := [.row 35] })]), (43, .cut [(.normal, { ts := [(3, .row 0), (9, .row 1), (54, .bool)], es := [.row 35, .row 35] })]), (53, .loop { ts := [(3, .row 0), (9, .row 1), (56, .int .i64), (57, .int .i64)], es := [.row 35, .row 35] } [(.ret, { ts := [(2, .bool)], es := [] }), (.exit 2, { ts := [], es := [] })]), (65, .draw [(0, true), (1, true), (2, true), (3, true), (4, true), (5, true), (6, true), (7, true), (8, true), (9, true), (10, true), (11, true), (12, true), (13, true), (14, true), (15, true), (16, true), (17, true), (18, true), (19, true), (20, true), (21, true), (22, true), (23, true), (24, true), (25, true), (26, true), (27, true), (28, true), (29, true), (30, true), (31, true), (32, true), (33, true), (34, true), (35, true), (36, true)] [(.normal, { ts := [(3, .row 0), (9, .row 1), (56, .int .i64), (57, .int .i64), (96, .bool)], es := [.row 35, .row 35] })])]
noncomputable def F26 (x : I26.ty CC) : Option (OutTy CC O26) := runA ⟨false⟩ [P15, P22] lpO Tryd.prog Tryd.f5 1 I26 O26 H26 x
noncomputable def P26 : Spec CC := ⟨5, 1, I26, O26, F26⟩
theorem K26 : P26.OK Tryd.prog := runA_ok (okCons K15 (okCons K22 okNil)) mixedR lpO_OK H26 (by kernel_rfl) (by kernel_rfl) (by kernel_rfl) fun x => rfl
/-! lychgate/lychgatelaw01.LexFirst | lychgatelaw01_LexFirst -/
def I27 : Sig := { ts := [(0, .str)], es := [] }
def O27 : List (XK × Sig) := [(.ret, { ts := [(0, .bool)], es := [] })]
def H27 : Nat → Option Hint := hfind [(6, .cut [(.normal, { ts := [(0, .str), (4, .int .i64), (5, .int .i64), (27, .bool)], es := [] })]), (9, .cut [(.normal, { ts := [(2, .bool)], es := [] })]), (14, .cut [(.normal, { ts := [(0, .str), (4, .int .i64), (5, .int .i64), (40, .bool)], es := [] })]), (25, .cut [(.normal, { ts := [(2, .bool)], es := [] })])]
noncomputable def F27 (x : I27.ty CC) : Option (OutTy CC O27) := runA ⟨false⟩ [P15, P22] lpO Tryd.prog Tryd.f6 1 I27 O27 H27 x
noncomputable def P27 : Spec CC := ⟨6, 1, I27, O27, F27⟩
theorem K27 : P27.OK Tryd.prog := runA_ok (okCons K15 (okCons K22 okNil)) mixedR lpO_OK H27 (by kernel_rfl) (by kernel_rfl) (by kernel_rfl) fun x => rfl
/-! lychgate/lychgatelaw01.LexValues | lychgatelaw01_LexValues -/
def I28 : Sig := { ts := [(0, .int .i64)], es := [] }
def O28 : List (XK × Sig) := [(.ret, { ts := [(0, .bool)], es := [] })]
def H28 : Nat → Option Hint := hfind [(10, .loop { ts := [(0, .int .i64), (3, .str), (4, .int .i64)], es := [] } [(.exit 0, { ts := [(0, .int .i64), (3, .str)], es := [] })]), (13, .cut [(.normal, { ts := [(0, .int .i64), (3, .str), (4, .int .i64), (20, .bool)], es := [] })]), (27, .cut [(.normal, { ts := [(0, .int .i64), (5, .row 0), (7, .int .i64), (49, .bool)], es := [.row 35] })]), (42, .cut [(.normal, { ts := [(2, .bool)], es := [] })])]
noncomputable def F28 (x : I28.ty CC) : Option (OutTy CC O28) := runA ⟨false⟩ [P15, P22] lpO Tryd.prog Tryd.f7 1 I28 O28 H28 x
noncomputable def P28 : Spec CC := ⟨7, 1, I28, O28, F28⟩
theorem K28 : P28.OK Tryd.prog := runA_ok (okCons K15 (okCons K22 okNil)) mixedR lpO_OK H28 (by kernel_rfl) (by kernel_rfl) (by kernel_rfl) fun x => rfl
/-! lychgate/lychgatelaw01.LexJoined | lychgatelaw01_LexJoined -/
def I29 : Sig := { ts := [(0, .str), (1, .str)], es := [] }
def O29 : List (XK × Sig) := [(.ret, { ts := [(0, .bool)], es := [] })]
def H29 : Nat → Option Hint := hfind [(8, .cut [(.normal, { ts := [(0, .str), (1, .str), (5, .row 0), (8, .row 1), (48, .bool)], es := [.row 35, .row 35] })]), (18, .cut [(.normal, { ts := [(0, .str), (5, .row 0), (8, .row 1), (11, .row 2), (71, .bool)], es := [.row 35, .row 35, .row 35] })]), (28, .loop { ts := [(0, .str), (5, .sl 35), (8, .row 0), (11, .row 1), (76, .sl 35), (77, .int .i64), (78, .int .i64)], es := [.row 35, .row 35] } [(.ret, { ts := [(4, .bool)], es := [] }), (.exit 0, { ts := [(0, .str), (5, .sl 35), (8, .row 0), (11, .row 1)], es := [.row 35, .row 35] })]), (40, .draw [(0, true), (1, true), (2, true), (3, true), (4, true), (5, true)] []), (51, .loop { ts := [(0, .str), (5, .sl 35), (11, .row 0), (90, .row 1), (91, .int .i64), (92, .int .i64)], es := [.row 35, .row 35] } [(.ret, { ts := [(4, .bool)], es := [] }), (.exit 2, { ts := [], es := [] })]), (65, .draw [(0, true), (1, true), (2, true), (3, true), (4, true), (5, true), (6, true), (7, true), (8, true), (9, true)] [])]
noncomputable def F29 (x : I29.ty CC) : Option (OutTy CC O29) := runA ⟨true⟩ [P15, P22] lpO Tryd.prog Tryd.f8 1 I29 O29 H29 x
noncomputable def P29 : Spec CC := ⟨8, 1, I29, O29, F29⟩
theorem K29 : P29.OK Tryd.prog := runA_ok (okCons K15 (okCons K22 okNil)) mixedR lpO_OK H29 (by kernel_rfl) (by kernel_rfl) (by kernel_rfl) fun x => rfl
/-! lychgate/lex.IsName | lex_IsName -/
def I30 : Sig := { ts := [(0, .str)], es := [] }
def O30 : List (XK × Sig) := [(.ret, { ts := [(0, .bool)], es := [] })]
def H30 : Nat → Option Hint := hfind [(3, .cut [(.normal, { ts := [(2, .bool)], es := [] })])]
noncomputable def F30 (x : I30.ty CC) : Option (OutTy CC O30) := runA ⟨false⟩ [P5, P8, P9] lpO Tryd.prog Tryd.f14 1 I30 O30 H30 x
noncomputable def P30 : Spec CC := ⟨14, 1, I30, O30, F30⟩
theorem K30 : P30.OK Tryd.prog := runA_ok (okCons K5 (okCons K8 (okCons K9 okNil))) mixedR lpO_OK H30 (by kernel_rfl) (by kernel_rfl) (by kernel_rfl) fun x => rfl
/-! lychgate/lychgateref01.IsName | lychgateref01_IsName -/
def I31 : Sig := { ts := [(0, .str)], es := [] }
def O31 : List (XK × Sig) := [(.ret, { ts := [(0, .bool)], es := [] })]
def H31 : Nat → Option Hint := hfind [(4, .cut [(.normal, { ts := [(0, .str), (15, .bool)], es := [] })]), (24, .loop { ts := [(0, .str), (4, .int .i64)], es := [] } [(.ret, { ts := [(2, .bool)], es := [] }), (.exit 0, { ts := [(0, .str)], es := [] })]), (38, .cut [(.normal, { ts := [(0, .str), (4, .int .i64), (40, .bool)], es := [] })])]
noncomputable def F31 (x : I31.ty CC) : Option (OutTy CC O31) := runA ⟨false⟩ [P16, P17, P18] lpO Tryd.prog Tryd.f15 1 I31 O31 H31 x
noncomputable def P31 : Spec CC := ⟨15, 1, I31, O31, F31⟩
theorem K31 : P31.OK Tryd.prog := runA_ok (okCons K16 (okCons K17 (okCons K18 okNil))) mixedR lpO_OK H31 (by kernel_rfl) (by kernel_rfl) (by kernel_rfl) fun x => rfl
/-! lychgate/lychgatelaw01.LexNames | lychgatelaw01_LexNames -/
def I32 : Sig := { ts := [(0, .str)], es := [] }
def O32 : List (XK × Sig) := [(.ret, { ts := [(0, .bool)], es := [] })]
def H32 : Nat → Option Hint := hfind [(3, .cut [(.normal, { ts := [(2, .bool)], es := [] })])]
noncomputable def F32 (x : I32.ty CC) : Option (OutTy CC O32) := runA ⟨false⟩ [P22, P30, P31, P9, P18] lpO Tryd.prog Tryd.f9 1 I32 O32 H32 x
noncomputable def P32 : Spec CC := ⟨9, 1, I32, O32, F32⟩
theorem K32 : P32.OK Tryd.prog := runA_ok (okCons K22 (okCons K30 (okCons K31 (okCons K9 (okCons K18 okNil))))) mixedR lpO_OK H32 (by kernel_rfl) (by kernel_rfl) (by kernel_rfl) fun x => rfl
end Go.Px
