/- The types of the program that the models use. -/
import Derived.Test.YthpibdcdeopneaaProg
import Derived.Test.YthpibdcdeopneaaC8
namespace Go.Px
open Go.Proofs
set_option linter.unusedVariables false
abbrev _root_.Go.Value.i (x : Int) : Value := .int .i64 x
theorem Try.mixed : Try.prog.follows .mixedOrders = true := by kernel_rfl
theorem pu2 : Try.prog.underlying 2 = some (.int .i64) := by kernel_rfl
theorem pu3 : Try.prog.underlying 3 = some (.int .i64) := by kernel_rfl
theorem pu4 : Try.prog.underlying 4 = some .bool := by kernel_rfl
theorem pu22 : Try.prog.underlying 22 = some (.slice 2) := by kernel_rfl
theorem pu23 : Try.prog.underlying 23 = some (.slice 4) := by kernel_rfl
theorem pu25 : Try.prog.underlying 25 = some (.pointer 64) := by kernel_rfl
theorem pu27 : Try.prog.underlying 27 = some (.int .i64) := by kernel_rfl
noncomputable def Try.pf29 : Array Field := fieldsOf Try.t28.desc
theorem pu29 : Try.prog.underlying 29 = some (.struct Try.pf29) := by kernel_rfl
theorem pu36 : Try.prog.underlying 36 = some (.slice 3) := by kernel_rfl
theorem pu41 : Try.prog.underlying 41 = some (.slice 45) := by kernel_rfl
theorem pu43 : Try.prog.underlying 43 = some (.slice 29) := by kernel_rfl
noncomputable def Try.pf45 : Array Field := fieldsOf Try.t44.desc
theorem pu45 : Try.prog.underlying 45 = some (.struct Try.pf45) := by kernel_rfl
theorem pu52 : Try.prog.underlying 52 = some (.slice 58) := by kernel_rfl
theorem pu54 : Try.prog.underlying 54 = some (.slice 85) := by kernel_rfl
noncomputable def Try.pf56 : Array Field := fieldsOf Try.t55.desc
theorem pu56 : Try.prog.underlying 56 = some (.struct Try.pf56) := by kernel_rfl
noncomputable def Try.pf58 : Array Field := fieldsOf Try.t57.desc
theorem pu58 : Try.prog.underlying 58 = some (.struct Try.pf58) := by kernel_rfl
noncomputable def Try.pf64 : Array Field := fieldsOf Try.t63.desc
theorem pu64 : Try.prog.underlying 64 = some (.struct Try.pf64) := by kernel_rfl
noncomputable def Try.pf74 : Array Field := fieldsOf Try.t73.desc
theorem pu74 : Try.prog.underlying 74 = some (.struct Try.pf74) := by kernel_rfl
noncomputable def Try.pf85 : Array Field := fieldsOf Try.t84.desc
theorem pu85 : Try.prog.underlying 85 = some (.struct Try.pf85) := by kernel_rfl
theorem pi2 : Try.prog.info? 2 = some Try.t2 := by kernel_rfl
theorem pi3 : Try.prog.info? 3 = some Try.t3 := by kernel_rfl
theorem pi4 : Try.prog.info? 4 = some Try.t4 := by kernel_rfl
theorem pi22 : Try.prog.info? 22 = some Try.t22 := by kernel_rfl
theorem pi23 : Try.prog.info? 23 = some Try.t23 := by kernel_rfl
theorem pi27 : Try.prog.info? 27 = some Try.t27 := by kernel_rfl
theorem pi29 : Try.prog.info? 29 = some Try.t29 := by kernel_rfl
theorem pi36 : Try.prog.info? 36 = some Try.t36 := by kernel_rfl
theorem pi41 : Try.prog.info? 41 = some Try.t41 := by kernel_rfl
theorem pi43 : Try.prog.info? 43 = some Try.t43 := by kernel_rfl
theorem pi45 : Try.prog.info? 45 = some Try.t45 := by kernel_rfl
theorem pi54 : Try.prog.info? 54 = some Try.t54 := by kernel_rfl
theorem pi56 : Try.prog.info? 56 = some Try.t56 := by kernel_rfl
theorem pi58 : Try.prog.info? 58 = some Try.t58 := by kernel_rfl
theorem pi64 : Try.prog.info? 64 = some Try.t64 := by kernel_rfl
theorem pi74 : Try.prog.info? 74 = some Try.t74 := by kernel_rfl
theorem pi85 : Try.prog.info? 85 = some Try.t85 := by kernel_rfl
theorem pc2 : Try.prog.cellsOf 2 = 1 := by kernel_rfl
theorem pc3 : Try.prog.cellsOf 3 = 1 := by kernel_rfl
theorem pc4 : Try.prog.cellsOf 4 = 1 := by kernel_rfl
theorem pc27 : Try.prog.cellsOf 27 = 1 := by kernel_rfl
theorem pc29 : Try.prog.cellsOf 29 = 3 := by kernel_rfl
theorem pc52 : Try.prog.cellsOf 52 = 1 := by kernel_rfl
theorem pc58 : Try.prog.cellsOf 58 = 8 := by kernel_rfl
theorem pn10 : (Try.f10.name == "runtime.NumGoroutine") = false := by kernel_rfl
theorem pn11 : (Try.f11.name == "runtime.NumGoroutine") = false := by kernel_rfl
theorem pn12 : (Try.f12.name == "runtime.NumGoroutine") = false := by kernel_rfl
theorem pn13 : (Try.f13.name == "runtime.NumGoroutine") = false := by kernel_rfl
theorem pn14 : (Try.f14.name == "runtime.NumGoroutine") = false := by kernel_rfl
theorem pn15 : (Try.f15.name == "runtime.NumGoroutine") = false := by kernel_rfl
theorem pn16 : (Try.f16.name == "runtime.NumGoroutine") = false := by kernel_rfl
theorem pn17 : (Try.f17.name == "runtime.NumGoroutine") = false := by kernel_rfl
theorem pn18 : (Try.f18.name == "runtime.NumGoroutine") = false := by kernel_rfl
theorem pn19 : (Try.f19.name == "runtime.NumGoroutine") = false := by kernel_rfl
theorem pn20 : (Try.f20.name == "runtime.NumGoroutine") = false := by kernel_rfl
theorem pn21 : (Try.f21.name == "runtime.NumGoroutine") = false := by kernel_rfl
theorem pn22 : (Try.f22.name == "runtime.NumGoroutine") = false := by kernel_rfl
theorem pn23 : (Try.f23.name == "runtime.NumGoroutine") = false := by kernel_rfl
theorem pn24 : (Try.f24.name == "runtime.NumGoroutine") = false := by kernel_rfl
theorem pn25 : (Try.f25.name == "runtime.NumGoroutine") = false := by kernel_rfl
theorem pn26 : (Try.f26.name == "runtime.NumGoroutine") = false := by kernel_rfl
theorem pn27 : (Try.f27.name == "runtime.NumGoroutine") = false := by kernel_rfl
theorem pn28 : (Try.f28.name == "runtime.NumGoroutine") = false := by kernel_rfl
theorem pn29 : (Try.f29.name == "runtime.NumGoroutine") = false := by kernel_rfl
theorem pn30 : (Try.f30.name == "runtime.NumGoroutine") = false := by kernel_rfl
theorem pn31 : (Try.f31.name == "runtime.NumGoroutine") = false := by kernel_rfl
theorem pn32 : (Try.f32.name == "runtime.NumGoroutine") = false := by kernel_rfl
theorem pn33 : (Try.f33.name == "runtime.NumGoroutine") = false := by kernel_rfl
theorem pn34 : (Try.f34.name == "runtime.NumGoroutine") = false := by kernel_rfl
theorem pn35 : (Try.f35.name == "runtime.NumGoroutine") = false := by kernel_rfl
theorem pn36 : (Try.f36.name == "runtime.NumGoroutine") = false := by kernel_rfl
theorem pn37 : (Try.f37.name == "runtime.NumGoroutine") = false := by kernel_rfl
theorem pn38 : (Try.f38.name == "runtime.NumGoroutine") = false := by kernel_rfl
theorem pn39 : (Try.f39.name == "runtime.NumGoroutine") = false := by kernel_rfl
theorem pn40 : (Try.f40.name == "runtime.NumGoroutine") = false := by kernel_rfl
structure Gmem_Value where
  Kind : Int
  N : Int
  Block : Int
  deriving Inhabited, DecidableEq
abbrev T13 : Ty Gmem_Value := (tProd (tInt .i64) (tProd (tInt .i64) (tInt .i64))).comap fun x => (x.Kind, x.N, x.Block)
theorem T8 {σ : FS} {cs : List Value} {x : Gmem_Value} : T13.rel σ cs x ↔ cs = [.int .i64 x.Kind, .int .i64 x.N, .int .i64 x.Block] := by
  constructor
  · intro h; exact (Plain.spec σ cs x).1 h
  · intro h; exact (Plain.spec (T := T13) σ cs x).2 h
theorem T13_v {σ : FS} {v : Value} {x : Gmem_Value} : T13.vrel σ v x ↔ v = .agg #[.int .i64 x.Kind, .int .i64 x.N, .int .i64 x.Block] := by
  rw [vrel_agg rfl]
  constructor
  · rintro ⟨cs, rfl, h⟩; rw [T8.1 h]
  · rintro rfl; exact ⟨_, rfl, T8.2 rfl⟩
theorem f_Gmem_Value_Kind : FieldAt T13 0 (tInt .i64) (fun x => x.Kind) := fun σ cs x h => (FieldAt.fst) σ cs (x.Kind, x.N, x.Block) h
theorem f_Gmem_Value_N : FieldAt T13 1 (tInt .i64) (fun x => x.N) := fun σ cs x h => ((FieldAt.comp FieldAt.snd FieldAt.fst (by decide))) σ cs (x.Kind, x.N, x.Block) h
structure Gmem_Block where
  Live : Bool
  Cells : Sl Gmem_Value
  Readers : Sl Int
  Writer : Sl Bool
  deriving Inhabited
abbrev T12 : Ty Gmem_Block := (tProd tBool (tProd (tSl T13) (tProd (tSl (tInt .i64)) (tSl tBool)))).comap fun x => (x.Live, x.Cells, x.Readers, x.Writer)
abbrev O11 : OTy Gmem_Block := ((oProd (tBool).o (oProd (oRow (T13).o 29) (oProd (oRow ((tInt .i64)).o 3) (oRow (tBool).o 4))))).comap fun x => (x.Live, x.Cells, x.Readers, x.Writer)
theorem of_Gmem_Block_Live : OFieldAt O11 0 tBool (fun x => x.Live) := fun σ h cs x r => (OFieldAt.fst OFieldAt.self (by decide)) σ h cs (x.Live, x.Cells, x.Readers, x.Writer) r
structure Gmem_Memory where
  blocks : Sl Gmem_Block
  used : Int
  deriving Inhabited
abbrev T10 : Ty Gmem_Memory := (tProd (tSl T12) (tInt .i64)).comap fun x => (x.blocks, x.used)
abbrev O9 : OTy Gmem_Memory := ((oProd (oRow O11 45) ((tInt .i64)).o)).comap fun x => (x.blocks, x.used)
structure GSt50 where
  e0 : Bool
  e1 : Bool
  deriving Inhabited, DecidableEq
abbrev t_GSt50 : Ty GSt50 := (tProd tBool tBool).comap fun x => (x.e0, x.e1)
structure Glychgatelaw06_Op where
  Kind : Int
  P : Gmem_Value
  V : Gmem_Value
  Write : Bool
  deriving Inhabited, DecidableEq
abbrev T7 : Ty Glychgatelaw06_Op := (tProd (tInt .i64) (tProd T13 (tProd T13 tBool))).comap fun x => (x.Kind, x.P, x.V, x.Write)
theorem T5 {σ : FS} {cs : List Value} {x : Glychgatelaw06_Op} : T7.rel σ cs x ↔ cs = [.int .i64 x.Kind, .int .i64 x.P.Kind, .int .i64 x.P.N, .int .i64 x.P.Block, .int .i64 x.V.Kind, .int .i64 x.V.N, .int .i64 x.V.Block, .bool x.Write] := by
  constructor
  · intro h; exact (Plain.spec σ cs x).1 h
  · intro h; exact (Plain.spec (T := T7) σ cs x).2 h
theorem T7_v {σ : FS} {v : Value} {x : Glychgatelaw06_Op} : T7.vrel σ v x ↔ v = .agg #[.int .i64 x.Kind, .int .i64 x.P.Kind, .int .i64 x.P.N, .int .i64 x.P.Block, .int .i64 x.V.Kind, .int .i64 x.V.N, .int .i64 x.V.Block, .bool x.Write] := by
  rw [vrel_agg rfl]
  constructor
  · rintro ⟨cs, rfl, h⟩; rw [T5.1 h]
  · rintro rfl; exact ⟨_, rfl, T5.2 rfl⟩
structure Glychgateref06_Value where
  Kind : Int
  N : Int
  Block : Int
  deriving Inhabited, DecidableEq
abbrev T4 : Ty Glychgateref06_Value := (tProd (tInt .i64) (tProd (tInt .i64) (tInt .i64))).comap fun x => (x.Kind, x.N, x.Block)
theorem T0 {σ : FS} {cs : List Value} {x : Glychgateref06_Value} : T4.rel σ cs x ↔ cs = [.int .i64 x.Kind, .int .i64 x.N, .int .i64 x.Block] := by
  constructor
  · intro h; exact (Plain.spec σ cs x).1 h
  · intro h; exact (Plain.spec (T := T4) σ cs x).2 h
theorem T4_v {σ : FS} {v : Value} {x : Glychgateref06_Value} : T4.vrel σ v x ↔ v = .agg #[.int .i64 x.Kind, .int .i64 x.N, .int .i64 x.Block] := by
  rw [vrel_agg rfl]
  constructor
  · rintro ⟨cs, rfl, h⟩; rw [T0.1 h]
  · rintro rfl; exact ⟨_, rfl, T0.2 rfl⟩
theorem f_Glychgateref06_Value_Kind : FieldAt T4 0 (tInt .i64) (fun x => x.Kind) := fun σ cs x h => (FieldAt.fst) σ cs (x.Kind, x.N, x.Block) h
theorem f_Glychgateref06_Value_N : FieldAt T4 1 (tInt .i64) (fun x => x.N) := fun σ cs x h => ((FieldAt.comp FieldAt.snd FieldAt.fst (by decide))) σ cs (x.Kind, x.N, x.Block) h
structure Glychgateref06_Cell where
  Block : Int
  Number : Int
  V : Glychgateref06_Value
  Readers : Int
  Writer : Bool
  deriving Inhabited, DecidableEq
abbrev T6 : Ty Glychgateref06_Cell := (tProd (tInt .i64) (tProd (tInt .i64) (tProd T4 (tProd (tInt .i64) tBool)))).comap fun x => (x.Block, x.Number, x.V, x.Readers, x.Writer)
theorem T2 {σ : FS} {cs : List Value} {x : Glychgateref06_Cell} : T6.rel σ cs x ↔ cs = [.int .i64 x.Block, .int .i64 x.Number, .int .i64 x.V.Kind, .int .i64 x.V.N, .int .i64 x.V.Block, .int .i64 x.Readers, .bool x.Writer] := by
  constructor
  · intro h; exact (Plain.spec σ cs x).1 h
  · intro h; exact (Plain.spec (T := T6) σ cs x).2 h
theorem T6_v {σ : FS} {v : Value} {x : Glychgateref06_Cell} : T6.vrel σ v x ↔ v = .agg #[.int .i64 x.Block, .int .i64 x.Number, .int .i64 x.V.Kind, .int .i64 x.V.N, .int .i64 x.V.Block, .int .i64 x.Readers, .bool x.Writer] := by
  rw [vrel_agg rfl]
  constructor
  · rintro ⟨cs, rfl, h⟩; rw [T2.1 h]
  · rintro rfl; exact ⟨_, rfl, T2.2 rfl⟩
theorem f_Glychgateref06_Cell_Block : FieldAt T6 0 (tInt .i64) (fun x => x.Block) := fun σ cs x h => (FieldAt.fst) σ cs (x.Block, x.Number, x.V, x.Readers, x.Writer) h
theorem f_Glychgateref06_Cell_Number : FieldAt T6 1 (tInt .i64) (fun x => x.Number) := fun σ cs x h => ((FieldAt.comp FieldAt.snd FieldAt.fst (by decide))) σ cs (x.Block, x.Number, x.V, x.Readers, x.Writer) h
theorem f_Glychgateref06_Cell_V : FieldAt T6 2 T4 (fun x => x.V) := fun σ cs x h => ((FieldAt.comp FieldAt.snd (FieldAt.comp FieldAt.snd FieldAt.fst (by decide)) (by decide))) σ cs (x.Block, x.Number, x.V, x.Readers, x.Writer) h
theorem f_Glychgateref06_Cell_Readers : FieldAt T6 5 (tInt .i64) (fun x => x.Readers) := fun σ cs x h => ((FieldAt.comp FieldAt.snd (FieldAt.comp FieldAt.snd (FieldAt.comp FieldAt.snd FieldAt.fst (by decide)) (by decide)) (by decide))) σ cs (x.Block, x.Number, x.V, x.Readers, x.Writer) h
theorem f_Glychgateref06_Cell_Writer : FieldAt T6 6 tBool (fun x => x.Writer) := fun σ cs x h => ((FieldAt.comp FieldAt.snd (FieldAt.comp FieldAt.snd (FieldAt.comp FieldAt.snd FieldAt.snd (by decide)) (by decide)) (by decide))) σ cs (x.Block, x.Number, x.V, x.Readers, x.Writer) h
structure Glychgateref06_Memory where
  Live : Sl Bool
  Sizes : Sl Int
  Cells : Sl Glychgateref06_Cell
  Used : Int
  deriving Inhabited
abbrev T3 : Ty Glychgateref06_Memory := (tProd (tSl tBool) (tProd (tSl (tInt .i64)) (tProd (tSl T6) (tInt .i64)))).comap fun x => (x.Live, x.Sizes, x.Cells, x.Used)
abbrev O1 : OTy Glychgateref06_Memory := ((oProd (oRow (tBool).o 4) (oProd (oRow ((tInt .i64)).o 2) (oProd (oRow (T6).o 85) ((tInt .i64)).o)))).comap fun x => (x.Live, x.Sizes, x.Cells, x.Used)
theorem eq_Gmem_Value {x y : Gmem_Value} : EqAtD Try.prog 29 2 (.agg #[.int .i64 x.Kind, .int .i64 x.N, .int .i64 x.Block]) (.agg #[.int .i64 y.Kind, .int .i64 y.N, .int .i64 y.Block]) (decide (x = y)) := by
  have h : ((decide (x.Kind = y.Kind) && (decide (x.N = y.N) && (decide (x.Block = y.Block) && true)))) = decide (x = y) := by cases x; cases y; rw [Bool.eq_iff_iff]; simp
  rw [← h]; exact EqAtD.struct pu29 (by kernel_rfl) (⟨_, _, _, _, (part_run (cs := [.int .i64 x.Kind, .int .i64 x.N, .int .i64 x.Block]) (cs' := [.int .i64 x.Kind]) pu27 pi27 rfl rfl (by decide) rfl), (part_run (cs := [.int .i64 y.Kind, .int .i64 y.N, .int .i64 y.Block]) (cs' := [.int .i64 y.Kind]) pu27 pi27 rfl rfl (by decide) rfl), by decide, (EqAtD.int pu27).mono (d' := 1) (by decide), ⟨_, _, _, _, (part_run (cs := [.int .i64 x.Kind, .int .i64 x.N, .int .i64 x.Block]) (cs' := [.int .i64 x.N]) pu2 pi2 rfl rfl (by decide) rfl), (part_run (cs := [.int .i64 y.Kind, .int .i64 y.N, .int .i64 y.Block]) (cs' := [.int .i64 y.N]) pu2 pi2 rfl rfl (by decide) rfl), by decide, (EqAtD.int pu2).mono (d' := 1) (by decide), ⟨_, _, _, _, (part_run (cs := [.int .i64 x.Kind, .int .i64 x.N, .int .i64 x.Block]) (cs' := [.int .i64 x.Block]) pu3 pi3 rfl rfl (by decide) rfl), (part_run (cs := [.int .i64 y.Kind, .int .i64 y.N, .int .i64 y.Block]) (cs' := [.int .i64 y.Block]) pu3 pi3 rfl rfl (by decide) rfl), by decide, (EqAtD.int pu3).mono (d' := 1) (by decide), rfl, rfl⟩, rfl⟩, rfl⟩)
theorem eq_Glychgateref06_Value {x y : Glychgateref06_Value} : EqAtD Try.prog 74 2 (.agg #[.int .i64 x.Kind, .int .i64 x.N, .int .i64 x.Block]) (.agg #[.int .i64 y.Kind, .int .i64 y.N, .int .i64 y.Block]) (decide (x = y)) := by
  have h : ((decide (x.Kind = y.Kind) && (decide (x.N = y.N) && (decide (x.Block = y.Block) && true)))) = decide (x = y) := by cases x; cases y; rw [Bool.eq_iff_iff]; simp
  rw [← h]; exact EqAtD.struct pu74 (by kernel_rfl) (⟨_, _, _, _, (part_run (cs := [.int .i64 x.Kind, .int .i64 x.N, .int .i64 x.Block]) (cs' := [.int .i64 x.Kind]) pu3 pi3 rfl rfl (by decide) rfl), (part_run (cs := [.int .i64 y.Kind, .int .i64 y.N, .int .i64 y.Block]) (cs' := [.int .i64 y.Kind]) pu3 pi3 rfl rfl (by decide) rfl), by decide, (EqAtD.int pu3).mono (d' := 1) (by decide), ⟨_, _, _, _, (part_run (cs := [.int .i64 x.Kind, .int .i64 x.N, .int .i64 x.Block]) (cs' := [.int .i64 x.N]) pu2 pi2 rfl rfl (by decide) rfl), (part_run (cs := [.int .i64 y.Kind, .int .i64 y.N, .int .i64 y.Block]) (cs' := [.int .i64 y.N]) pu2 pi2 rfl rfl (by decide) rfl), by decide, (EqAtD.int pu2).mono (d' := 1) (by decide), ⟨_, _, _, _, (part_run (cs := [.int .i64 x.Kind, .int .i64 x.N, .int .i64 x.Block]) (cs' := [.int .i64 x.Block]) pu3 pi3 rfl rfl (by decide) rfl), (part_run (cs := [.int .i64 y.Kind, .int .i64 y.N, .int .i64 y.Block]) (cs' := [.int .i64 y.Block]) pu3 pi3 rfl rfl (by decide) rfl), by decide, (EqAtD.int pu3).mono (d' := 1) (by decide), rfl, rfl⟩, rfl⟩, rfl⟩)
theorem rd_Gmem_Value : Rd Try.prog 29 T13 (fun x => 1 + 1 + 1 + 1) (fun x => (IntKind.i64.min ≤ x.Kind ∧ x.Kind ≤ IntKind.i64.max) ∧ (IntKind.i64.min ≤ x.N ∧ x.N ≤ IntKind.i64.max) ∧ (IntKind.i64.min ≤ x.Block ∧ x.Block ≤ IntKind.i64.max)) where
  open_ := by
    intro H enc m hm W fuel cs x h
    obtain ⟨hl, n, xs, hx, hlen, hf⟩ := struct_open pu29 h
    obtain ⟨y0, hy0, ht0⟩ := hf 0 (Try.pf29.getD 0 default) rfl
    obtain ⟨a0, r0, w0, g0⟩ := (rd_int pu27 pc27).open_ enc m hm W n _ _ ht0
    replace r0 : (tInt .i64).rel (snap W) ((cs.drop 0).take 1) a0 := by rw [show Try.prog.cellsOf (Try.pf29.getD 0 default).type = 1 from pc27] at r0; exact r0
    obtain ⟨y1, hy1, ht1⟩ := hf 1 (Try.pf29.getD 1 default) rfl
    obtain ⟨a1, r1, w1, g1⟩ := (rd_int pu2 pc2).open_ enc m hm W n _ _ ht1
    replace r1 : (tInt .i64).rel (snap W) ((cs.drop 1).take 1) a1 := by rw [show Try.prog.cellsOf (Try.pf29.getD 1 default).type = 1 from pc2] at r1; exact r1
    obtain ⟨y2, hy2, ht2⟩ := hf 2 (Try.pf29.getD 2 default) rfl
    obtain ⟨a2, r2, w2, g2⟩ := (rd_int pu3 pc3).open_ enc m hm W n _ _ ht2
    replace r2 : (tInt .i64).rel (snap W) ((cs.drop 2).take 1) a2 := by rw [show Try.prog.cellsOf (Try.pf29.getD 2 default).type = 1 from pc3] at r2; exact r2
    have hcs : cs = (cs.drop 0).take 3 := by rw [pc29] at hl; rw [List.drop_zero, ← hl, List.take_length]
    refine ⟨⟨a0, a1, a2⟩, ?_, ?_, ⟨g0, g1, g2⟩⟩
    · rw [hcs]; exact (prod_at r0 (prod_at r1 r2 rfl) rfl)
    · have hag := hm.agg (xs.map (·.1))
      rw [← hx] at hag
      match xs, hlen with
      | [z0, z1, z2], _ =>
        simp at hy0 hy1 hy2
        subst hy0; subst hy1; subst hy2
        simp only [List.map_cons, List.map_nil, List.sum_cons, List.sum_nil] at hag
        try simp only at w0 w1 w2
        try simp only
        omega
  shape := shape_struct pu29
  size := pc29
theorem rd_Glychgatelaw06_Op : Rd Try.prog 58 T7 (fun x => 1 + (1 + 1 + 1 + 1) + (1 + 1 + 1 + 1) + 1 + 1) (fun x => (IntKind.i64.min ≤ x.Kind ∧ x.Kind ≤ IntKind.i64.max) ∧ ((IntKind.i64.min ≤ x.P.Kind ∧ x.P.Kind ≤ IntKind.i64.max) ∧ (IntKind.i64.min ≤ x.P.N ∧ x.P.N ≤ IntKind.i64.max) ∧ (IntKind.i64.min ≤ x.P.Block ∧ x.P.Block ≤ IntKind.i64.max)) ∧ ((IntKind.i64.min ≤ x.V.Kind ∧ x.V.Kind ≤ IntKind.i64.max) ∧ (IntKind.i64.min ≤ x.V.N ∧ x.V.N ≤ IntKind.i64.max) ∧ (IntKind.i64.min ≤ x.V.Block ∧ x.V.Block ≤ IntKind.i64.max)) ∧ True) where
  open_ := by
    intro H enc m hm W fuel cs x h
    obtain ⟨hl, n, xs, hx, hlen, hf⟩ := struct_open pu58 h
    obtain ⟨y0, hy0, ht0⟩ := hf 0 (Try.pf58.getD 0 default) rfl
    obtain ⟨a0, r0, w0, g0⟩ := (rd_int pu3 pc3).open_ enc m hm W n _ _ ht0
    replace r0 : (tInt .i64).rel (snap W) ((cs.drop 0).take 1) a0 := by rw [show Try.prog.cellsOf (Try.pf58.getD 0 default).type = 1 from pc3] at r0; exact r0
    obtain ⟨y1, hy1, ht1⟩ := hf 1 (Try.pf58.getD 1 default) rfl
    obtain ⟨a1, r1, w1, g1⟩ := rd_Gmem_Value.open_ enc m hm W n _ _ ht1
    replace r1 : T13.rel (snap W) ((cs.drop 1).take 3) a1 := by rw [show Try.prog.cellsOf (Try.pf58.getD 1 default).type = 3 from pc29] at r1; exact r1
    obtain ⟨y2, hy2, ht2⟩ := hf 2 (Try.pf58.getD 2 default) rfl
    obtain ⟨a2, r2, w2, g2⟩ := rd_Gmem_Value.open_ enc m hm W n _ _ ht2
    replace r2 : T13.rel (snap W) ((cs.drop 4).take 3) a2 := by rw [show Try.prog.cellsOf (Try.pf58.getD 2 default).type = 3 from pc29] at r2; exact r2
    obtain ⟨y3, hy3, ht3⟩ := hf 3 (Try.pf58.getD 3 default) rfl
    obtain ⟨a3, r3, w3, g3⟩ := (rd_bool pu4 pc4).open_ enc m hm W n _ _ ht3
    replace r3 : tBool.rel (snap W) ((cs.drop 7).take 1) a3 := by rw [show Try.prog.cellsOf (Try.pf58.getD 3 default).type = 1 from pc4] at r3; exact r3
    have hcs : cs = (cs.drop 0).take 8 := by rw [pc58] at hl; rw [List.drop_zero, ← hl, List.take_length]
    refine ⟨⟨a0, a1, a2, a3⟩, ?_, ?_, ⟨g0, g1, g2, g3⟩⟩
    · rw [hcs]; exact (prod_at r0 (prod_at r1 (prod_at r2 r3 rfl) rfl) rfl)
    · have hag := hm.agg (xs.map (·.1))
      rw [← hx] at hag
      match xs, hlen with
      | [z0, z1, z2, z3], _ =>
        simp at hy0 hy1 hy2 hy3
        subst hy0; subst hy1; subst hy2; subst hy3
        simp only [List.map_cons, List.map_nil, List.sum_cons, List.sum_nil] at hag
        try simp only at w0 w1 w2 w3
        try simp only
        omega
  shape := shape_struct pu58
  size := pc58
end Go.Px
