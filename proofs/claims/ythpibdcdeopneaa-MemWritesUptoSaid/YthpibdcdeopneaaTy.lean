/- The types of the program that the models use. -/
import Derived.Test.YthpibdcdeopneaaProg
import Derived.Test.YthpibdcdeopneaaC8
namespace Go.Px
open Go.Proofs
set_option linter.unusedVariables false
theorem Try.mixed : Try.prog.follows .mixedOrders = true := by kernel_rfl
theorem Try.pu2 : Try.prog.underlying 2 = some (.int .i64) := by kernel_rfl
theorem Try.pu3 : Try.prog.underlying 3 = some (.int .i64) := by kernel_rfl
theorem Try.pu4 : Try.prog.underlying 4 = some .bool := by kernel_rfl
theorem Try.pu22 : Try.prog.underlying 22 = some (.slice 2) := by kernel_rfl
theorem Try.pu23 : Try.prog.underlying 23 = some (.slice 4) := by kernel_rfl
theorem Try.pu25 : Try.prog.underlying 25 = some (.pointer 64) := by kernel_rfl
theorem Try.pu27 : Try.prog.underlying 27 = some (.int .i64) := by kernel_rfl
noncomputable def Try.pf29 : Array Field := fieldsOf Try.t28.desc
theorem Try.pu29 : Try.prog.underlying 29 = some (.struct Try.pf29) := by kernel_rfl
theorem Try.pu36 : Try.prog.underlying 36 = some (.slice 3) := by kernel_rfl
theorem Try.pu37 : Try.prog.underlying 37 = some (.array 8 29) := by kernel_rfl
theorem Try.pu41 : Try.prog.underlying 41 = some (.slice 45) := by kernel_rfl
theorem Try.pu43 : Try.prog.underlying 43 = some (.slice 29) := by kernel_rfl
noncomputable def Try.pf45 : Array Field := fieldsOf Try.t44.desc
theorem Try.pu45 : Try.prog.underlying 45 = some (.struct Try.pf45) := by kernel_rfl
theorem Try.pu50 : Try.prog.underlying 50 = some (.array 2 4) := by kernel_rfl
theorem Try.pu52 : Try.prog.underlying 52 = some (.slice 58) := by kernel_rfl
theorem Try.pu54 : Try.prog.underlying 54 = some (.slice 85) := by kernel_rfl
noncomputable def Try.pf56 : Array Field := fieldsOf Try.t55.desc
theorem Try.pu56 : Try.prog.underlying 56 = some (.struct Try.pf56) := by kernel_rfl
noncomputable def Try.pf58 : Array Field := fieldsOf Try.t57.desc
theorem Try.pu58 : Try.prog.underlying 58 = some (.struct Try.pf58) := by kernel_rfl
noncomputable def Try.pf64 : Array Field := fieldsOf Try.t63.desc
theorem Try.pu64 : Try.prog.underlying 64 = some (.struct Try.pf64) := by kernel_rfl
noncomputable def Try.pf74 : Array Field := fieldsOf Try.t73.desc
theorem Try.pu74 : Try.prog.underlying 74 = some (.struct Try.pf74) := by kernel_rfl
noncomputable def Try.pf85 : Array Field := fieldsOf Try.t84.desc
theorem Try.pu85 : Try.prog.underlying 85 = some (.struct Try.pf85) := by kernel_rfl
theorem Try.pi2 : Try.prog.info? 2 = some Try.t2 := by kernel_rfl
theorem Try.pi3 : Try.prog.info? 3 = some Try.t3 := by kernel_rfl
theorem Try.pi4 : Try.prog.info? 4 = some Try.t4 := by kernel_rfl
theorem Try.pi22 : Try.prog.info? 22 = some Try.t22 := by kernel_rfl
theorem Try.pi23 : Try.prog.info? 23 = some Try.t23 := by kernel_rfl
theorem Try.pi27 : Try.prog.info? 27 = some Try.t27 := by kernel_rfl
theorem Try.pi29 : Try.prog.info? 29 = some Try.t29 := by kernel_rfl
theorem Try.pi36 : Try.prog.info? 36 = some Try.t36 := by kernel_rfl
theorem Try.pi37 : Try.prog.info? 37 = some Try.t37 := by kernel_rfl
theorem Try.pi41 : Try.prog.info? 41 = some Try.t41 := by kernel_rfl
theorem Try.pi43 : Try.prog.info? 43 = some Try.t43 := by kernel_rfl
theorem Try.pi45 : Try.prog.info? 45 = some Try.t45 := by kernel_rfl
theorem Try.pi54 : Try.prog.info? 54 = some Try.t54 := by kernel_rfl
theorem Try.pi56 : Try.prog.info? 56 = some Try.t56 := by kernel_rfl
theorem Try.pi58 : Try.prog.info? 58 = some Try.t58 := by kernel_rfl
theorem Try.pi64 : Try.prog.info? 64 = some Try.t64 := by kernel_rfl
theorem Try.pi74 : Try.prog.info? 74 = some Try.t74 := by kernel_rfl
theorem Try.pi85 : Try.prog.info? 85 = some Try.t85 := by kernel_rfl
theorem Try.pc2 : Try.prog.cellsOf 2 = 1 := by kernel_rfl
theorem Try.pc3 : Try.prog.cellsOf 3 = 1 := by kernel_rfl
theorem Try.pc4 : Try.prog.cellsOf 4 = 1 := by kernel_rfl
theorem Try.pc22 : Try.prog.cellsOf 22 = 1 := by kernel_rfl
theorem Try.pc23 : Try.prog.cellsOf 23 = 1 := by kernel_rfl
theorem Try.pc27 : Try.prog.cellsOf 27 = 1 := by kernel_rfl
theorem Try.pc29 : Try.prog.cellsOf 29 = 3 := by kernel_rfl
theorem Try.pc36 : Try.prog.cellsOf 36 = 1 := by kernel_rfl
theorem Try.pc50 : Try.prog.cellsOf 50 = 2 := by kernel_rfl
theorem Try.pc52 : Try.prog.cellsOf 52 = 1 := by kernel_rfl
theorem Try.pc58 : Try.prog.cellsOf 58 = 8 := by kernel_rfl
theorem Try.pn10 : (Try.f10.name == "runtime.NumGoroutine") = false := by kernel_rfl
theorem Try.pn11 : (Try.f11.name == "runtime.NumGoroutine") = false := by kernel_rfl
theorem Try.pn12 : (Try.f12.name == "runtime.NumGoroutine") = false := by kernel_rfl
theorem Try.pn13 : (Try.f13.name == "runtime.NumGoroutine") = false := by kernel_rfl
theorem Try.pn14 : (Try.f14.name == "runtime.NumGoroutine") = false := by kernel_rfl
theorem Try.pn15 : (Try.f15.name == "runtime.NumGoroutine") = false := by kernel_rfl
theorem Try.pn16 : (Try.f16.name == "runtime.NumGoroutine") = false := by kernel_rfl
theorem Try.pn17 : (Try.f17.name == "runtime.NumGoroutine") = false := by kernel_rfl
theorem Try.pn18 : (Try.f18.name == "runtime.NumGoroutine") = false := by kernel_rfl
theorem Try.pn19 : (Try.f19.name == "runtime.NumGoroutine") = false := by kernel_rfl
theorem Try.pn20 : (Try.f20.name == "runtime.NumGoroutine") = false := by kernel_rfl
theorem Try.pn21 : (Try.f21.name == "runtime.NumGoroutine") = false := by kernel_rfl
theorem Try.pn22 : (Try.f22.name == "runtime.NumGoroutine") = false := by kernel_rfl
theorem Try.pn23 : (Try.f23.name == "runtime.NumGoroutine") = false := by kernel_rfl
theorem Try.pn24 : (Try.f24.name == "runtime.NumGoroutine") = false := by kernel_rfl
theorem Try.pn25 : (Try.f25.name == "runtime.NumGoroutine") = false := by kernel_rfl
theorem Try.pn26 : (Try.f26.name == "runtime.NumGoroutine") = false := by kernel_rfl
theorem Try.pn27 : (Try.f27.name == "runtime.NumGoroutine") = false := by kernel_rfl
theorem Try.pn28 : (Try.f28.name == "runtime.NumGoroutine") = false := by kernel_rfl
theorem Try.pn29 : (Try.f29.name == "runtime.NumGoroutine") = false := by kernel_rfl
theorem Try.pn30 : (Try.f30.name == "runtime.NumGoroutine") = false := by kernel_rfl
theorem Try.pn31 : (Try.f31.name == "runtime.NumGoroutine") = false := by kernel_rfl
theorem Try.pn32 : (Try.f32.name == "runtime.NumGoroutine") = false := by kernel_rfl
theorem Try.pn33 : (Try.f33.name == "runtime.NumGoroutine") = false := by kernel_rfl
theorem Try.pn34 : (Try.f34.name == "runtime.NumGoroutine") = false := by kernel_rfl
theorem Try.pn35 : (Try.f35.name == "runtime.NumGoroutine") = false := by kernel_rfl
theorem Try.pn36 : (Try.f36.name == "runtime.NumGoroutine") = false := by kernel_rfl
theorem Try.pn37 : (Try.f37.name == "runtime.NumGoroutine") = false := by kernel_rfl
theorem Try.pn38 : (Try.f38.name == "runtime.NumGoroutine") = false := by kernel_rfl
theorem Try.pn39 : (Try.f39.name == "runtime.NumGoroutine") = false := by kernel_rfl
theorem Try.pn40 : (Try.f40.name == "runtime.NumGoroutine") = false := by kernel_rfl
structure Gmem_Value where
  Kind : Int
  N : Int
  Block : Int
  deriving Inhabited, DecidableEq
abbrev t_Gmem_Value : Ty Gmem_Value := (tProd (tInt .i64) (tProd (tInt .i64) (tInt .i64))).comap fun x => (x.Kind, x.N, x.Block)
theorem t_Gmem_Value_r {σ : FS} {cs : List Value} {x : Gmem_Value} : t_Gmem_Value.rel σ cs x ↔ cs = [.int .i64 x.Kind, .int .i64 x.N, .int .i64 x.Block] := by
  constructor
  · intro h; exact (Plain.spec σ cs x).1 h
  · intro h; exact (Plain.spec (T := t_Gmem_Value) σ cs x).2 h
theorem t_Gmem_Value_v {σ : FS} {v : Value} {x : Gmem_Value} : t_Gmem_Value.vrel σ v x ↔ v = .agg #[.int .i64 x.Kind, .int .i64 x.N, .int .i64 x.Block] := by
  rw [vrel_agg rfl]
  constructor
  · rintro ⟨cs, rfl, h⟩; rw [t_Gmem_Value_r.1 h]
  · rintro rfl; exact ⟨_, rfl, t_Gmem_Value_r.2 rfl⟩
theorem f_Gmem_Value_Kind : FieldAt t_Gmem_Value 0 (tInt .i64) (fun x => x.Kind) := fun σ cs x h => (FieldAt.fst) σ cs (x.Kind, x.N, x.Block) h
theorem f_Gmem_Value_N : FieldAt t_Gmem_Value 1 (tInt .i64) (fun x => x.N) := fun σ cs x h => ((FieldAt.comp FieldAt.snd FieldAt.fst (by decide))) σ cs (x.Kind, x.N, x.Block) h
theorem f_Gmem_Value_Block : FieldAt t_Gmem_Value 2 (tInt .i64) (fun x => x.Block) := fun σ cs x h => ((FieldAt.comp FieldAt.snd FieldAt.snd (by decide))) σ cs (x.Kind, x.N, x.Block) h
structure Gmem_Block where
  Live : Bool
  Cells : Sl Gmem_Value
  Readers : Sl Int
  Writer : Sl Bool
  deriving Inhabited
abbrev t_Gmem_Block : Ty Gmem_Block := (tProd tBool (tProd (tSl t_Gmem_Value) (tProd (tSl (tInt .i64)) (tSl tBool)))).comap fun x => (x.Live, x.Cells, x.Readers, x.Writer)
theorem t_Gmem_Block_r {σ : FS} {cs : List Value} {x : Gmem_Block} : t_Gmem_Block.rel σ cs x ↔ ∃ v1 v2 v3 : Value, cs = [.bool x.Live, v1, v2, v3] ∧ (tSl t_Gmem_Value).vrel σ v1 x.Cells ∧ (tSl (tInt .i64)).vrel σ v2 x.Readers ∧ (tSl tBool).vrel σ v3 x.Writer := by
  constructor
  · intro h
    obtain ⟨_, _, rfl, rfl, ⟨_, _, rfl, h0, ⟨_, _, rfl, h1, h2⟩⟩⟩ := h
    obtain ⟨u0, e0, g0⟩ := leaf_open rfl h0; subst e0
    obtain ⟨u1, e1, g1⟩ := leaf_open rfl h1; subst e1
    obtain ⟨u2, e2, g2⟩ := leaf_open rfl h2; subst e2
    exact ⟨u0, u1, u2, rfl, g0, g1, g2⟩
  · rintro ⟨v1, v2, v3, rfl, k0, k1, k2⟩
    exact ⟨_, _, rfl, rfl, ⟨_, _, rfl, (leaf_close rfl k0), ⟨_, _, rfl, (leaf_close rfl k1), (leaf_close rfl k2)⟩⟩⟩
theorem t_Gmem_Block_v {σ : FS} {v : Value} {x : Gmem_Block} : t_Gmem_Block.vrel σ v x ↔ ∃ v1 v2 v3 : Value, v = .agg #[.bool x.Live, v1, v2, v3] ∧ (tSl t_Gmem_Value).vrel σ v1 x.Cells ∧ (tSl (tInt .i64)).vrel σ v2 x.Readers ∧ (tSl tBool).vrel σ v3 x.Writer := by
  rw [vrel_agg rfl]
  constructor
  · rintro ⟨cs, rfl, h⟩; obtain ⟨v1, v2, v3, e1, h1⟩ := t_Gmem_Block_r.1 h; subst e1; exact ⟨v1, v2, v3, rfl, h1⟩
  · rintro ⟨v1, v2, v3, rfl, h⟩; exact ⟨_, rfl, t_Gmem_Block_r.2 ⟨v1, v2, v3, rfl, h⟩⟩
theorem f_Gmem_Block_Live : FieldAt t_Gmem_Block 0 tBool (fun x => x.Live) := fun σ cs x h => (FieldAt.fst) σ cs (x.Live, x.Cells, x.Readers, x.Writer) h
theorem f_Gmem_Block_Cells : FieldAt t_Gmem_Block 1 (tSl t_Gmem_Value) (fun x => x.Cells) := fun σ cs x h => ((FieldAt.comp FieldAt.snd FieldAt.fst (by decide))) σ cs (x.Live, x.Cells, x.Readers, x.Writer) h
theorem f_Gmem_Block_Readers : FieldAt t_Gmem_Block 2 (tSl (tInt .i64)) (fun x => x.Readers) := fun σ cs x h => ((FieldAt.comp FieldAt.snd (FieldAt.comp FieldAt.snd FieldAt.fst (by decide)) (by decide))) σ cs (x.Live, x.Cells, x.Readers, x.Writer) h
theorem f_Gmem_Block_Writer : FieldAt t_Gmem_Block 3 (tSl tBool) (fun x => x.Writer) := fun σ cs x h => ((FieldAt.comp FieldAt.snd (FieldAt.comp FieldAt.snd FieldAt.snd (by decide)) (by decide))) σ cs (x.Live, x.Cells, x.Readers, x.Writer) h
abbrev o_Gmem_Block : OTy Gmem_Block := ((oProd (tBool).o (oProd (oRow (t_Gmem_Value).o 29) (oProd (oRow ((tInt .i64)).o 3) (oRow (tBool).o 4))))).comap fun x => (x.Live, x.Cells, x.Readers, x.Writer)
theorem of_Gmem_Block_Live : OFieldAt o_Gmem_Block 0 tBool (fun x => x.Live) := fun σ h cs x r => (OFieldAt.fst OFieldAt.self (by decide)) σ h cs (x.Live, x.Cells, x.Readers, x.Writer) r
structure Gmem_Memory where
  blocks : Sl Gmem_Block
  used : Int
  deriving Inhabited
abbrev t_Gmem_Memory : Ty Gmem_Memory := (tProd (tSl t_Gmem_Block) (tInt .i64)).comap fun x => (x.blocks, x.used)
theorem t_Gmem_Memory_r {σ : FS} {cs : List Value} {x : Gmem_Memory} : t_Gmem_Memory.rel σ cs x ↔ ∃ v0 : Value, cs = [v0, .int .i64 x.used] ∧ (tSl t_Gmem_Block).vrel σ v0 x.blocks := by
  constructor
  · intro h
    obtain ⟨_, _, rfl, h0, rfl⟩ := h
    obtain ⟨u0, e0, g0⟩ := leaf_open rfl h0; subst e0
    exact ⟨u0, rfl, g0⟩
  · rintro ⟨v0, rfl, k0⟩
    exact ⟨_, _, rfl, (leaf_close rfl k0), rfl⟩
theorem t_Gmem_Memory_v {σ : FS} {v : Value} {x : Gmem_Memory} : t_Gmem_Memory.vrel σ v x ↔ ∃ v0 : Value, v = .agg #[v0, .int .i64 x.used] ∧ (tSl t_Gmem_Block).vrel σ v0 x.blocks := by
  rw [vrel_agg rfl]
  constructor
  · rintro ⟨cs, rfl, h⟩; obtain ⟨v0, e1, h1⟩ := t_Gmem_Memory_r.1 h; subst e1; exact ⟨v0, rfl, h1⟩
  · rintro ⟨v0, rfl, h⟩; exact ⟨_, rfl, t_Gmem_Memory_r.2 ⟨v0, rfl, h⟩⟩
theorem f_Gmem_Memory_blocks : FieldAt t_Gmem_Memory 0 (tSl t_Gmem_Block) (fun x => x.blocks) := fun σ cs x h => (FieldAt.fst) σ cs (x.blocks, x.used) h
theorem f_Gmem_Memory_used : FieldAt t_Gmem_Memory 1 (tInt .i64) (fun x => x.used) := fun σ cs x h => (FieldAt.snd) σ cs (x.blocks, x.used) h
abbrev o_Gmem_Memory : OTy Gmem_Memory := ((oProd (oRow o_Gmem_Block 45) ((tInt .i64)).o)).comap fun x => (x.blocks, x.used)
theorem of_Gmem_Memory_used : OFieldAt o_Gmem_Memory 1 (tInt .i64) (fun x => x.used) := fun σ h cs x r => (OFieldAt.snd OFieldAt.self) σ h cs (x.blocks, x.used) r
structure GSt50 where
  e0 : Bool
  e1 : Bool
  deriving Inhabited, DecidableEq
abbrev t_GSt50 : Ty GSt50 := (tProd tBool tBool).comap fun x => (x.e0, x.e1)
theorem t_GSt50_r {σ : FS} {cs : List Value} {x : GSt50} : t_GSt50.rel σ cs x ↔ cs = [.bool x.e0, .bool x.e1] := by
  constructor
  · intro h; exact (Plain.spec σ cs x).1 h
  · intro h; exact (Plain.spec (T := t_GSt50) σ cs x).2 h
theorem t_GSt50_v {σ : FS} {v : Value} {x : GSt50} : t_GSt50.vrel σ v x ↔ v = .agg #[.bool x.e0, .bool x.e1] := by
  rw [vrel_agg rfl]
  constructor
  · rintro ⟨cs, rfl, h⟩; rw [t_GSt50_r.1 h]
  · rintro rfl; exact ⟨_, rfl, t_GSt50_r.2 rfl⟩
theorem f_GSt50_e0 : FieldAt t_GSt50 0 tBool (fun x => x.e0) := fun σ cs x h => (FieldAt.fst) σ cs (x.e0, x.e1) h
theorem f_GSt50_e1 : FieldAt t_GSt50 1 tBool (fun x => x.e1) := fun σ cs x h => (FieldAt.snd) σ cs (x.e0, x.e1) h
structure Glychgatelaw06_Op where
  Kind : Int
  P : Gmem_Value
  V : Gmem_Value
  Write : Bool
  deriving Inhabited, DecidableEq
abbrev t_Glychgatelaw06_Op : Ty Glychgatelaw06_Op := (tProd (tInt .i64) (tProd t_Gmem_Value (tProd t_Gmem_Value tBool))).comap fun x => (x.Kind, x.P, x.V, x.Write)
theorem t_Glychgatelaw06_Op_r {σ : FS} {cs : List Value} {x : Glychgatelaw06_Op} : t_Glychgatelaw06_Op.rel σ cs x ↔ cs = [.int .i64 x.Kind, .int .i64 x.P.Kind, .int .i64 x.P.N, .int .i64 x.P.Block, .int .i64 x.V.Kind, .int .i64 x.V.N, .int .i64 x.V.Block, .bool x.Write] := by
  constructor
  · intro h; exact (Plain.spec σ cs x).1 h
  · intro h; exact (Plain.spec (T := t_Glychgatelaw06_Op) σ cs x).2 h
theorem t_Glychgatelaw06_Op_v {σ : FS} {v : Value} {x : Glychgatelaw06_Op} : t_Glychgatelaw06_Op.vrel σ v x ↔ v = .agg #[.int .i64 x.Kind, .int .i64 x.P.Kind, .int .i64 x.P.N, .int .i64 x.P.Block, .int .i64 x.V.Kind, .int .i64 x.V.N, .int .i64 x.V.Block, .bool x.Write] := by
  rw [vrel_agg rfl]
  constructor
  · rintro ⟨cs, rfl, h⟩; rw [t_Glychgatelaw06_Op_r.1 h]
  · rintro rfl; exact ⟨_, rfl, t_Glychgatelaw06_Op_r.2 rfl⟩
theorem f_Glychgatelaw06_Op_Kind : FieldAt t_Glychgatelaw06_Op 0 (tInt .i64) (fun x => x.Kind) := fun σ cs x h => (FieldAt.fst) σ cs (x.Kind, x.P, x.V, x.Write) h
theorem f_Glychgatelaw06_Op_P : FieldAt t_Glychgatelaw06_Op 1 t_Gmem_Value (fun x => x.P) := fun σ cs x h => ((FieldAt.comp FieldAt.snd FieldAt.fst (by decide))) σ cs (x.Kind, x.P, x.V, x.Write) h
theorem f_Glychgatelaw06_Op_V : FieldAt t_Glychgatelaw06_Op 4 t_Gmem_Value (fun x => x.V) := fun σ cs x h => ((FieldAt.comp FieldAt.snd (FieldAt.comp FieldAt.snd FieldAt.fst (by decide)) (by decide))) σ cs (x.Kind, x.P, x.V, x.Write) h
theorem f_Glychgatelaw06_Op_Write : FieldAt t_Glychgatelaw06_Op 7 tBool (fun x => x.Write) := fun σ cs x h => ((FieldAt.comp FieldAt.snd (FieldAt.comp FieldAt.snd FieldAt.snd (by decide)) (by decide))) σ cs (x.Kind, x.P, x.V, x.Write) h
structure Glychgateref06_Value where
  Kind : Int
  N : Int
  Block : Int
  deriving Inhabited, DecidableEq
abbrev t_Glychgateref06_Value : Ty Glychgateref06_Value := (tProd (tInt .i64) (tProd (tInt .i64) (tInt .i64))).comap fun x => (x.Kind, x.N, x.Block)
theorem t_Glychgateref06_Value_r {σ : FS} {cs : List Value} {x : Glychgateref06_Value} : t_Glychgateref06_Value.rel σ cs x ↔ cs = [.int .i64 x.Kind, .int .i64 x.N, .int .i64 x.Block] := by
  constructor
  · intro h; exact (Plain.spec σ cs x).1 h
  · intro h; exact (Plain.spec (T := t_Glychgateref06_Value) σ cs x).2 h
theorem t_Glychgateref06_Value_v {σ : FS} {v : Value} {x : Glychgateref06_Value} : t_Glychgateref06_Value.vrel σ v x ↔ v = .agg #[.int .i64 x.Kind, .int .i64 x.N, .int .i64 x.Block] := by
  rw [vrel_agg rfl]
  constructor
  · rintro ⟨cs, rfl, h⟩; rw [t_Glychgateref06_Value_r.1 h]
  · rintro rfl; exact ⟨_, rfl, t_Glychgateref06_Value_r.2 rfl⟩
theorem f_Glychgateref06_Value_Kind : FieldAt t_Glychgateref06_Value 0 (tInt .i64) (fun x => x.Kind) := fun σ cs x h => (FieldAt.fst) σ cs (x.Kind, x.N, x.Block) h
theorem f_Glychgateref06_Value_N : FieldAt t_Glychgateref06_Value 1 (tInt .i64) (fun x => x.N) := fun σ cs x h => ((FieldAt.comp FieldAt.snd FieldAt.fst (by decide))) σ cs (x.Kind, x.N, x.Block) h
theorem f_Glychgateref06_Value_Block : FieldAt t_Glychgateref06_Value 2 (tInt .i64) (fun x => x.Block) := fun σ cs x h => ((FieldAt.comp FieldAt.snd FieldAt.snd (by decide))) σ cs (x.Kind, x.N, x.Block) h
structure Glychgateref06_Cell where
  Block : Int
  Number : Int
  V : Glychgateref06_Value
  Readers : Int
  Writer : Bool
  deriving Inhabited, DecidableEq
abbrev t_Glychgateref06_Cell : Ty Glychgateref06_Cell := (tProd (tInt .i64) (tProd (tInt .i64) (tProd t_Glychgateref06_Value (tProd (tInt .i64) tBool)))).comap fun x => (x.Block, x.Number, x.V, x.Readers, x.Writer)
theorem t_Glychgateref06_Cell_r {σ : FS} {cs : List Value} {x : Glychgateref06_Cell} : t_Glychgateref06_Cell.rel σ cs x ↔ cs = [.int .i64 x.Block, .int .i64 x.Number, .int .i64 x.V.Kind, .int .i64 x.V.N, .int .i64 x.V.Block, .int .i64 x.Readers, .bool x.Writer] := by
  constructor
  · intro h; exact (Plain.spec σ cs x).1 h
  · intro h; exact (Plain.spec (T := t_Glychgateref06_Cell) σ cs x).2 h
theorem t_Glychgateref06_Cell_v {σ : FS} {v : Value} {x : Glychgateref06_Cell} : t_Glychgateref06_Cell.vrel σ v x ↔ v = .agg #[.int .i64 x.Block, .int .i64 x.Number, .int .i64 x.V.Kind, .int .i64 x.V.N, .int .i64 x.V.Block, .int .i64 x.Readers, .bool x.Writer] := by
  rw [vrel_agg rfl]
  constructor
  · rintro ⟨cs, rfl, h⟩; rw [t_Glychgateref06_Cell_r.1 h]
  · rintro rfl; exact ⟨_, rfl, t_Glychgateref06_Cell_r.2 rfl⟩
theorem f_Glychgateref06_Cell_Block : FieldAt t_Glychgateref06_Cell 0 (tInt .i64) (fun x => x.Block) := fun σ cs x h => (FieldAt.fst) σ cs (x.Block, x.Number, x.V, x.Readers, x.Writer) h
theorem f_Glychgateref06_Cell_Number : FieldAt t_Glychgateref06_Cell 1 (tInt .i64) (fun x => x.Number) := fun σ cs x h => ((FieldAt.comp FieldAt.snd FieldAt.fst (by decide))) σ cs (x.Block, x.Number, x.V, x.Readers, x.Writer) h
theorem f_Glychgateref06_Cell_V : FieldAt t_Glychgateref06_Cell 2 t_Glychgateref06_Value (fun x => x.V) := fun σ cs x h => ((FieldAt.comp FieldAt.snd (FieldAt.comp FieldAt.snd FieldAt.fst (by decide)) (by decide))) σ cs (x.Block, x.Number, x.V, x.Readers, x.Writer) h
theorem f_Glychgateref06_Cell_Readers : FieldAt t_Glychgateref06_Cell 5 (tInt .i64) (fun x => x.Readers) := fun σ cs x h => ((FieldAt.comp FieldAt.snd (FieldAt.comp FieldAt.snd (FieldAt.comp FieldAt.snd FieldAt.fst (by decide)) (by decide)) (by decide))) σ cs (x.Block, x.Number, x.V, x.Readers, x.Writer) h
theorem f_Glychgateref06_Cell_Writer : FieldAt t_Glychgateref06_Cell 6 tBool (fun x => x.Writer) := fun σ cs x h => ((FieldAt.comp FieldAt.snd (FieldAt.comp FieldAt.snd (FieldAt.comp FieldAt.snd FieldAt.snd (by decide)) (by decide)) (by decide))) σ cs (x.Block, x.Number, x.V, x.Readers, x.Writer) h
structure Glychgateref06_Memory where
  Live : Sl Bool
  Sizes : Sl Int
  Cells : Sl Glychgateref06_Cell
  Used : Int
  deriving Inhabited
abbrev t_Glychgateref06_Memory : Ty Glychgateref06_Memory := (tProd (tSl tBool) (tProd (tSl (tInt .i64)) (tProd (tSl t_Glychgateref06_Cell) (tInt .i64)))).comap fun x => (x.Live, x.Sizes, x.Cells, x.Used)
theorem t_Glychgateref06_Memory_r {σ : FS} {cs : List Value} {x : Glychgateref06_Memory} : t_Glychgateref06_Memory.rel σ cs x ↔ ∃ v0 v1 v2 : Value, cs = [v0, v1, v2, .int .i64 x.Used] ∧ (tSl tBool).vrel σ v0 x.Live ∧ (tSl (tInt .i64)).vrel σ v1 x.Sizes ∧ (tSl t_Glychgateref06_Cell).vrel σ v2 x.Cells := by
  constructor
  · intro h
    obtain ⟨_, _, rfl, h0, ⟨_, _, rfl, h1, ⟨_, _, rfl, h2, rfl⟩⟩⟩ := h
    obtain ⟨u0, e0, g0⟩ := leaf_open rfl h0; subst e0
    obtain ⟨u1, e1, g1⟩ := leaf_open rfl h1; subst e1
    obtain ⟨u2, e2, g2⟩ := leaf_open rfl h2; subst e2
    exact ⟨u0, u1, u2, rfl, g0, g1, g2⟩
  · rintro ⟨v0, v1, v2, rfl, k0, k1, k2⟩
    exact ⟨_, _, rfl, (leaf_close rfl k0), ⟨_, _, rfl, (leaf_close rfl k1), ⟨_, _, rfl, (leaf_close rfl k2), rfl⟩⟩⟩
theorem t_Glychgateref06_Memory_v {σ : FS} {v : Value} {x : Glychgateref06_Memory} : t_Glychgateref06_Memory.vrel σ v x ↔ ∃ v0 v1 v2 : Value, v = .agg #[v0, v1, v2, .int .i64 x.Used] ∧ (tSl tBool).vrel σ v0 x.Live ∧ (tSl (tInt .i64)).vrel σ v1 x.Sizes ∧ (tSl t_Glychgateref06_Cell).vrel σ v2 x.Cells := by
  rw [vrel_agg rfl]
  constructor
  · rintro ⟨cs, rfl, h⟩; obtain ⟨v0, v1, v2, e1, h1⟩ := t_Glychgateref06_Memory_r.1 h; subst e1; exact ⟨v0, v1, v2, rfl, h1⟩
  · rintro ⟨v0, v1, v2, rfl, h⟩; exact ⟨_, rfl, t_Glychgateref06_Memory_r.2 ⟨v0, v1, v2, rfl, h⟩⟩
theorem f_Glychgateref06_Memory_Live : FieldAt t_Glychgateref06_Memory 0 (tSl tBool) (fun x => x.Live) := fun σ cs x h => (FieldAt.fst) σ cs (x.Live, x.Sizes, x.Cells, x.Used) h
theorem f_Glychgateref06_Memory_Sizes : FieldAt t_Glychgateref06_Memory 1 (tSl (tInt .i64)) (fun x => x.Sizes) := fun σ cs x h => ((FieldAt.comp FieldAt.snd FieldAt.fst (by decide))) σ cs (x.Live, x.Sizes, x.Cells, x.Used) h
theorem f_Glychgateref06_Memory_Cells : FieldAt t_Glychgateref06_Memory 2 (tSl t_Glychgateref06_Cell) (fun x => x.Cells) := fun σ cs x h => ((FieldAt.comp FieldAt.snd (FieldAt.comp FieldAt.snd FieldAt.fst (by decide)) (by decide))) σ cs (x.Live, x.Sizes, x.Cells, x.Used) h
theorem f_Glychgateref06_Memory_Used : FieldAt t_Glychgateref06_Memory 3 (tInt .i64) (fun x => x.Used) := fun σ cs x h => ((FieldAt.comp FieldAt.snd (FieldAt.comp FieldAt.snd FieldAt.snd (by decide)) (by decide))) σ cs (x.Live, x.Sizes, x.Cells, x.Used) h
abbrev o_Glychgateref06_Memory : OTy Glychgateref06_Memory := ((oProd (oRow (tBool).o 4) (oProd (oRow ((tInt .i64)).o 2) (oProd (oRow (t_Glychgateref06_Cell).o 85) ((tInt .i64)).o)))).comap fun x => (x.Live, x.Sizes, x.Cells, x.Used)
theorem of_Glychgateref06_Memory_Used : OFieldAt o_Glychgateref06_Memory 3 (tInt .i64) (fun x => x.Used) := fun σ h cs x r => (OFieldAt.snd (OFieldAt.snd (OFieldAt.snd OFieldAt.self))) σ h cs (x.Live, x.Sizes, x.Cells, x.Used) r
theorem eq_Gmem_Value {x y : Gmem_Value} : EqAtD Try.prog 29 2 (.agg #[.int .i64 x.Kind, .int .i64 x.N, .int .i64 x.Block]) (.agg #[.int .i64 y.Kind, .int .i64 y.N, .int .i64 y.Block]) (decide (x = y)) := by
  have h : ((decide (x.Kind = y.Kind) && (decide (x.N = y.N) && (decide (x.Block = y.Block) && true)))) = decide (x = y) := by cases x; cases y; rw [Bool.eq_iff_iff]; simp
  rw [← h]; exact EqAtD.struct Try.pu29 (by kernel_rfl) (⟨_, _, _, _, (part_run (cs := [.int .i64 x.Kind, .int .i64 x.N, .int .i64 x.Block]) (cs' := [.int .i64 x.Kind]) Try.pu27 Try.pi27 rfl rfl (by decide) rfl), (part_run (cs := [.int .i64 y.Kind, .int .i64 y.N, .int .i64 y.Block]) (cs' := [.int .i64 y.Kind]) Try.pu27 Try.pi27 rfl rfl (by decide) rfl), by decide, (EqAtD.int Try.pu27).mono (d' := 1) (by decide), ⟨_, _, _, _, (part_run (cs := [.int .i64 x.Kind, .int .i64 x.N, .int .i64 x.Block]) (cs' := [.int .i64 x.N]) Try.pu2 Try.pi2 rfl rfl (by decide) rfl), (part_run (cs := [.int .i64 y.Kind, .int .i64 y.N, .int .i64 y.Block]) (cs' := [.int .i64 y.N]) Try.pu2 Try.pi2 rfl rfl (by decide) rfl), by decide, (EqAtD.int Try.pu2).mono (d' := 1) (by decide), ⟨_, _, _, _, (part_run (cs := [.int .i64 x.Kind, .int .i64 x.N, .int .i64 x.Block]) (cs' := [.int .i64 x.Block]) Try.pu3 Try.pi3 rfl rfl (by decide) rfl), (part_run (cs := [.int .i64 y.Kind, .int .i64 y.N, .int .i64 y.Block]) (cs' := [.int .i64 y.Block]) Try.pu3 Try.pi3 rfl rfl (by decide) rfl), by decide, (EqAtD.int Try.pu3).mono (d' := 1) (by decide), rfl, rfl⟩, rfl⟩, rfl⟩)
theorem eq_Glychgateref06_Value {x y : Glychgateref06_Value} : EqAtD Try.prog 74 2 (.agg #[.int .i64 x.Kind, .int .i64 x.N, .int .i64 x.Block]) (.agg #[.int .i64 y.Kind, .int .i64 y.N, .int .i64 y.Block]) (decide (x = y)) := by
  have h : ((decide (x.Kind = y.Kind) && (decide (x.N = y.N) && (decide (x.Block = y.Block) && true)))) = decide (x = y) := by cases x; cases y; rw [Bool.eq_iff_iff]; simp
  rw [← h]; exact EqAtD.struct Try.pu74 (by kernel_rfl) (⟨_, _, _, _, (part_run (cs := [.int .i64 x.Kind, .int .i64 x.N, .int .i64 x.Block]) (cs' := [.int .i64 x.Kind]) Try.pu3 Try.pi3 rfl rfl (by decide) rfl), (part_run (cs := [.int .i64 y.Kind, .int .i64 y.N, .int .i64 y.Block]) (cs' := [.int .i64 y.Kind]) Try.pu3 Try.pi3 rfl rfl (by decide) rfl), by decide, (EqAtD.int Try.pu3).mono (d' := 1) (by decide), ⟨_, _, _, _, (part_run (cs := [.int .i64 x.Kind, .int .i64 x.N, .int .i64 x.Block]) (cs' := [.int .i64 x.N]) Try.pu2 Try.pi2 rfl rfl (by decide) rfl), (part_run (cs := [.int .i64 y.Kind, .int .i64 y.N, .int .i64 y.Block]) (cs' := [.int .i64 y.N]) Try.pu2 Try.pi2 rfl rfl (by decide) rfl), by decide, (EqAtD.int Try.pu2).mono (d' := 1) (by decide), ⟨_, _, _, _, (part_run (cs := [.int .i64 x.Kind, .int .i64 x.N, .int .i64 x.Block]) (cs' := [.int .i64 x.Block]) Try.pu3 Try.pi3 rfl rfl (by decide) rfl), (part_run (cs := [.int .i64 y.Kind, .int .i64 y.N, .int .i64 y.Block]) (cs' := [.int .i64 y.Block]) Try.pu3 Try.pi3 rfl rfl (by decide) rfl), by decide, (EqAtD.int Try.pu3).mono (d' := 1) (by decide), rfl, rfl⟩, rfl⟩, rfl⟩)
theorem rd_GSt50 : Rd Try.prog 50 t_GSt50 (fun x => 1 + 1 + 1) (fun x => True ∧ True) where
  open_ := by
    intro H enc m hm W fuel cs x h
    obtain ⟨hl, n, xs, hx, hlen, hf⟩ := arr_open Try.pu50 h
    obtain ⟨y0, hy0, ht0⟩ := hf 0 (by decide)
    obtain ⟨a0, r0, w0, g0⟩ := (rd_bool Try.pu4 Try.pc4).open_ enc m hm W n _ _ ht0
    replace r0 : tBool.rel (snap W) ((cs.drop 0).take 1) a0 := by rw [show Try.prog.cellsOf 4 = 1 from Try.pc4] at r0; exact r0
    obtain ⟨y1, hy1, ht1⟩ := hf 1 (by decide)
    obtain ⟨a1, r1, w1, g1⟩ := (rd_bool Try.pu4 Try.pc4).open_ enc m hm W n _ _ ht1
    replace r1 : tBool.rel (snap W) ((cs.drop 1).take 1) a1 := by rw [show Try.prog.cellsOf 4 = 1 from Try.pc4] at r1; exact r1
    have hcs : cs = (cs.drop 0).take 2 := by rw [Try.pc50] at hl; rw [List.drop_zero, ← hl, List.take_length]
    refine ⟨⟨a0, a1⟩, ?_, ?_, ⟨g0, g1⟩⟩
    · rw [hcs]; exact (prod_at r0 r1 rfl)
    · have hag := hm.agg (xs.map (·.1))
      rw [← hx] at hag
      match xs, hlen with
      | [z0, z1], _ =>
        simp at hy0 hy1
        subst hy0; subst hy1
        simp only [List.map_cons, List.map_nil, List.sum_cons, List.sum_nil] at hag
        try simp only at w0 w1
        try simp only
        omega
  shape := shape_array Try.pu50
  size := Try.pc50
theorem rd_Gmem_Value : Rd Try.prog 29 t_Gmem_Value (fun x => 1 + 1 + 1 + 1) (fun x => (IntKind.i64.min ≤ x.Kind ∧ x.Kind ≤ IntKind.i64.max) ∧ (IntKind.i64.min ≤ x.N ∧ x.N ≤ IntKind.i64.max) ∧ (IntKind.i64.min ≤ x.Block ∧ x.Block ≤ IntKind.i64.max)) where
  open_ := by
    intro H enc m hm W fuel cs x h
    obtain ⟨hl, n, xs, hx, hlen, hf⟩ := struct_open Try.pu29 h
    obtain ⟨y0, hy0, ht0⟩ := hf 0 (Try.pf29.getD 0 default) rfl
    obtain ⟨a0, r0, w0, g0⟩ := (rd_int Try.pu27 Try.pc27).open_ enc m hm W n _ _ ht0
    replace r0 : (tInt .i64).rel (snap W) ((cs.drop 0).take 1) a0 := by rw [show Try.prog.cellsOf (Try.pf29.getD 0 default).type = 1 from Try.pc27] at r0; exact r0
    obtain ⟨y1, hy1, ht1⟩ := hf 1 (Try.pf29.getD 1 default) rfl
    obtain ⟨a1, r1, w1, g1⟩ := (rd_int Try.pu2 Try.pc2).open_ enc m hm W n _ _ ht1
    replace r1 : (tInt .i64).rel (snap W) ((cs.drop 1).take 1) a1 := by rw [show Try.prog.cellsOf (Try.pf29.getD 1 default).type = 1 from Try.pc2] at r1; exact r1
    obtain ⟨y2, hy2, ht2⟩ := hf 2 (Try.pf29.getD 2 default) rfl
    obtain ⟨a2, r2, w2, g2⟩ := (rd_int Try.pu3 Try.pc3).open_ enc m hm W n _ _ ht2
    replace r2 : (tInt .i64).rel (snap W) ((cs.drop 2).take 1) a2 := by rw [show Try.prog.cellsOf (Try.pf29.getD 2 default).type = 1 from Try.pc3] at r2; exact r2
    have hcs : cs = (cs.drop 0).take 3 := by rw [Try.pc29] at hl; rw [List.drop_zero, ← hl, List.take_length]
    refine ⟨⟨a0, a1, a2⟩, ?_, ?_, ⟨g0, g1, g2⟩⟩
    · rw [hcs]; exact (prod_at r0 (prod_at r1 r2 rfl) rfl)
    · have hag := hm.agg (xs.map (·.1))
      rw [← hx] at hag
      match xs, hlen with
      | [z0, z1, z2], _ =>
        simp at hy0 hy1 hy2
        subst hy0; subst hy1; subst hy2
        simp only [List.map_cons, List.map_nil, List.sum_cons, List.sum_nil] at hag
        try simp only at w0 w1 w2
        try simp only
        omega
  shape := shape_struct Try.pu29
  size := Try.pc29
theorem rd_Glychgatelaw06_Op : Rd Try.prog 58 t_Glychgatelaw06_Op (fun x => 1 + (1 + 1 + 1 + 1) + (1 + 1 + 1 + 1) + 1 + 1) (fun x => (IntKind.i64.min ≤ x.Kind ∧ x.Kind ≤ IntKind.i64.max) ∧ ((IntKind.i64.min ≤ x.P.Kind ∧ x.P.Kind ≤ IntKind.i64.max) ∧ (IntKind.i64.min ≤ x.P.N ∧ x.P.N ≤ IntKind.i64.max) ∧ (IntKind.i64.min ≤ x.P.Block ∧ x.P.Block ≤ IntKind.i64.max)) ∧ ((IntKind.i64.min ≤ x.V.Kind ∧ x.V.Kind ≤ IntKind.i64.max) ∧ (IntKind.i64.min ≤ x.V.N ∧ x.V.N ≤ IntKind.i64.max) ∧ (IntKind.i64.min ≤ x.V.Block ∧ x.V.Block ≤ IntKind.i64.max)) ∧ True) where
  open_ := by
    intro H enc m hm W fuel cs x h
    obtain ⟨hl, n, xs, hx, hlen, hf⟩ := struct_open Try.pu58 h
    obtain ⟨y0, hy0, ht0⟩ := hf 0 (Try.pf58.getD 0 default) rfl
    obtain ⟨a0, r0, w0, g0⟩ := (rd_int Try.pu3 Try.pc3).open_ enc m hm W n _ _ ht0
    replace r0 : (tInt .i64).rel (snap W) ((cs.drop 0).take 1) a0 := by rw [show Try.prog.cellsOf (Try.pf58.getD 0 default).type = 1 from Try.pc3] at r0; exact r0
    obtain ⟨y1, hy1, ht1⟩ := hf 1 (Try.pf58.getD 1 default) rfl
    obtain ⟨a1, r1, w1, g1⟩ := rd_Gmem_Value.open_ enc m hm W n _ _ ht1
    replace r1 : t_Gmem_Value.rel (snap W) ((cs.drop 1).take 3) a1 := by rw [show Try.prog.cellsOf (Try.pf58.getD 1 default).type = 3 from Try.pc29] at r1; exact r1
    obtain ⟨y2, hy2, ht2⟩ := hf 2 (Try.pf58.getD 2 default) rfl
    obtain ⟨a2, r2, w2, g2⟩ := rd_Gmem_Value.open_ enc m hm W n _ _ ht2
    replace r2 : t_Gmem_Value.rel (snap W) ((cs.drop 4).take 3) a2 := by rw [show Try.prog.cellsOf (Try.pf58.getD 2 default).type = 3 from Try.pc29] at r2; exact r2
    obtain ⟨y3, hy3, ht3⟩ := hf 3 (Try.pf58.getD 3 default) rfl
    obtain ⟨a3, r3, w3, g3⟩ := (rd_bool Try.pu4 Try.pc4).open_ enc m hm W n _ _ ht3
    replace r3 : tBool.rel (snap W) ((cs.drop 7).take 1) a3 := by rw [show Try.prog.cellsOf (Try.pf58.getD 3 default).type = 1 from Try.pc4] at r3; exact r3
    have hcs : cs = (cs.drop 0).take 8 := by rw [Try.pc58] at hl; rw [List.drop_zero, ← hl, List.take_length]
    refine ⟨⟨a0, a1, a2, a3⟩, ?_, ?_, ⟨g0, g1, g2, g3⟩⟩
    · rw [hcs]; exact (prod_at r0 (prod_at r1 (prod_at r2 r3 rfl) rfl) rfl)
    · have hag := hm.agg (xs.map (·.1))
      rw [← hx] at hag
      match xs, hlen with
      | [z0, z1, z2, z3], _ =>
        simp at hy0 hy1 hy2 hy3
        subst hy0; subst hy1; subst hy2; subst hy3
        simp only [List.map_cons, List.map_nil, List.sum_cons, List.sum_nil] at hag
        try simp only at w0 w1 w2 w3
        try simp only
        omega
  shape := shape_struct Try.pu58
  size := Try.pc58
end Go.Px
