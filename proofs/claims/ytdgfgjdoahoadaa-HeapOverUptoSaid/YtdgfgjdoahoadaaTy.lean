/- The types of the program that the models use. -/
import Derived.Test.YtdgfgjdoahoadaaProg
import Derived.Test.YtdgfgjdoahoadaaC8
namespace Go.Px
open Go.Proofs
set_option linter.unusedVariables false
theorem Try.mixed : Try.prog.follows .mixedOrders = true := by kernel_rfl
theorem Try.pu2 : Try.prog.underlying 2 = some (.int .i64) := by kernel_rfl
theorem Try.pu3 : Try.prog.underlying 3 = some (.int .i64) := by kernel_rfl
theorem Try.pu4 : Try.prog.underlying 4 = some .bool := by kernel_rfl
theorem Try.pu22 : Try.prog.underlying 22 = some (.slice 39) := by kernel_rfl
theorem Try.pu23 : Try.prog.underlying 23 = some (.slice 33) := by kernel_rfl
theorem Try.pu24 : Try.prog.underlying 24 = some (.slice 2) := by kernel_rfl
theorem Try.pu25 : Try.prog.underlying 25 = some (.pointer 28) := by kernel_rfl
theorem Try.pu26 : Try.prog.underlying 26 = some (.slice 49) := by kernel_rfl
noncomputable def Try.pf28 : Array Field := fieldsOf Try.t27.desc
theorem Try.pu28 : Try.prog.underlying 28 = some (.struct Try.pf28) := by kernel_rfl
theorem Try.pu31 : Try.prog.underlying 31 = some (.int .i64) := by kernel_rfl
noncomputable def Try.pf33 : Array Field := fieldsOf Try.t32.desc
theorem Try.pu33 : Try.prog.underlying 33 = some (.struct Try.pf33) := by kernel_rfl
noncomputable def Try.pf39 : Array Field := fieldsOf Try.t38.desc
theorem Try.pu39 : Try.prog.underlying 39 = some (.struct Try.pf39) := by kernel_rfl
theorem Try.pu41 : Try.prog.underlying 41 = some (.slice 51) := by kernel_rfl
theorem Try.pu43 : Try.prog.underlying 43 = some (.slice 80) := by kernel_rfl
theorem Try.pu44 : Try.prog.underlying 44 = some (.slice 55) := by kernel_rfl
noncomputable def Try.pf46 : Array Field := fieldsOf Try.t45.desc
theorem Try.pu46 : Try.prog.underlying 46 = some (.struct Try.pf46) := by kernel_rfl
theorem Try.pu47 : Try.prog.underlying 47 = some (.int .i64) := by kernel_rfl
noncomputable def Try.pf49 : Array Field := fieldsOf Try.t48.desc
theorem Try.pu49 : Try.prog.underlying 49 = some (.struct Try.pf49) := by kernel_rfl
noncomputable def Try.pf51 : Array Field := fieldsOf Try.t50.desc
theorem Try.pu51 : Try.prog.underlying 51 = some (.struct Try.pf51) := by kernel_rfl
noncomputable def Try.pf55 : Array Field := fieldsOf Try.t38.desc
theorem Try.pu55 : Try.prog.underlying 55 = some (.struct Try.pf55) := by kernel_rfl
noncomputable def Try.pf75 : Array Field := fieldsOf Try.t74.desc
theorem Try.pu75 : Try.prog.underlying 75 = some (.struct Try.pf75) := by kernel_rfl
theorem Try.pu78 : Try.prog.underlying 78 = some (.slice 75) := by kernel_rfl
noncomputable def Try.pf80 : Array Field := fieldsOf Try.t79.desc
theorem Try.pu80 : Try.prog.underlying 80 = some (.struct Try.pf80) := by kernel_rfl
theorem Try.pu100 : Try.prog.underlying 100 = some (.slice 3) := by kernel_rfl
theorem Try.pi2 : Try.prog.info? 2 = some Try.t2 := by kernel_rfl
theorem Try.pi3 : Try.prog.info? 3 = some Try.t3 := by kernel_rfl
theorem Try.pi4 : Try.prog.info? 4 = some Try.t4 := by kernel_rfl
theorem Try.pi22 : Try.prog.info? 22 = some Try.t22 := by kernel_rfl
theorem Try.pi23 : Try.prog.info? 23 = some Try.t23 := by kernel_rfl
theorem Try.pi24 : Try.prog.info? 24 = some Try.t24 := by kernel_rfl
theorem Try.pi25 : Try.prog.info? 25 = some Try.t25 := by kernel_rfl
theorem Try.pi26 : Try.prog.info? 26 = some Try.t26 := by kernel_rfl
theorem Try.pi28 : Try.prog.info? 28 = some Try.t28 := by kernel_rfl
theorem Try.pi31 : Try.prog.info? 31 = some Try.t31 := by kernel_rfl
theorem Try.pi33 : Try.prog.info? 33 = some Try.t33 := by kernel_rfl
theorem Try.pi39 : Try.prog.info? 39 = some Try.t39 := by kernel_rfl
theorem Try.pi43 : Try.prog.info? 43 = some Try.t43 := by kernel_rfl
theorem Try.pi44 : Try.prog.info? 44 = some Try.t44 := by kernel_rfl
theorem Try.pi46 : Try.prog.info? 46 = some Try.t46 := by kernel_rfl
theorem Try.pi47 : Try.prog.info? 47 = some Try.t47 := by kernel_rfl
theorem Try.pi49 : Try.prog.info? 49 = some Try.t49 := by kernel_rfl
theorem Try.pi51 : Try.prog.info? 51 = some Try.t51 := by kernel_rfl
theorem Try.pi55 : Try.prog.info? 55 = some Try.t55 := by kernel_rfl
theorem Try.pi75 : Try.prog.info? 75 = some Try.t75 := by kernel_rfl
theorem Try.pi78 : Try.prog.info? 78 = some Try.t78 := by kernel_rfl
theorem Try.pi80 : Try.prog.info? 80 = some Try.t80 := by kernel_rfl
theorem Try.pc2 : Try.prog.cellsOf 2 = 1 := by kernel_rfl
theorem Try.pc3 : Try.prog.cellsOf 3 = 1 := by kernel_rfl
theorem Try.pc4 : Try.prog.cellsOf 4 = 1 := by kernel_rfl
theorem Try.pc22 : Try.prog.cellsOf 22 = 1 := by kernel_rfl
theorem Try.pc23 : Try.prog.cellsOf 23 = 1 := by kernel_rfl
theorem Try.pc24 : Try.prog.cellsOf 24 = 1 := by kernel_rfl
theorem Try.pc31 : Try.prog.cellsOf 31 = 1 := by kernel_rfl
theorem Try.pc33 : Try.prog.cellsOf 33 = 4 := by kernel_rfl
theorem Try.pc39 : Try.prog.cellsOf 39 = 3 := by kernel_rfl
theorem Try.pc41 : Try.prog.cellsOf 41 = 1 := by kernel_rfl
theorem Try.pc47 : Try.prog.cellsOf 47 = 1 := by kernel_rfl
theorem Try.pc49 : Try.prog.cellsOf 49 = 11 := by kernel_rfl
theorem Try.pc51 : Try.prog.cellsOf 51 = 26 := by kernel_rfl
theorem Try.pn8 : (Try.f8.name == "runtime.NumGoroutine") = false := by kernel_rfl
theorem Try.pn9 : (Try.f9.name == "runtime.NumGoroutine") = false := by kernel_rfl
theorem Try.pn10 : (Try.f10.name == "runtime.NumGoroutine") = false := by kernel_rfl
theorem Try.pn11 : (Try.f11.name == "runtime.NumGoroutine") = false := by kernel_rfl
theorem Try.pn12 : (Try.f12.name == "runtime.NumGoroutine") = false := by kernel_rfl
theorem Try.pn13 : (Try.f13.name == "runtime.NumGoroutine") = false := by kernel_rfl
theorem Try.pn14 : (Try.f14.name == "runtime.NumGoroutine") = false := by kernel_rfl
theorem Try.pn15 : (Try.f15.name == "runtime.NumGoroutine") = false := by kernel_rfl
theorem Try.pn16 : (Try.f16.name == "runtime.NumGoroutine") = false := by kernel_rfl
theorem Try.pn17 : (Try.f17.name == "runtime.NumGoroutine") = false := by kernel_rfl
theorem Try.pn18 : (Try.f18.name == "runtime.NumGoroutine") = false := by kernel_rfl
theorem Try.pn19 : (Try.f19.name == "runtime.NumGoroutine") = false := by kernel_rfl
theorem Try.pn20 : (Try.f20.name == "runtime.NumGoroutine") = false := by kernel_rfl
theorem Try.pn21 : (Try.f21.name == "runtime.NumGoroutine") = false := by kernel_rfl
theorem Try.pn22 : (Try.f22.name == "runtime.NumGoroutine") = false := by kernel_rfl
theorem Try.pn23 : (Try.f23.name == "runtime.NumGoroutine") = false := by kernel_rfl
theorem Try.pn24 : (Try.f24.name == "runtime.NumGoroutine") = false := by kernel_rfl
theorem Try.pn25 : (Try.f25.name == "runtime.NumGoroutine") = false := by kernel_rfl
theorem Try.pn26 : (Try.f26.name == "runtime.NumGoroutine") = false := by kernel_rfl
theorem Try.pn27 : (Try.f27.name == "runtime.NumGoroutine") = false := by kernel_rfl
theorem Try.pn28 : (Try.f28.name == "runtime.NumGoroutine") = false := by kernel_rfl
theorem Try.pn29 : (Try.f29.name == "runtime.NumGoroutine") = false := by kernel_rfl
theorem Try.pn30 : (Try.f30.name == "runtime.NumGoroutine") = false := by kernel_rfl
theorem Try.pn31 : (Try.f31.name == "runtime.NumGoroutine") = false := by kernel_rfl
theorem Try.pn32 : (Try.f32.name == "runtime.NumGoroutine") = false := by kernel_rfl
theorem Try.pn33 : (Try.f33.name == "runtime.NumGoroutine") = false := by kernel_rfl
theorem Try.pn34 : (Try.f34.name == "runtime.NumGoroutine") = false := by kernel_rfl
theorem Try.pn35 : (Try.f35.name == "runtime.NumGoroutine") = false := by kernel_rfl
theorem Try.pn36 : (Try.f36.name == "runtime.NumGoroutine") = false := by kernel_rfl
theorem Try.pn37 : (Try.f37.name == "runtime.NumGoroutine") = false := by kernel_rfl
theorem Try.pn38 : (Try.f38.name == "runtime.NumGoroutine") = false := by kernel_rfl
theorem Try.pn39 : (Try.f39.name == "runtime.NumGoroutine") = false := by kernel_rfl
theorem Try.pn40 : (Try.f40.name == "runtime.NumGoroutine") = false := by kernel_rfl
theorem Try.pn41 : (Try.f41.name == "runtime.NumGoroutine") = false := by kernel_rfl
theorem Try.pn42 : (Try.f42.name == "runtime.NumGoroutine") = false := by kernel_rfl
theorem Try.pn43 : (Try.f43.name == "runtime.NumGoroutine") = false := by kernel_rfl
theorem Try.pn44 : (Try.f44.name == "runtime.NumGoroutine") = false := by kernel_rfl
theorem Try.pn45 : (Try.f45.name == "runtime.NumGoroutine") = false := by kernel_rfl
theorem Try.pn46 : (Try.f46.name == "runtime.NumGoroutine") = false := by kernel_rfl
theorem Try.pn47 : (Try.f47.name == "runtime.NumGoroutine") = false := by kernel_rfl
theorem Try.pn48 : (Try.f48.name == "runtime.NumGoroutine") = false := by kernel_rfl
theorem Try.pn49 : (Try.f49.name == "runtime.NumGoroutine") = false := by kernel_rfl
theorem Try.pn50 : (Try.f50.name == "runtime.NumGoroutine") = false := by kernel_rfl
theorem Try.pn51 : (Try.f51.name == "runtime.NumGoroutine") = false := by kernel_rfl
theorem Try.pn52 : (Try.f52.name == "runtime.NumGoroutine") = false := by kernel_rfl
theorem Try.pn53 : (Try.f53.name == "runtime.NumGoroutine") = false := by kernel_rfl
theorem Try.pn54 : (Try.f54.name == "runtime.NumGoroutine") = false := by kernel_rfl
theorem Try.pn55 : (Try.f55.name == "runtime.NumGoroutine") = false := by kernel_rfl
theorem Try.pn56 : (Try.f56.name == "runtime.NumGoroutine") = false := by kernel_rfl
theorem Try.pn57 : (Try.f57.name == "runtime.NumGoroutine") = false := by kernel_rfl
theorem Try.pn58 : (Try.f58.name == "runtime.NumGoroutine") = false := by kernel_rfl
theorem Try.pn59 : (Try.f59.name == "runtime.NumGoroutine") = false := by kernel_rfl
theorem Try.pn60 : (Try.f60.name == "runtime.NumGoroutine") = false := by kernel_rfl
theorem Try.pn61 : (Try.f61.name == "runtime.NumGoroutine") = false := by kernel_rfl
theorem Try.pn62 : (Try.f62.name == "runtime.NumGoroutine") = false := by kernel_rfl
theorem Try.pn63 : (Try.f63.name == "runtime.NumGoroutine") = false := by kernel_rfl
theorem Try.pn64 : (Try.f64.name == "runtime.NumGoroutine") = false := by kernel_rfl
theorem Try.pn65 : (Try.f65.name == "runtime.NumGoroutine") = false := by kernel_rfl
theorem Try.pn66 : (Try.f66.name == "runtime.NumGoroutine") = false := by kernel_rfl
theorem Try.pn67 : (Try.f67.name == "runtime.NumGoroutine") = false := by kernel_rfl
theorem Try.pn68 : (Try.f68.name == "runtime.NumGoroutine") = false := by kernel_rfl
theorem Try.pn69 : (Try.f69.name == "runtime.NumGoroutine") = false := by kernel_rfl
theorem Try.pn70 : (Try.f70.name == "runtime.NumGoroutine") = false := by kernel_rfl
structure Gdiff_Leq where
  X : Int
  Y : Int
  C : Int
  deriving Inhabited, DecidableEq
abbrev t_Gdiff_Leq : Ty Gdiff_Leq := (tProd (tInt .i64) (tProd (tInt .i64) (tInt .i64))).comap fun x => (x.X, x.Y, x.C)
theorem t_Gdiff_Leq_r {σ : FS} {cs : List Value} {x : Gdiff_Leq} : t_Gdiff_Leq.rel σ cs x ↔ cs = [.int .i64 x.X, .int .i64 x.Y, .int .i64 x.C] := by
  constructor
  · intro h; exact (Plain.spec σ cs x).1 h
  · intro h; exact (Plain.spec (T := t_Gdiff_Leq) σ cs x).2 h
theorem t_Gdiff_Leq_v {σ : FS} {v : Value} {x : Gdiff_Leq} : t_Gdiff_Leq.vrel σ v x ↔ v = .agg #[.int .i64 x.X, .int .i64 x.Y, .int .i64 x.C] := by
  rw [vrel_agg rfl]
  constructor
  · rintro ⟨cs, rfl, h⟩; rw [t_Gdiff_Leq_r.1 h]
  · rintro rfl; exact ⟨_, rfl, t_Gdiff_Leq_r.2 rfl⟩
theorem f_Gdiff_Leq_X : FieldAt t_Gdiff_Leq 0 (tInt .i64) (fun x => x.X) := fun σ cs x h => (FieldAt.fst) σ cs (x.X, x.Y, x.C) h
theorem f_Gdiff_Leq_Y : FieldAt t_Gdiff_Leq 1 (tInt .i64) (fun x => x.Y) := fun σ cs x h => ((FieldAt.comp FieldAt.snd FieldAt.fst (by decide))) σ cs (x.X, x.Y, x.C) h
theorem f_Gdiff_Leq_C : FieldAt t_Gdiff_Leq 2 (tInt .i64) (fun x => x.C) := fun σ cs x h => ((FieldAt.comp FieldAt.snd FieldAt.snd (by decide))) σ cs (x.X, x.Y, x.C) h
structure Gheap_Sym where
  Kind : Int
  Var : Int
  K : Int
  Block : Int
  deriving Inhabited, DecidableEq
abbrev t_Gheap_Sym : Ty Gheap_Sym := (tProd (tInt .i64) (tProd (tInt .i64) (tProd (tInt .i64) (tInt .i64)))).comap fun x => (x.Kind, x.Var, x.K, x.Block)
theorem t_Gheap_Sym_r {σ : FS} {cs : List Value} {x : Gheap_Sym} : t_Gheap_Sym.rel σ cs x ↔ cs = [.int .i64 x.Kind, .int .i64 x.Var, .int .i64 x.K, .int .i64 x.Block] := by
  constructor
  · intro h; exact (Plain.spec σ cs x).1 h
  · intro h; exact (Plain.spec (T := t_Gheap_Sym) σ cs x).2 h
theorem t_Gheap_Sym_v {σ : FS} {v : Value} {x : Gheap_Sym} : t_Gheap_Sym.vrel σ v x ↔ v = .agg #[.int .i64 x.Kind, .int .i64 x.Var, .int .i64 x.K, .int .i64 x.Block] := by
  rw [vrel_agg rfl]
  constructor
  · rintro ⟨cs, rfl, h⟩; rw [t_Gheap_Sym_r.1 h]
  · rintro rfl; exact ⟨_, rfl, t_Gheap_Sym_r.2 rfl⟩
theorem f_Gheap_Sym_Kind : FieldAt t_Gheap_Sym 0 (tInt .i64) (fun x => x.Kind) := fun σ cs x h => (FieldAt.fst) σ cs (x.Kind, x.Var, x.K, x.Block) h
theorem f_Gheap_Sym_Var : FieldAt t_Gheap_Sym 1 (tInt .i64) (fun x => x.Var) := fun σ cs x h => ((FieldAt.comp FieldAt.snd FieldAt.fst (by decide))) σ cs (x.Kind, x.Var, x.K, x.Block) h
theorem f_Gheap_Sym_K : FieldAt t_Gheap_Sym 2 (tInt .i64) (fun x => x.K) := fun σ cs x h => ((FieldAt.comp FieldAt.snd (FieldAt.comp FieldAt.snd FieldAt.fst (by decide)) (by decide))) σ cs (x.Kind, x.Var, x.K, x.Block) h
theorem f_Gheap_Sym_Block : FieldAt t_Gheap_Sym 3 (tInt .i64) (fun x => x.Block) := fun σ cs x h => ((FieldAt.comp FieldAt.snd (FieldAt.comp FieldAt.snd FieldAt.snd (by decide)) (by decide))) σ cs (x.Kind, x.Var, x.K, x.Block) h
structure Gheap_Chunk where
  Origin : Int
  Type_ : Int
  At : Int
  Live : Bool
  Held : Bool
  Array : Bool
  Size : Gheap_Sym
  Cells : Sl Gheap_Sym
  deriving Inhabited
abbrev t_Gheap_Chunk : Ty Gheap_Chunk := (tProd (tInt .i64) (tProd (tInt .i64) (tProd (tInt .i64) (tProd tBool (tProd tBool (tProd tBool (tProd t_Gheap_Sym (tSl t_Gheap_Sym)))))))).comap fun x => (x.Origin, x.Type_, x.At, x.Live, x.Held, x.Array, x.Size, x.Cells)
theorem t_Gheap_Chunk_r {σ : FS} {cs : List Value} {x : Gheap_Chunk} : t_Gheap_Chunk.rel σ cs x ↔ ∃ v10 : Value, cs = [.int .i64 x.Origin, .int .i64 x.Type_, .int .i64 x.At, .bool x.Live, .bool x.Held, .bool x.Array, .int .i64 x.Size.Kind, .int .i64 x.Size.Var, .int .i64 x.Size.K, .int .i64 x.Size.Block, v10] ∧ (tSl t_Gheap_Sym).vrel σ v10 x.Cells := by
  constructor
  · intro h
    obtain ⟨_, _, rfl, rfl, ⟨_, _, rfl, rfl, ⟨_, _, rfl, rfl, ⟨_, _, rfl, rfl, ⟨_, _, rfl, rfl, ⟨_, _, rfl, rfl, ⟨_, _, rfl, h0, h1⟩⟩⟩⟩⟩⟩⟩ := h
    obtain rfl := t_Gheap_Sym_r.1 h0
    obtain ⟨u1, e1, g1⟩ := leaf_open rfl h1; subst e1
    exact ⟨u1, rfl, g1⟩
  · rintro ⟨v10, rfl, k0⟩
    exact ⟨_, _, rfl, rfl, ⟨_, _, rfl, rfl, ⟨_, _, rfl, rfl, ⟨_, _, rfl, rfl, ⟨_, _, rfl, rfl, ⟨_, _, rfl, rfl, ⟨_, _, rfl, (t_Gheap_Sym_r.2 rfl), (leaf_close rfl k0)⟩⟩⟩⟩⟩⟩⟩
theorem t_Gheap_Chunk_v {σ : FS} {v : Value} {x : Gheap_Chunk} : t_Gheap_Chunk.vrel σ v x ↔ ∃ v10 : Value, v = .agg #[.int .i64 x.Origin, .int .i64 x.Type_, .int .i64 x.At, .bool x.Live, .bool x.Held, .bool x.Array, .int .i64 x.Size.Kind, .int .i64 x.Size.Var, .int .i64 x.Size.K, .int .i64 x.Size.Block, v10] ∧ (tSl t_Gheap_Sym).vrel σ v10 x.Cells := by
  rw [vrel_agg rfl]
  constructor
  · rintro ⟨cs, rfl, h⟩; obtain ⟨v10, e1, h1⟩ := t_Gheap_Chunk_r.1 h; subst e1; exact ⟨v10, rfl, h1⟩
  · rintro ⟨v10, rfl, h⟩; exact ⟨_, rfl, t_Gheap_Chunk_r.2 ⟨v10, rfl, h⟩⟩
theorem f_Gheap_Chunk_Origin : FieldAt t_Gheap_Chunk 0 (tInt .i64) (fun x => x.Origin) := fun σ cs x h => (FieldAt.fst) σ cs (x.Origin, x.Type_, x.At, x.Live, x.Held, x.Array, x.Size, x.Cells) h
theorem f_Gheap_Chunk_Type_ : FieldAt t_Gheap_Chunk 1 (tInt .i64) (fun x => x.Type_) := fun σ cs x h => ((FieldAt.comp FieldAt.snd FieldAt.fst (by decide))) σ cs (x.Origin, x.Type_, x.At, x.Live, x.Held, x.Array, x.Size, x.Cells) h
theorem f_Gheap_Chunk_At : FieldAt t_Gheap_Chunk 2 (tInt .i64) (fun x => x.At) := fun σ cs x h => ((FieldAt.comp FieldAt.snd (FieldAt.comp FieldAt.snd FieldAt.fst (by decide)) (by decide))) σ cs (x.Origin, x.Type_, x.At, x.Live, x.Held, x.Array, x.Size, x.Cells) h
theorem f_Gheap_Chunk_Live : FieldAt t_Gheap_Chunk 3 tBool (fun x => x.Live) := fun σ cs x h => ((FieldAt.comp FieldAt.snd (FieldAt.comp FieldAt.snd (FieldAt.comp FieldAt.snd FieldAt.fst (by decide)) (by decide)) (by decide))) σ cs (x.Origin, x.Type_, x.At, x.Live, x.Held, x.Array, x.Size, x.Cells) h
theorem f_Gheap_Chunk_Held : FieldAt t_Gheap_Chunk 4 tBool (fun x => x.Held) := fun σ cs x h => ((FieldAt.comp FieldAt.snd (FieldAt.comp FieldAt.snd (FieldAt.comp FieldAt.snd (FieldAt.comp FieldAt.snd FieldAt.fst (by decide)) (by decide)) (by decide)) (by decide))) σ cs (x.Origin, x.Type_, x.At, x.Live, x.Held, x.Array, x.Size, x.Cells) h
theorem f_Gheap_Chunk_Array : FieldAt t_Gheap_Chunk 5 tBool (fun x => x.Array) := fun σ cs x h => ((FieldAt.comp FieldAt.snd (FieldAt.comp FieldAt.snd (FieldAt.comp FieldAt.snd (FieldAt.comp FieldAt.snd (FieldAt.comp FieldAt.snd FieldAt.fst (by decide)) (by decide)) (by decide)) (by decide)) (by decide))) σ cs (x.Origin, x.Type_, x.At, x.Live, x.Held, x.Array, x.Size, x.Cells) h
theorem f_Gheap_Chunk_Size : FieldAt t_Gheap_Chunk 6 t_Gheap_Sym (fun x => x.Size) := fun σ cs x h => ((FieldAt.comp FieldAt.snd (FieldAt.comp FieldAt.snd (FieldAt.comp FieldAt.snd (FieldAt.comp FieldAt.snd (FieldAt.comp FieldAt.snd (FieldAt.comp FieldAt.snd FieldAt.fst (by decide)) (by decide)) (by decide)) (by decide)) (by decide)) (by decide))) σ cs (x.Origin, x.Type_, x.At, x.Live, x.Held, x.Array, x.Size, x.Cells) h
theorem f_Gheap_Chunk_Cells : FieldAt t_Gheap_Chunk 10 (tSl t_Gheap_Sym) (fun x => x.Cells) := fun σ cs x h => ((FieldAt.comp FieldAt.snd (FieldAt.comp FieldAt.snd (FieldAt.comp FieldAt.snd (FieldAt.comp FieldAt.snd (FieldAt.comp FieldAt.snd (FieldAt.comp FieldAt.snd FieldAt.snd (by decide)) (by decide)) (by decide)) (by decide)) (by decide)) (by decide))) σ cs (x.Origin, x.Type_, x.At, x.Live, x.Held, x.Array, x.Size, x.Cells) h
abbrev o_Gheap_Chunk : OTy Gheap_Chunk := ((oProd ((tInt .i64)).o (oProd ((tInt .i64)).o (oProd ((tInt .i64)).o (oProd (tBool).o (oProd (tBool).o (oProd (tBool).o (oProd (t_Gheap_Sym).o (oRow (t_Gheap_Sym).o 33))))))))).comap fun x => (x.Origin, x.Type_, x.At, x.Live, x.Held, x.Array, x.Size, x.Cells)
theorem of_Gheap_Chunk_Origin : OFieldAt o_Gheap_Chunk 0 (tInt .i64) (fun x => x.Origin) := fun σ h cs x r => (OFieldAt.fst OFieldAt.self (by decide)) σ h cs (x.Origin, x.Type_, x.At, x.Live, x.Held, x.Array, x.Size, x.Cells) r
theorem of_Gheap_Chunk_Type_ : OFieldAt o_Gheap_Chunk 1 (tInt .i64) (fun x => x.Type_) := fun σ h cs x r => (OFieldAt.snd (OFieldAt.fst OFieldAt.self (by decide))) σ h cs (x.Origin, x.Type_, x.At, x.Live, x.Held, x.Array, x.Size, x.Cells) r
theorem of_Gheap_Chunk_At : OFieldAt o_Gheap_Chunk 2 (tInt .i64) (fun x => x.At) := fun σ h cs x r => (OFieldAt.snd (OFieldAt.snd (OFieldAt.fst OFieldAt.self (by decide)))) σ h cs (x.Origin, x.Type_, x.At, x.Live, x.Held, x.Array, x.Size, x.Cells) r
theorem of_Gheap_Chunk_Live : OFieldAt o_Gheap_Chunk 3 tBool (fun x => x.Live) := fun σ h cs x r => (OFieldAt.snd (OFieldAt.snd (OFieldAt.snd (OFieldAt.fst OFieldAt.self (by decide))))) σ h cs (x.Origin, x.Type_, x.At, x.Live, x.Held, x.Array, x.Size, x.Cells) r
theorem of_Gheap_Chunk_Held : OFieldAt o_Gheap_Chunk 4 tBool (fun x => x.Held) := fun σ h cs x r => (OFieldAt.snd (OFieldAt.snd (OFieldAt.snd (OFieldAt.snd (OFieldAt.fst OFieldAt.self (by decide)))))) σ h cs (x.Origin, x.Type_, x.At, x.Live, x.Held, x.Array, x.Size, x.Cells) r
theorem of_Gheap_Chunk_Array : OFieldAt o_Gheap_Chunk 5 tBool (fun x => x.Array) := fun σ h cs x r => (OFieldAt.snd (OFieldAt.snd (OFieldAt.snd (OFieldAt.snd (OFieldAt.snd (OFieldAt.fst OFieldAt.self (by decide))))))) σ h cs (x.Origin, x.Type_, x.At, x.Live, x.Held, x.Array, x.Size, x.Cells) r
theorem of_Gheap_Chunk_Size : OFieldAt o_Gheap_Chunk 6 t_Gheap_Sym (fun x => x.Size) := fun σ h cs x r => (OFieldAt.snd (OFieldAt.snd (OFieldAt.snd (OFieldAt.snd (OFieldAt.snd (OFieldAt.snd (OFieldAt.fst OFieldAt.self (by decide)))))))) σ h cs (x.Origin, x.Type_, x.At, x.Live, x.Held, x.Array, x.Size, x.Cells) r
structure Gheap_Heap where
  Chunks : Sl Gheap_Chunk
  Vars : Int
  Facts : Sl Gdiff_Leq
  deriving Inhabited
abbrev t_Gheap_Heap : Ty Gheap_Heap := (tProd (tSl t_Gheap_Chunk) (tProd (tInt .i64) (tSl t_Gdiff_Leq))).comap fun x => (x.Chunks, x.Vars, x.Facts)
theorem t_Gheap_Heap_r {σ : FS} {cs : List Value} {x : Gheap_Heap} : t_Gheap_Heap.rel σ cs x ↔ ∃ v0 v2 : Value, cs = [v0, .int .i64 x.Vars, v2] ∧ (tSl t_Gheap_Chunk).vrel σ v0 x.Chunks ∧ (tSl t_Gdiff_Leq).vrel σ v2 x.Facts := by
  constructor
  · intro h
    obtain ⟨_, _, rfl, h0, ⟨_, _, rfl, rfl, h1⟩⟩ := h
    obtain ⟨u0, e0, g0⟩ := leaf_open rfl h0; subst e0
    obtain ⟨u1, e1, g1⟩ := leaf_open rfl h1; subst e1
    exact ⟨u0, u1, rfl, g0, g1⟩
  · rintro ⟨v0, v2, rfl, k0, k1⟩
    exact ⟨_, _, rfl, (leaf_close rfl k0), ⟨_, _, rfl, rfl, (leaf_close rfl k1)⟩⟩
theorem t_Gheap_Heap_v {σ : FS} {v : Value} {x : Gheap_Heap} : t_Gheap_Heap.vrel σ v x ↔ ∃ v0 v2 : Value, v = .agg #[v0, .int .i64 x.Vars, v2] ∧ (tSl t_Gheap_Chunk).vrel σ v0 x.Chunks ∧ (tSl t_Gdiff_Leq).vrel σ v2 x.Facts := by
  rw [vrel_agg rfl]
  constructor
  · rintro ⟨cs, rfl, h⟩; obtain ⟨v0, v2, e1, h1⟩ := t_Gheap_Heap_r.1 h; subst e1; exact ⟨v0, v2, rfl, h1⟩
  · rintro ⟨v0, v2, rfl, h⟩; exact ⟨_, rfl, t_Gheap_Heap_r.2 ⟨v0, v2, rfl, h⟩⟩
theorem f_Gheap_Heap_Chunks : FieldAt t_Gheap_Heap 0 (tSl t_Gheap_Chunk) (fun x => x.Chunks) := fun σ cs x h => (FieldAt.fst) σ cs (x.Chunks, x.Vars, x.Facts) h
theorem f_Gheap_Heap_Vars : FieldAt t_Gheap_Heap 1 (tInt .i64) (fun x => x.Vars) := fun σ cs x h => ((FieldAt.comp FieldAt.snd FieldAt.fst (by decide))) σ cs (x.Chunks, x.Vars, x.Facts) h
theorem f_Gheap_Heap_Facts : FieldAt t_Gheap_Heap 2 (tSl t_Gdiff_Leq) (fun x => x.Facts) := fun σ cs x h => ((FieldAt.comp FieldAt.snd FieldAt.snd (by decide))) σ cs (x.Chunks, x.Vars, x.Facts) h
abbrev o_Gheap_Heap : OTy Gheap_Heap := ((oProd (oRow o_Gheap_Chunk 49) (oProd ((tInt .i64)).o (oRow (t_Gdiff_Leq).o 39)))).comap fun x => (x.Chunks, x.Vars, x.Facts)
theorem of_Gheap_Heap_Vars : OFieldAt o_Gheap_Heap 1 (tInt .i64) (fun x => x.Vars) := fun σ h cs x r => (OFieldAt.snd (OFieldAt.fst OFieldAt.self (by decide))) σ h cs (x.Chunks, x.Vars, x.Facts) r
structure Glychgatelaw13_Op where
  Kind : Int
  P : Gheap_Sym
  I : Gheap_Sym
  V : Gheap_Sym
  N : Int
  Chunk : Gheap_Chunk
  Facts : Sl Gdiff_Leq
  deriving Inhabited
abbrev t_Glychgatelaw13_Op : Ty Glychgatelaw13_Op := (tProd (tInt .i64) (tProd t_Gheap_Sym (tProd t_Gheap_Sym (tProd t_Gheap_Sym (tProd (tInt .i64) (tProd t_Gheap_Chunk (tSl t_Gdiff_Leq))))))).comap fun x => (x.Kind, x.P, x.I, x.V, x.N, x.Chunk, x.Facts)
theorem t_Glychgatelaw13_Op_r {σ : FS} {cs : List Value} {x : Glychgatelaw13_Op} : t_Glychgatelaw13_Op.rel σ cs x ↔ ∃ v24 v25 : Value, cs = [.int .i64 x.Kind, .int .i64 x.P.Kind, .int .i64 x.P.Var, .int .i64 x.P.K, .int .i64 x.P.Block, .int .i64 x.I.Kind, .int .i64 x.I.Var, .int .i64 x.I.K, .int .i64 x.I.Block, .int .i64 x.V.Kind, .int .i64 x.V.Var, .int .i64 x.V.K, .int .i64 x.V.Block, .int .i64 x.N, .int .i64 x.Chunk.Origin, .int .i64 x.Chunk.Type_, .int .i64 x.Chunk.At, .bool x.Chunk.Live, .bool x.Chunk.Held, .bool x.Chunk.Array, .int .i64 x.Chunk.Size.Kind, .int .i64 x.Chunk.Size.Var, .int .i64 x.Chunk.Size.K, .int .i64 x.Chunk.Size.Block, v24, v25] ∧ (tSl t_Gheap_Sym).vrel σ v24 x.Chunk.Cells ∧ (tSl t_Gdiff_Leq).vrel σ v25 x.Facts := by
  constructor
  · intro h
    obtain ⟨_, _, rfl, rfl, ⟨_, _, rfl, h0, ⟨_, _, rfl, h1, ⟨_, _, rfl, h2, ⟨_, _, rfl, rfl, ⟨_, _, rfl, ⟨_, _, rfl, rfl, ⟨_, _, rfl, rfl, ⟨_, _, rfl, rfl, ⟨_, _, rfl, rfl, ⟨_, _, rfl, rfl, ⟨_, _, rfl, rfl, ⟨_, _, rfl, h3, h4⟩⟩⟩⟩⟩⟩⟩, h5⟩⟩⟩⟩⟩⟩ := h
    obtain rfl := t_Gheap_Sym_r.1 h0
    obtain rfl := t_Gheap_Sym_r.1 h1
    obtain rfl := t_Gheap_Sym_r.1 h2
    obtain rfl := t_Gheap_Sym_r.1 h3
    obtain ⟨u4, e4, g4⟩ := leaf_open rfl h4; subst e4
    obtain ⟨u5, e5, g5⟩ := leaf_open rfl h5; subst e5
    exact ⟨u4, u5, rfl, g4, g5⟩
  · rintro ⟨v24, v25, rfl, k0, k1⟩
    exact ⟨_, _, rfl, rfl, ⟨_, _, rfl, (t_Gheap_Sym_r.2 rfl), ⟨_, _, rfl, (t_Gheap_Sym_r.2 rfl), ⟨_, _, rfl, (t_Gheap_Sym_r.2 rfl), ⟨_, _, rfl, rfl, ⟨_, _, rfl, ⟨_, _, rfl, rfl, ⟨_, _, rfl, rfl, ⟨_, _, rfl, rfl, ⟨_, _, rfl, rfl, ⟨_, _, rfl, rfl, ⟨_, _, rfl, rfl, ⟨_, _, rfl, (t_Gheap_Sym_r.2 rfl), (leaf_close rfl k0)⟩⟩⟩⟩⟩⟩⟩, (leaf_close rfl k1)⟩⟩⟩⟩⟩⟩
theorem t_Glychgatelaw13_Op_v {σ : FS} {v : Value} {x : Glychgatelaw13_Op} : t_Glychgatelaw13_Op.vrel σ v x ↔ ∃ v24 v25 : Value, v = .agg #[.int .i64 x.Kind, .int .i64 x.P.Kind, .int .i64 x.P.Var, .int .i64 x.P.K, .int .i64 x.P.Block, .int .i64 x.I.Kind, .int .i64 x.I.Var, .int .i64 x.I.K, .int .i64 x.I.Block, .int .i64 x.V.Kind, .int .i64 x.V.Var, .int .i64 x.V.K, .int .i64 x.V.Block, .int .i64 x.N, .int .i64 x.Chunk.Origin, .int .i64 x.Chunk.Type_, .int .i64 x.Chunk.At, .bool x.Chunk.Live, .bool x.Chunk.Held, .bool x.Chunk.Array, .int .i64 x.Chunk.Size.Kind, .int .i64 x.Chunk.Size.Var, .int .i64 x.Chunk.Size.K, .int .i64 x.Chunk.Size.Block, v24, v25] ∧ (tSl t_Gheap_Sym).vrel σ v24 x.Chunk.Cells ∧ (tSl t_Gdiff_Leq).vrel σ v25 x.Facts := by
  rw [vrel_agg rfl]
  constructor
  · rintro ⟨cs, rfl, h⟩; obtain ⟨v24, v25, e1, h1⟩ := t_Glychgatelaw13_Op_r.1 h; subst e1; exact ⟨v24, v25, rfl, h1⟩
  · rintro ⟨v24, v25, rfl, h⟩; exact ⟨_, rfl, t_Glychgatelaw13_Op_r.2 ⟨v24, v25, rfl, h⟩⟩
theorem f_Glychgatelaw13_Op_Kind : FieldAt t_Glychgatelaw13_Op 0 (tInt .i64) (fun x => x.Kind) := fun σ cs x h => (FieldAt.fst) σ cs (x.Kind, x.P, x.I, x.V, x.N, x.Chunk, x.Facts) h
theorem f_Glychgatelaw13_Op_P : FieldAt t_Glychgatelaw13_Op 1 t_Gheap_Sym (fun x => x.P) := fun σ cs x h => ((FieldAt.comp FieldAt.snd FieldAt.fst (by decide))) σ cs (x.Kind, x.P, x.I, x.V, x.N, x.Chunk, x.Facts) h
theorem f_Glychgatelaw13_Op_I : FieldAt t_Glychgatelaw13_Op 5 t_Gheap_Sym (fun x => x.I) := fun σ cs x h => ((FieldAt.comp FieldAt.snd (FieldAt.comp FieldAt.snd FieldAt.fst (by decide)) (by decide))) σ cs (x.Kind, x.P, x.I, x.V, x.N, x.Chunk, x.Facts) h
theorem f_Glychgatelaw13_Op_V : FieldAt t_Glychgatelaw13_Op 9 t_Gheap_Sym (fun x => x.V) := fun σ cs x h => ((FieldAt.comp FieldAt.snd (FieldAt.comp FieldAt.snd (FieldAt.comp FieldAt.snd FieldAt.fst (by decide)) (by decide)) (by decide))) σ cs (x.Kind, x.P, x.I, x.V, x.N, x.Chunk, x.Facts) h
theorem f_Glychgatelaw13_Op_N : FieldAt t_Glychgatelaw13_Op 13 (tInt .i64) (fun x => x.N) := fun σ cs x h => ((FieldAt.comp FieldAt.snd (FieldAt.comp FieldAt.snd (FieldAt.comp FieldAt.snd (FieldAt.comp FieldAt.snd FieldAt.fst (by decide)) (by decide)) (by decide)) (by decide))) σ cs (x.Kind, x.P, x.I, x.V, x.N, x.Chunk, x.Facts) h
theorem f_Glychgatelaw13_Op_Chunk : FieldAt t_Glychgatelaw13_Op 14 t_Gheap_Chunk (fun x => x.Chunk) := fun σ cs x h => ((FieldAt.comp FieldAt.snd (FieldAt.comp FieldAt.snd (FieldAt.comp FieldAt.snd (FieldAt.comp FieldAt.snd (FieldAt.comp FieldAt.snd FieldAt.fst (by decide)) (by decide)) (by decide)) (by decide)) (by decide))) σ cs (x.Kind, x.P, x.I, x.V, x.N, x.Chunk, x.Facts) h
theorem f_Glychgatelaw13_Op_Facts : FieldAt t_Glychgatelaw13_Op 25 (tSl t_Gdiff_Leq) (fun x => x.Facts) := fun σ cs x h => ((FieldAt.comp FieldAt.snd (FieldAt.comp FieldAt.snd (FieldAt.comp FieldAt.snd (FieldAt.comp FieldAt.snd (FieldAt.comp FieldAt.snd FieldAt.snd (by decide)) (by decide)) (by decide)) (by decide)) (by decide))) σ cs (x.Kind, x.P, x.I, x.V, x.N, x.Chunk, x.Facts) h
abbrev o_Glychgatelaw13_Op : OTy Glychgatelaw13_Op := ((oProd ((tInt .i64)).o (oProd (t_Gheap_Sym).o (oProd (t_Gheap_Sym).o (oProd (t_Gheap_Sym).o (oProd ((tInt .i64)).o (oProd o_Gheap_Chunk ((tSl t_Gdiff_Leq)).o))))))).comap fun x => (x.Kind, x.P, x.I, x.V, x.N, x.Chunk, x.Facts)
theorem of_Glychgatelaw13_Op_Kind : OFieldAt o_Glychgatelaw13_Op 0 (tInt .i64) (fun x => x.Kind) := fun σ h cs x r => (OFieldAt.fst OFieldAt.self (by decide)) σ h cs (x.Kind, x.P, x.I, x.V, x.N, x.Chunk, x.Facts) r
theorem of_Glychgatelaw13_Op_P : OFieldAt o_Glychgatelaw13_Op 1 t_Gheap_Sym (fun x => x.P) := fun σ h cs x r => (OFieldAt.snd (OFieldAt.fst OFieldAt.self (by decide))) σ h cs (x.Kind, x.P, x.I, x.V, x.N, x.Chunk, x.Facts) r
theorem of_Glychgatelaw13_Op_I : OFieldAt o_Glychgatelaw13_Op 5 t_Gheap_Sym (fun x => x.I) := fun σ h cs x r => (OFieldAt.snd (OFieldAt.snd (OFieldAt.fst OFieldAt.self (by decide)))) σ h cs (x.Kind, x.P, x.I, x.V, x.N, x.Chunk, x.Facts) r
theorem of_Glychgatelaw13_Op_V : OFieldAt o_Glychgatelaw13_Op 9 t_Gheap_Sym (fun x => x.V) := fun σ h cs x r => (OFieldAt.snd (OFieldAt.snd (OFieldAt.snd (OFieldAt.fst OFieldAt.self (by decide))))) σ h cs (x.Kind, x.P, x.I, x.V, x.N, x.Chunk, x.Facts) r
theorem of_Glychgatelaw13_Op_N : OFieldAt o_Glychgatelaw13_Op 13 (tInt .i64) (fun x => x.N) := fun σ h cs x r => (OFieldAt.snd (OFieldAt.snd (OFieldAt.snd (OFieldAt.snd (OFieldAt.fst OFieldAt.self (by decide)))))) σ h cs (x.Kind, x.P, x.I, x.V, x.N, x.Chunk, x.Facts) r
theorem of_Glychgatelaw13_Op_Facts : OFieldAt o_Glychgatelaw13_Op 25 (tSl t_Gdiff_Leq) (fun x => x.Facts) := fun σ h cs x r => (OFieldAt.snd (OFieldAt.snd (OFieldAt.snd (OFieldAt.snd (OFieldAt.snd (OFieldAt.snd OFieldAt.self)))))) σ h cs (x.Kind, x.P, x.I, x.V, x.N, x.Chunk, x.Facts) r
structure Glychgateref13_Sym where
  Kind : Int
  Var : Int
  K : Int
  Block : Int
  deriving Inhabited, DecidableEq
abbrev t_Glychgateref13_Sym : Ty Glychgateref13_Sym := (tProd (tInt .i64) (tProd (tInt .i64) (tProd (tInt .i64) (tInt .i64)))).comap fun x => (x.Kind, x.Var, x.K, x.Block)
theorem t_Glychgateref13_Sym_r {σ : FS} {cs : List Value} {x : Glychgateref13_Sym} : t_Glychgateref13_Sym.rel σ cs x ↔ cs = [.int .i64 x.Kind, .int .i64 x.Var, .int .i64 x.K, .int .i64 x.Block] := by
  constructor
  · intro h; exact (Plain.spec σ cs x).1 h
  · intro h; exact (Plain.spec (T := t_Glychgateref13_Sym) σ cs x).2 h
theorem t_Glychgateref13_Sym_v {σ : FS} {v : Value} {x : Glychgateref13_Sym} : t_Glychgateref13_Sym.vrel σ v x ↔ v = .agg #[.int .i64 x.Kind, .int .i64 x.Var, .int .i64 x.K, .int .i64 x.Block] := by
  rw [vrel_agg rfl]
  constructor
  · rintro ⟨cs, rfl, h⟩; rw [t_Glychgateref13_Sym_r.1 h]
  · rintro rfl; exact ⟨_, rfl, t_Glychgateref13_Sym_r.2 rfl⟩
theorem f_Glychgateref13_Sym_Kind : FieldAt t_Glychgateref13_Sym 0 (tInt .i64) (fun x => x.Kind) := fun σ cs x h => (FieldAt.fst) σ cs (x.Kind, x.Var, x.K, x.Block) h
theorem f_Glychgateref13_Sym_Var : FieldAt t_Glychgateref13_Sym 1 (tInt .i64) (fun x => x.Var) := fun σ cs x h => ((FieldAt.comp FieldAt.snd FieldAt.fst (by decide))) σ cs (x.Kind, x.Var, x.K, x.Block) h
theorem f_Glychgateref13_Sym_K : FieldAt t_Glychgateref13_Sym 2 (tInt .i64) (fun x => x.K) := fun σ cs x h => ((FieldAt.comp FieldAt.snd (FieldAt.comp FieldAt.snd FieldAt.fst (by decide)) (by decide))) σ cs (x.Kind, x.Var, x.K, x.Block) h
theorem f_Glychgateref13_Sym_Block : FieldAt t_Glychgateref13_Sym 3 (tInt .i64) (fun x => x.Block) := fun σ cs x h => ((FieldAt.comp FieldAt.snd (FieldAt.comp FieldAt.snd FieldAt.snd (by decide)) (by decide))) σ cs (x.Kind, x.Var, x.K, x.Block) h
structure Glychgateref13_Chunk where
  Origin : Int
  Type_ : Int
  At : Int
  Live : Bool
  Held : Bool
  Array : Bool
  Size : Glychgateref13_Sym
  Cells : Sl Glychgateref13_Sym
  deriving Inhabited
abbrev t_Glychgateref13_Chunk : Ty Glychgateref13_Chunk := (tProd (tInt .i64) (tProd (tInt .i64) (tProd (tInt .i64) (tProd tBool (tProd tBool (tProd tBool (tProd t_Glychgateref13_Sym (tSl t_Glychgateref13_Sym)))))))).comap fun x => (x.Origin, x.Type_, x.At, x.Live, x.Held, x.Array, x.Size, x.Cells)
theorem t_Glychgateref13_Chunk_r {σ : FS} {cs : List Value} {x : Glychgateref13_Chunk} : t_Glychgateref13_Chunk.rel σ cs x ↔ ∃ v10 : Value, cs = [.int .i64 x.Origin, .int .i64 x.Type_, .int .i64 x.At, .bool x.Live, .bool x.Held, .bool x.Array, .int .i64 x.Size.Kind, .int .i64 x.Size.Var, .int .i64 x.Size.K, .int .i64 x.Size.Block, v10] ∧ (tSl t_Glychgateref13_Sym).vrel σ v10 x.Cells := by
  constructor
  · intro h
    obtain ⟨_, _, rfl, rfl, ⟨_, _, rfl, rfl, ⟨_, _, rfl, rfl, ⟨_, _, rfl, rfl, ⟨_, _, rfl, rfl, ⟨_, _, rfl, rfl, ⟨_, _, rfl, h0, h1⟩⟩⟩⟩⟩⟩⟩ := h
    obtain rfl := t_Glychgateref13_Sym_r.1 h0
    obtain ⟨u1, e1, g1⟩ := leaf_open rfl h1; subst e1
    exact ⟨u1, rfl, g1⟩
  · rintro ⟨v10, rfl, k0⟩
    exact ⟨_, _, rfl, rfl, ⟨_, _, rfl, rfl, ⟨_, _, rfl, rfl, ⟨_, _, rfl, rfl, ⟨_, _, rfl, rfl, ⟨_, _, rfl, rfl, ⟨_, _, rfl, (t_Glychgateref13_Sym_r.2 rfl), (leaf_close rfl k0)⟩⟩⟩⟩⟩⟩⟩
theorem t_Glychgateref13_Chunk_v {σ : FS} {v : Value} {x : Glychgateref13_Chunk} : t_Glychgateref13_Chunk.vrel σ v x ↔ ∃ v10 : Value, v = .agg #[.int .i64 x.Origin, .int .i64 x.Type_, .int .i64 x.At, .bool x.Live, .bool x.Held, .bool x.Array, .int .i64 x.Size.Kind, .int .i64 x.Size.Var, .int .i64 x.Size.K, .int .i64 x.Size.Block, v10] ∧ (tSl t_Glychgateref13_Sym).vrel σ v10 x.Cells := by
  rw [vrel_agg rfl]
  constructor
  · rintro ⟨cs, rfl, h⟩; obtain ⟨v10, e1, h1⟩ := t_Glychgateref13_Chunk_r.1 h; subst e1; exact ⟨v10, rfl, h1⟩
  · rintro ⟨v10, rfl, h⟩; exact ⟨_, rfl, t_Glychgateref13_Chunk_r.2 ⟨v10, rfl, h⟩⟩
theorem f_Glychgateref13_Chunk_Origin : FieldAt t_Glychgateref13_Chunk 0 (tInt .i64) (fun x => x.Origin) := fun σ cs x h => (FieldAt.fst) σ cs (x.Origin, x.Type_, x.At, x.Live, x.Held, x.Array, x.Size, x.Cells) h
theorem f_Glychgateref13_Chunk_Type_ : FieldAt t_Glychgateref13_Chunk 1 (tInt .i64) (fun x => x.Type_) := fun σ cs x h => ((FieldAt.comp FieldAt.snd FieldAt.fst (by decide))) σ cs (x.Origin, x.Type_, x.At, x.Live, x.Held, x.Array, x.Size, x.Cells) h
theorem f_Glychgateref13_Chunk_At : FieldAt t_Glychgateref13_Chunk 2 (tInt .i64) (fun x => x.At) := fun σ cs x h => ((FieldAt.comp FieldAt.snd (FieldAt.comp FieldAt.snd FieldAt.fst (by decide)) (by decide))) σ cs (x.Origin, x.Type_, x.At, x.Live, x.Held, x.Array, x.Size, x.Cells) h
theorem f_Glychgateref13_Chunk_Live : FieldAt t_Glychgateref13_Chunk 3 tBool (fun x => x.Live) := fun σ cs x h => ((FieldAt.comp FieldAt.snd (FieldAt.comp FieldAt.snd (FieldAt.comp FieldAt.snd FieldAt.fst (by decide)) (by decide)) (by decide))) σ cs (x.Origin, x.Type_, x.At, x.Live, x.Held, x.Array, x.Size, x.Cells) h
theorem f_Glychgateref13_Chunk_Held : FieldAt t_Glychgateref13_Chunk 4 tBool (fun x => x.Held) := fun σ cs x h => ((FieldAt.comp FieldAt.snd (FieldAt.comp FieldAt.snd (FieldAt.comp FieldAt.snd (FieldAt.comp FieldAt.snd FieldAt.fst (by decide)) (by decide)) (by decide)) (by decide))) σ cs (x.Origin, x.Type_, x.At, x.Live, x.Held, x.Array, x.Size, x.Cells) h
theorem f_Glychgateref13_Chunk_Array : FieldAt t_Glychgateref13_Chunk 5 tBool (fun x => x.Array) := fun σ cs x h => ((FieldAt.comp FieldAt.snd (FieldAt.comp FieldAt.snd (FieldAt.comp FieldAt.snd (FieldAt.comp FieldAt.snd (FieldAt.comp FieldAt.snd FieldAt.fst (by decide)) (by decide)) (by decide)) (by decide)) (by decide))) σ cs (x.Origin, x.Type_, x.At, x.Live, x.Held, x.Array, x.Size, x.Cells) h
theorem f_Glychgateref13_Chunk_Size : FieldAt t_Glychgateref13_Chunk 6 t_Glychgateref13_Sym (fun x => x.Size) := fun σ cs x h => ((FieldAt.comp FieldAt.snd (FieldAt.comp FieldAt.snd (FieldAt.comp FieldAt.snd (FieldAt.comp FieldAt.snd (FieldAt.comp FieldAt.snd (FieldAt.comp FieldAt.snd FieldAt.fst (by decide)) (by decide)) (by decide)) (by decide)) (by decide)) (by decide))) σ cs (x.Origin, x.Type_, x.At, x.Live, x.Held, x.Array, x.Size, x.Cells) h
theorem f_Glychgateref13_Chunk_Cells : FieldAt t_Glychgateref13_Chunk 10 (tSl t_Glychgateref13_Sym) (fun x => x.Cells) := fun σ cs x h => ((FieldAt.comp FieldAt.snd (FieldAt.comp FieldAt.snd (FieldAt.comp FieldAt.snd (FieldAt.comp FieldAt.snd (FieldAt.comp FieldAt.snd (FieldAt.comp FieldAt.snd FieldAt.snd (by decide)) (by decide)) (by decide)) (by decide)) (by decide)) (by decide))) σ cs (x.Origin, x.Type_, x.At, x.Live, x.Held, x.Array, x.Size, x.Cells) h
abbrev o_Glychgateref13_Chunk : OTy Glychgateref13_Chunk := ((oProd ((tInt .i64)).o (oProd ((tInt .i64)).o (oProd ((tInt .i64)).o (oProd (tBool).o (oProd (tBool).o (oProd (tBool).o (oProd (t_Glychgateref13_Sym).o (oRow (t_Glychgateref13_Sym).o 75))))))))).comap fun x => (x.Origin, x.Type_, x.At, x.Live, x.Held, x.Array, x.Size, x.Cells)
theorem of_Glychgateref13_Chunk_Origin : OFieldAt o_Glychgateref13_Chunk 0 (tInt .i64) (fun x => x.Origin) := fun σ h cs x r => (OFieldAt.fst OFieldAt.self (by decide)) σ h cs (x.Origin, x.Type_, x.At, x.Live, x.Held, x.Array, x.Size, x.Cells) r
theorem of_Glychgateref13_Chunk_Type_ : OFieldAt o_Glychgateref13_Chunk 1 (tInt .i64) (fun x => x.Type_) := fun σ h cs x r => (OFieldAt.snd (OFieldAt.fst OFieldAt.self (by decide))) σ h cs (x.Origin, x.Type_, x.At, x.Live, x.Held, x.Array, x.Size, x.Cells) r
theorem of_Glychgateref13_Chunk_At : OFieldAt o_Glychgateref13_Chunk 2 (tInt .i64) (fun x => x.At) := fun σ h cs x r => (OFieldAt.snd (OFieldAt.snd (OFieldAt.fst OFieldAt.self (by decide)))) σ h cs (x.Origin, x.Type_, x.At, x.Live, x.Held, x.Array, x.Size, x.Cells) r
theorem of_Glychgateref13_Chunk_Live : OFieldAt o_Glychgateref13_Chunk 3 tBool (fun x => x.Live) := fun σ h cs x r => (OFieldAt.snd (OFieldAt.snd (OFieldAt.snd (OFieldAt.fst OFieldAt.self (by decide))))) σ h cs (x.Origin, x.Type_, x.At, x.Live, x.Held, x.Array, x.Size, x.Cells) r
theorem of_Glychgateref13_Chunk_Held : OFieldAt o_Glychgateref13_Chunk 4 tBool (fun x => x.Held) := fun σ h cs x r => (OFieldAt.snd (OFieldAt.snd (OFieldAt.snd (OFieldAt.snd (OFieldAt.fst OFieldAt.self (by decide)))))) σ h cs (x.Origin, x.Type_, x.At, x.Live, x.Held, x.Array, x.Size, x.Cells) r
theorem of_Glychgateref13_Chunk_Array : OFieldAt o_Glychgateref13_Chunk 5 tBool (fun x => x.Array) := fun σ h cs x r => (OFieldAt.snd (OFieldAt.snd (OFieldAt.snd (OFieldAt.snd (OFieldAt.snd (OFieldAt.fst OFieldAt.self (by decide))))))) σ h cs (x.Origin, x.Type_, x.At, x.Live, x.Held, x.Array, x.Size, x.Cells) r
theorem of_Glychgateref13_Chunk_Size : OFieldAt o_Glychgateref13_Chunk 6 t_Glychgateref13_Sym (fun x => x.Size) := fun σ h cs x r => (OFieldAt.snd (OFieldAt.snd (OFieldAt.snd (OFieldAt.snd (OFieldAt.snd (OFieldAt.snd (OFieldAt.fst OFieldAt.self (by decide)))))))) σ h cs (x.Origin, x.Type_, x.At, x.Live, x.Held, x.Array, x.Size, x.Cells) r
structure Glychgateref04_Leq where
  X : Int
  Y : Int
  C : Int
  deriving Inhabited, DecidableEq
abbrev t_Glychgateref04_Leq : Ty Glychgateref04_Leq := (tProd (tInt .i64) (tProd (tInt .i64) (tInt .i64))).comap fun x => (x.X, x.Y, x.C)
theorem t_Glychgateref04_Leq_r {σ : FS} {cs : List Value} {x : Glychgateref04_Leq} : t_Glychgateref04_Leq.rel σ cs x ↔ cs = [.int .i64 x.X, .int .i64 x.Y, .int .i64 x.C] := by
  constructor
  · intro h; exact (Plain.spec σ cs x).1 h
  · intro h; exact (Plain.spec (T := t_Glychgateref04_Leq) σ cs x).2 h
theorem t_Glychgateref04_Leq_v {σ : FS} {v : Value} {x : Glychgateref04_Leq} : t_Glychgateref04_Leq.vrel σ v x ↔ v = .agg #[.int .i64 x.X, .int .i64 x.Y, .int .i64 x.C] := by
  rw [vrel_agg rfl]
  constructor
  · rintro ⟨cs, rfl, h⟩; rw [t_Glychgateref04_Leq_r.1 h]
  · rintro rfl; exact ⟨_, rfl, t_Glychgateref04_Leq_r.2 rfl⟩
theorem f_Glychgateref04_Leq_X : FieldAt t_Glychgateref04_Leq 0 (tInt .i64) (fun x => x.X) := fun σ cs x h => (FieldAt.fst) σ cs (x.X, x.Y, x.C) h
theorem f_Glychgateref04_Leq_Y : FieldAt t_Glychgateref04_Leq 1 (tInt .i64) (fun x => x.Y) := fun σ cs x h => ((FieldAt.comp FieldAt.snd FieldAt.fst (by decide))) σ cs (x.X, x.Y, x.C) h
theorem f_Glychgateref04_Leq_C : FieldAt t_Glychgateref04_Leq 2 (tInt .i64) (fun x => x.C) := fun σ cs x h => ((FieldAt.comp FieldAt.snd FieldAt.snd (by decide))) σ cs (x.X, x.Y, x.C) h
structure Glychgateref13_Heap where
  Chunks : Sl Glychgateref13_Chunk
  Vars : Int
  Facts : Sl Glychgateref04_Leq
  deriving Inhabited
abbrev t_Glychgateref13_Heap : Ty Glychgateref13_Heap := (tProd (tSl t_Glychgateref13_Chunk) (tProd (tInt .i64) (tSl t_Glychgateref04_Leq))).comap fun x => (x.Chunks, x.Vars, x.Facts)
theorem t_Glychgateref13_Heap_r {σ : FS} {cs : List Value} {x : Glychgateref13_Heap} : t_Glychgateref13_Heap.rel σ cs x ↔ ∃ v0 v2 : Value, cs = [v0, .int .i64 x.Vars, v2] ∧ (tSl t_Glychgateref13_Chunk).vrel σ v0 x.Chunks ∧ (tSl t_Glychgateref04_Leq).vrel σ v2 x.Facts := by
  constructor
  · intro h
    obtain ⟨_, _, rfl, h0, ⟨_, _, rfl, rfl, h1⟩⟩ := h
    obtain ⟨u0, e0, g0⟩ := leaf_open rfl h0; subst e0
    obtain ⟨u1, e1, g1⟩ := leaf_open rfl h1; subst e1
    exact ⟨u0, u1, rfl, g0, g1⟩
  · rintro ⟨v0, v2, rfl, k0, k1⟩
    exact ⟨_, _, rfl, (leaf_close rfl k0), ⟨_, _, rfl, rfl, (leaf_close rfl k1)⟩⟩
theorem t_Glychgateref13_Heap_v {σ : FS} {v : Value} {x : Glychgateref13_Heap} : t_Glychgateref13_Heap.vrel σ v x ↔ ∃ v0 v2 : Value, v = .agg #[v0, .int .i64 x.Vars, v2] ∧ (tSl t_Glychgateref13_Chunk).vrel σ v0 x.Chunks ∧ (tSl t_Glychgateref04_Leq).vrel σ v2 x.Facts := by
  rw [vrel_agg rfl]
  constructor
  · rintro ⟨cs, rfl, h⟩; obtain ⟨v0, v2, e1, h1⟩ := t_Glychgateref13_Heap_r.1 h; subst e1; exact ⟨v0, v2, rfl, h1⟩
  · rintro ⟨v0, v2, rfl, h⟩; exact ⟨_, rfl, t_Glychgateref13_Heap_r.2 ⟨v0, v2, rfl, h⟩⟩
theorem f_Glychgateref13_Heap_Chunks : FieldAt t_Glychgateref13_Heap 0 (tSl t_Glychgateref13_Chunk) (fun x => x.Chunks) := fun σ cs x h => (FieldAt.fst) σ cs (x.Chunks, x.Vars, x.Facts) h
theorem f_Glychgateref13_Heap_Vars : FieldAt t_Glychgateref13_Heap 1 (tInt .i64) (fun x => x.Vars) := fun σ cs x h => ((FieldAt.comp FieldAt.snd FieldAt.fst (by decide))) σ cs (x.Chunks, x.Vars, x.Facts) h
theorem f_Glychgateref13_Heap_Facts : FieldAt t_Glychgateref13_Heap 2 (tSl t_Glychgateref04_Leq) (fun x => x.Facts) := fun σ cs x h => ((FieldAt.comp FieldAt.snd FieldAt.snd (by decide))) σ cs (x.Chunks, x.Vars, x.Facts) h
abbrev o_Glychgateref13_Heap : OTy Glychgateref13_Heap := ((oProd (oRow o_Glychgateref13_Chunk 80) (oProd ((tInt .i64)).o (oRow (t_Glychgateref04_Leq).o 55)))).comap fun x => (x.Chunks, x.Vars, x.Facts)
theorem of_Glychgateref13_Heap_Vars : OFieldAt o_Glychgateref13_Heap 1 (tInt .i64) (fun x => x.Vars) := fun σ h cs x r => (OFieldAt.snd (OFieldAt.fst OFieldAt.self (by decide))) σ h cs (x.Chunks, x.Vars, x.Facts) r
theorem eq_Gheap_Sym {x y : Gheap_Sym} : EqAtD Try.prog 33 2 (.agg #[.int .i64 x.Kind, .int .i64 x.Var, .int .i64 x.K, .int .i64 x.Block]) (.agg #[.int .i64 y.Kind, .int .i64 y.Var, .int .i64 y.K, .int .i64 y.Block]) (decide (x = y)) := by
  have h : ((decide (x.Kind = y.Kind) && (decide (x.Var = y.Var) && (decide (x.K = y.K) && (decide (x.Block = y.Block) && true))))) = decide (x = y) := by cases x; cases y; rw [Bool.eq_iff_iff]; simp
  rw [← h]; exact EqAtD.struct Try.pu33 (by kernel_rfl) (⟨_, _, _, _, (part_run (cs := [.int .i64 x.Kind, .int .i64 x.Var, .int .i64 x.K, .int .i64 x.Block]) (cs' := [.int .i64 x.Kind]) Try.pu31 Try.pi31 rfl rfl (by decide) rfl), (part_run (cs := [.int .i64 y.Kind, .int .i64 y.Var, .int .i64 y.K, .int .i64 y.Block]) (cs' := [.int .i64 y.Kind]) Try.pu31 Try.pi31 rfl rfl (by decide) rfl), by decide, (EqAtD.int Try.pu31).mono (d' := 1) (by decide), ⟨_, _, _, _, (part_run (cs := [.int .i64 x.Kind, .int .i64 x.Var, .int .i64 x.K, .int .i64 x.Block]) (cs' := [.int .i64 x.Var]) Try.pu3 Try.pi3 rfl rfl (by decide) rfl), (part_run (cs := [.int .i64 y.Kind, .int .i64 y.Var, .int .i64 y.K, .int .i64 y.Block]) (cs' := [.int .i64 y.Var]) Try.pu3 Try.pi3 rfl rfl (by decide) rfl), by decide, (EqAtD.int Try.pu3).mono (d' := 1) (by decide), ⟨_, _, _, _, (part_run (cs := [.int .i64 x.Kind, .int .i64 x.Var, .int .i64 x.K, .int .i64 x.Block]) (cs' := [.int .i64 x.K]) Try.pu2 Try.pi2 rfl rfl (by decide) rfl), (part_run (cs := [.int .i64 y.Kind, .int .i64 y.Var, .int .i64 y.K, .int .i64 y.Block]) (cs' := [.int .i64 y.K]) Try.pu2 Try.pi2 rfl rfl (by decide) rfl), by decide, (EqAtD.int Try.pu2).mono (d' := 1) (by decide), ⟨_, _, _, _, (part_run (cs := [.int .i64 x.Kind, .int .i64 x.Var, .int .i64 x.K, .int .i64 x.Block]) (cs' := [.int .i64 x.Block]) Try.pu3 Try.pi3 rfl rfl (by decide) rfl), (part_run (cs := [.int .i64 y.Kind, .int .i64 y.Var, .int .i64 y.K, .int .i64 y.Block]) (cs' := [.int .i64 y.Block]) Try.pu3 Try.pi3 rfl rfl (by decide) rfl), by decide, (EqAtD.int Try.pu3).mono (d' := 1) (by decide), rfl, rfl⟩, rfl⟩, rfl⟩, rfl⟩)
theorem eq_Glychgateref13_Sym {x y : Glychgateref13_Sym} : EqAtD Try.prog 75 2 (.agg #[.int .i64 x.Kind, .int .i64 x.Var, .int .i64 x.K, .int .i64 x.Block]) (.agg #[.int .i64 y.Kind, .int .i64 y.Var, .int .i64 y.K, .int .i64 y.Block]) (decide (x = y)) := by
  have h : ((decide (x.Kind = y.Kind) && (decide (x.Var = y.Var) && (decide (x.K = y.K) && (decide (x.Block = y.Block) && true))))) = decide (x = y) := by cases x; cases y; rw [Bool.eq_iff_iff]; simp
  rw [← h]; exact EqAtD.struct Try.pu75 (by kernel_rfl) (⟨_, _, _, _, (part_run (cs := [.int .i64 x.Kind, .int .i64 x.Var, .int .i64 x.K, .int .i64 x.Block]) (cs' := [.int .i64 x.Kind]) Try.pu3 Try.pi3 rfl rfl (by decide) rfl), (part_run (cs := [.int .i64 y.Kind, .int .i64 y.Var, .int .i64 y.K, .int .i64 y.Block]) (cs' := [.int .i64 y.Kind]) Try.pu3 Try.pi3 rfl rfl (by decide) rfl), by decide, (EqAtD.int Try.pu3).mono (d' := 1) (by decide), ⟨_, _, _, _, (part_run (cs := [.int .i64 x.Kind, .int .i64 x.Var, .int .i64 x.K, .int .i64 x.Block]) (cs' := [.int .i64 x.Var]) Try.pu3 Try.pi3 rfl rfl (by decide) rfl), (part_run (cs := [.int .i64 y.Kind, .int .i64 y.Var, .int .i64 y.K, .int .i64 y.Block]) (cs' := [.int .i64 y.Var]) Try.pu3 Try.pi3 rfl rfl (by decide) rfl), by decide, (EqAtD.int Try.pu3).mono (d' := 1) (by decide), ⟨_, _, _, _, (part_run (cs := [.int .i64 x.Kind, .int .i64 x.Var, .int .i64 x.K, .int .i64 x.Block]) (cs' := [.int .i64 x.K]) Try.pu2 Try.pi2 rfl rfl (by decide) rfl), (part_run (cs := [.int .i64 y.Kind, .int .i64 y.Var, .int .i64 y.K, .int .i64 y.Block]) (cs' := [.int .i64 y.K]) Try.pu2 Try.pi2 rfl rfl (by decide) rfl), by decide, (EqAtD.int Try.pu2).mono (d' := 1) (by decide), ⟨_, _, _, _, (part_run (cs := [.int .i64 x.Kind, .int .i64 x.Var, .int .i64 x.K, .int .i64 x.Block]) (cs' := [.int .i64 x.Block]) Try.pu3 Try.pi3 rfl rfl (by decide) rfl), (part_run (cs := [.int .i64 y.Kind, .int .i64 y.Var, .int .i64 y.K, .int .i64 y.Block]) (cs' := [.int .i64 y.Block]) Try.pu3 Try.pi3 rfl rfl (by decide) rfl), by decide, (EqAtD.int Try.pu3).mono (d' := 1) (by decide), rfl, rfl⟩, rfl⟩, rfl⟩, rfl⟩)
theorem eq_Glychgateref04_Leq {x y : Glychgateref04_Leq} : EqAtD Try.prog 55 2 (.agg #[.int .i64 x.X, .int .i64 x.Y, .int .i64 x.C]) (.agg #[.int .i64 y.X, .int .i64 y.Y, .int .i64 y.C]) (decide (x = y)) := by
  have h : ((decide (x.X = y.X) && (decide (x.Y = y.Y) && (decide (x.C = y.C) && true)))) = decide (x = y) := by cases x; cases y; rw [Bool.eq_iff_iff]; simp
  rw [← h]; exact EqAtD.struct Try.pu55 (by kernel_rfl) (⟨_, _, _, _, (part_run (cs := [.int .i64 x.X, .int .i64 x.Y, .int .i64 x.C]) (cs' := [.int .i64 x.X]) Try.pu3 Try.pi3 rfl rfl (by decide) rfl), (part_run (cs := [.int .i64 y.X, .int .i64 y.Y, .int .i64 y.C]) (cs' := [.int .i64 y.X]) Try.pu3 Try.pi3 rfl rfl (by decide) rfl), by decide, (EqAtD.int Try.pu3).mono (d' := 1) (by decide), ⟨_, _, _, _, (part_run (cs := [.int .i64 x.X, .int .i64 x.Y, .int .i64 x.C]) (cs' := [.int .i64 x.Y]) Try.pu3 Try.pi3 rfl rfl (by decide) rfl), (part_run (cs := [.int .i64 y.X, .int .i64 y.Y, .int .i64 y.C]) (cs' := [.int .i64 y.Y]) Try.pu3 Try.pi3 rfl rfl (by decide) rfl), by decide, (EqAtD.int Try.pu3).mono (d' := 1) (by decide), ⟨_, _, _, _, (part_run (cs := [.int .i64 x.X, .int .i64 x.Y, .int .i64 x.C]) (cs' := [.int .i64 x.C]) Try.pu2 Try.pi2 rfl rfl (by decide) rfl), (part_run (cs := [.int .i64 y.X, .int .i64 y.Y, .int .i64 y.C]) (cs' := [.int .i64 y.C]) Try.pu2 Try.pi2 rfl rfl (by decide) rfl), by decide, (EqAtD.int Try.pu2).mono (d' := 1) (by decide), rfl, rfl⟩, rfl⟩, rfl⟩)
theorem rd_Gdiff_Leq : Rd Try.prog 39 t_Gdiff_Leq (fun x => 1 + 1 + 1 + 1) (fun x => (IntKind.i64.min ≤ x.X ∧ x.X ≤ IntKind.i64.max) ∧ (IntKind.i64.min ≤ x.Y ∧ x.Y ≤ IntKind.i64.max) ∧ (IntKind.i64.min ≤ x.C ∧ x.C ≤ IntKind.i64.max)) where
  open_ := by
    intro H enc m hm W fuel cs x h
    obtain ⟨hl, n, xs, hx, hlen, hf⟩ := struct_open Try.pu39 h
    obtain ⟨y0, hy0, ht0⟩ := hf 0 (Try.pf39.getD 0 default) rfl
    obtain ⟨a0, r0, w0, g0⟩ := (rd_int Try.pu3 Try.pc3).open_ enc m hm W n _ _ ht0
    replace r0 : (tInt .i64).rel (snap W) ((cs.drop 0).take 1) a0 := by rw [show Try.prog.cellsOf (Try.pf39.getD 0 default).type = 1 from Try.pc3] at r0; exact r0
    obtain ⟨y1, hy1, ht1⟩ := hf 1 (Try.pf39.getD 1 default) rfl
    obtain ⟨a1, r1, w1, g1⟩ := (rd_int Try.pu3 Try.pc3).open_ enc m hm W n _ _ ht1
    replace r1 : (tInt .i64).rel (snap W) ((cs.drop 1).take 1) a1 := by rw [show Try.prog.cellsOf (Try.pf39.getD 1 default).type = 1 from Try.pc3] at r1; exact r1
    obtain ⟨y2, hy2, ht2⟩ := hf 2 (Try.pf39.getD 2 default) rfl
    obtain ⟨a2, r2, w2, g2⟩ := (rd_int Try.pu2 Try.pc2).open_ enc m hm W n _ _ ht2
    replace r2 : (tInt .i64).rel (snap W) ((cs.drop 2).take 1) a2 := by rw [show Try.prog.cellsOf (Try.pf39.getD 2 default).type = 1 from Try.pc2] at r2; exact r2
    have hcs : cs = (cs.drop 0).take 3 := by rw [Try.pc39] at hl; rw [List.drop_zero, ← hl, List.take_length]
    refine ⟨⟨a0, a1, a2⟩, ?_, ?_, ⟨g0, g1, g2⟩⟩
    · rw [hcs]; exact (prod_at r0 (prod_at r1 r2 rfl) rfl)
    · have hag := hm.agg (xs.map (·.1))
      rw [← hx] at hag
      match xs, hlen with
      | [z0, z1, z2], _ =>
        simp at hy0 hy1 hy2
        subst hy0; subst hy1; subst hy2
        simp only [List.map_cons, List.map_nil, List.sum_cons, List.sum_nil] at hag
        try simp only at w0 w1 w2
        try simp only
        omega
  shape := shape_struct Try.pu39
  size := Try.pc39
theorem rd_Gheap_Sym : Rd Try.prog 33 t_Gheap_Sym (fun x => 1 + 1 + 1 + 1 + 1) (fun x => (IntKind.i64.min ≤ x.Kind ∧ x.Kind ≤ IntKind.i64.max) ∧ (IntKind.i64.min ≤ x.Var ∧ x.Var ≤ IntKind.i64.max) ∧ (IntKind.i64.min ≤ x.K ∧ x.K ≤ IntKind.i64.max) ∧ (IntKind.i64.min ≤ x.Block ∧ x.Block ≤ IntKind.i64.max)) where
  open_ := by
    intro H enc m hm W fuel cs x h
    obtain ⟨hl, n, xs, hx, hlen, hf⟩ := struct_open Try.pu33 h
    obtain ⟨y0, hy0, ht0⟩ := hf 0 (Try.pf33.getD 0 default) rfl
    obtain ⟨a0, r0, w0, g0⟩ := (rd_int Try.pu31 Try.pc31).open_ enc m hm W n _ _ ht0
    replace r0 : (tInt .i64).rel (snap W) ((cs.drop 0).take 1) a0 := by rw [show Try.prog.cellsOf (Try.pf33.getD 0 default).type = 1 from Try.pc31] at r0; exact r0
    obtain ⟨y1, hy1, ht1⟩ := hf 1 (Try.pf33.getD 1 default) rfl
    obtain ⟨a1, r1, w1, g1⟩ := (rd_int Try.pu3 Try.pc3).open_ enc m hm W n _ _ ht1
    replace r1 : (tInt .i64).rel (snap W) ((cs.drop 1).take 1) a1 := by rw [show Try.prog.cellsOf (Try.pf33.getD 1 default).type = 1 from Try.pc3] at r1; exact r1
    obtain ⟨y2, hy2, ht2⟩ := hf 2 (Try.pf33.getD 2 default) rfl
    obtain ⟨a2, r2, w2, g2⟩ := (rd_int Try.pu2 Try.pc2).open_ enc m hm W n _ _ ht2
    replace r2 : (tInt .i64).rel (snap W) ((cs.drop 2).take 1) a2 := by rw [show Try.prog.cellsOf (Try.pf33.getD 2 default).type = 1 from Try.pc2] at r2; exact r2
    obtain ⟨y3, hy3, ht3⟩ := hf 3 (Try.pf33.getD 3 default) rfl
    obtain ⟨a3, r3, w3, g3⟩ := (rd_int Try.pu3 Try.pc3).open_ enc m hm W n _ _ ht3
    replace r3 : (tInt .i64).rel (snap W) ((cs.drop 3).take 1) a3 := by rw [show Try.prog.cellsOf (Try.pf33.getD 3 default).type = 1 from Try.pc3] at r3; exact r3
    have hcs : cs = (cs.drop 0).take 4 := by rw [Try.pc33] at hl; rw [List.drop_zero, ← hl, List.take_length]
    refine ⟨⟨a0, a1, a2, a3⟩, ?_, ?_, ⟨g0, g1, g2, g3⟩⟩
    · rw [hcs]; exact (prod_at r0 (prod_at r1 (prod_at r2 r3 rfl) rfl) rfl)
    · have hag := hm.agg (xs.map (·.1))
      rw [← hx] at hag
      match xs, hlen with
      | [z0, z1, z2, z3], _ =>
        simp at hy0 hy1 hy2 hy3
        subst hy0; subst hy1; subst hy2; subst hy3
        simp only [List.map_cons, List.map_nil, List.sum_cons, List.sum_nil] at hag
        try simp only at w0 w1 w2 w3
        try simp only
        omega
  shape := shape_struct Try.pu33
  size := Try.pc33
theorem rd_Gheap_Chunk : Rd Try.prog 49 t_Gheap_Chunk (fun x => 1 + 1 + 1 + 1 + 1 + 1 + (1 + 1 + 1 + 1 + 1) + ((x.Cells.xs.map (fun y => (1 + 1 + 1 + 1 + 1))).sum + 1) + 1) (fun x => (IntKind.i64.min ≤ x.Origin ∧ x.Origin ≤ IntKind.i64.max) ∧ (IntKind.i64.min ≤ x.Type_ ∧ x.Type_ ≤ IntKind.i64.max) ∧ (IntKind.i64.min ≤ x.At ∧ x.At ≤ IntKind.i64.max) ∧ True ∧ True ∧ True ∧ ((IntKind.i64.min ≤ x.Size.Kind ∧ x.Size.Kind ≤ IntKind.i64.max) ∧ (IntKind.i64.min ≤ x.Size.Var ∧ x.Size.Var ≤ IntKind.i64.max) ∧ (IntKind.i64.min ≤ x.Size.K ∧ x.Size.K ≤ IntKind.i64.max) ∧ (IntKind.i64.min ≤ x.Size.Block ∧ x.Size.Block ≤ IntKind.i64.max)) ∧ ((x.Cells.nn = false → x.Cells.xs = []) ∧ x.Cells.xs.length ≤ maxLen ∧ ∀ y ∈ x.Cells.xs, ((IntKind.i64.min ≤ y.Kind ∧ y.Kind ≤ IntKind.i64.max) ∧ (IntKind.i64.min ≤ y.Var ∧ y.Var ≤ IntKind.i64.max) ∧ (IntKind.i64.min ≤ y.K ∧ y.K ≤ IntKind.i64.max) ∧ (IntKind.i64.min ≤ y.Block ∧ y.Block ≤ IntKind.i64.max)))) where
  open_ := by
    intro H enc m hm W fuel cs x h
    obtain ⟨hl, n, xs, hx, hlen, hf⟩ := struct_open Try.pu49 h
    obtain ⟨y0, hy0, ht0⟩ := hf 0 (Try.pf49.getD 0 default) rfl
    obtain ⟨a0, r0, w0, g0⟩ := (rd_int Try.pu47 Try.pc47).open_ enc m hm W n _ _ ht0
    replace r0 : (tInt .i64).rel (snap W) ((cs.drop 0).take 1) a0 := by rw [show Try.prog.cellsOf (Try.pf49.getD 0 default).type = 1 from Try.pc47] at r0; exact r0
    obtain ⟨y1, hy1, ht1⟩ := hf 1 (Try.pf49.getD 1 default) rfl
    obtain ⟨a1, r1, w1, g1⟩ := (rd_int Try.pu3 Try.pc3).open_ enc m hm W n _ _ ht1
    replace r1 : (tInt .i64).rel (snap W) ((cs.drop 1).take 1) a1 := by rw [show Try.prog.cellsOf (Try.pf49.getD 1 default).type = 1 from Try.pc3] at r1; exact r1
    obtain ⟨y2, hy2, ht2⟩ := hf 2 (Try.pf49.getD 2 default) rfl
    obtain ⟨a2, r2, w2, g2⟩ := (rd_int Try.pu3 Try.pc3).open_ enc m hm W n _ _ ht2
    replace r2 : (tInt .i64).rel (snap W) ((cs.drop 2).take 1) a2 := by rw [show Try.prog.cellsOf (Try.pf49.getD 2 default).type = 1 from Try.pc3] at r2; exact r2
    obtain ⟨y3, hy3, ht3⟩ := hf 3 (Try.pf49.getD 3 default) rfl
    obtain ⟨a3, r3, w3, g3⟩ := (rd_bool Try.pu4 Try.pc4).open_ enc m hm W n _ _ ht3
    replace r3 : tBool.rel (snap W) ((cs.drop 3).take 1) a3 := by rw [show Try.prog.cellsOf (Try.pf49.getD 3 default).type = 1 from Try.pc4] at r3; exact r3
    obtain ⟨y4, hy4, ht4⟩ := hf 4 (Try.pf49.getD 4 default) rfl
    obtain ⟨a4, r4, w4, g4⟩ := (rd_bool Try.pu4 Try.pc4).open_ enc m hm W n _ _ ht4
    replace r4 : tBool.rel (snap W) ((cs.drop 4).take 1) a4 := by rw [show Try.prog.cellsOf (Try.pf49.getD 4 default).type = 1 from Try.pc4] at r4; exact r4
    obtain ⟨y5, hy5, ht5⟩ := hf 5 (Try.pf49.getD 5 default) rfl
    obtain ⟨a5, r5, w5, g5⟩ := (rd_bool Try.pu4 Try.pc4).open_ enc m hm W n _ _ ht5
    replace r5 : tBool.rel (snap W) ((cs.drop 5).take 1) a5 := by rw [show Try.prog.cellsOf (Try.pf49.getD 5 default).type = 1 from Try.pc4] at r5; exact r5
    obtain ⟨y6, hy6, ht6⟩ := hf 6 (Try.pf49.getD 6 default) rfl
    obtain ⟨a6, r6, w6, g6⟩ := rd_Gheap_Sym.open_ enc m hm W n _ _ ht6
    replace r6 : t_Gheap_Sym.rel (snap W) ((cs.drop 6).take 4) a6 := by rw [show Try.prog.cellsOf (Try.pf49.getD 6 default).type = 4 from Try.pc33] at r6; exact r6
    obtain ⟨y7, hy7, ht7⟩ := hf 7 (Try.pf49.getD 7 default) rfl
    obtain ⟨a7, r7, w7, g7⟩ := (rd_slice Try.pu23 Try.pc23 rd_Gheap_Sym).open_ enc m hm W n _ _ ht7
    replace r7 : (tSl t_Gheap_Sym).rel (snap W) ((cs.drop 10).take 1) a7 := by rw [show Try.prog.cellsOf (Try.pf49.getD 7 default).type = 1 from Try.pc23] at r7; exact r7
    have hcs : cs = (cs.drop 0).take 11 := by rw [Try.pc49] at hl; rw [List.drop_zero, ← hl, List.take_length]
    refine ⟨⟨a0, a1, a2, a3, a4, a5, a6, a7⟩, ?_, ?_, ⟨g0, g1, g2, g3, g4, g5, g6, g7⟩⟩
    · rw [hcs]; exact (prod_at r0 (prod_at r1 (prod_at r2 (prod_at r3 (prod_at r4 (prod_at r5 (prod_at r6 r7 rfl) rfl) rfl) rfl) rfl) rfl) rfl)
    · have hag := hm.agg (xs.map (·.1))
      rw [← hx] at hag
      match xs, hlen with
      | [z0, z1, z2, z3, z4, z5, z6, z7], _ =>
        simp at hy0 hy1 hy2 hy3 hy4 hy5 hy6 hy7
        subst hy0; subst hy1; subst hy2; subst hy3; subst hy4; subst hy5; subst hy6; subst hy7
        simp only [List.map_cons, List.map_nil, List.sum_cons, List.sum_nil] at hag
        try simp only at w0 w1 w2 w3 w4 w5 w6 w7
        try simp only
        omega
  shape := shape_struct Try.pu49
  size := Try.pc49
theorem rd_Glychgatelaw13_Op : Rd Try.prog 51 t_Glychgatelaw13_Op (fun x => 1 + (1 + 1 + 1 + 1 + 1) + (1 + 1 + 1 + 1 + 1) + (1 + 1 + 1 + 1 + 1) + 1 + (1 + 1 + 1 + 1 + 1 + 1 + (1 + 1 + 1 + 1 + 1) + ((x.Chunk.Cells.xs.map (fun y => (1 + 1 + 1 + 1 + 1))).sum + 1) + 1) + ((x.Facts.xs.map (fun y => (1 + 1 + 1 + 1))).sum + 1) + 1) (fun x => (IntKind.i64.min ≤ x.Kind ∧ x.Kind ≤ IntKind.i64.max) ∧ ((IntKind.i64.min ≤ x.P.Kind ∧ x.P.Kind ≤ IntKind.i64.max) ∧ (IntKind.i64.min ≤ x.P.Var ∧ x.P.Var ≤ IntKind.i64.max) ∧ (IntKind.i64.min ≤ x.P.K ∧ x.P.K ≤ IntKind.i64.max) ∧ (IntKind.i64.min ≤ x.P.Block ∧ x.P.Block ≤ IntKind.i64.max)) ∧ ((IntKind.i64.min ≤ x.I.Kind ∧ x.I.Kind ≤ IntKind.i64.max) ∧ (IntKind.i64.min ≤ x.I.Var ∧ x.I.Var ≤ IntKind.i64.max) ∧ (IntKind.i64.min ≤ x.I.K ∧ x.I.K ≤ IntKind.i64.max) ∧ (IntKind.i64.min ≤ x.I.Block ∧ x.I.Block ≤ IntKind.i64.max)) ∧ ((IntKind.i64.min ≤ x.V.Kind ∧ x.V.Kind ≤ IntKind.i64.max) ∧ (IntKind.i64.min ≤ x.V.Var ∧ x.V.Var ≤ IntKind.i64.max) ∧ (IntKind.i64.min ≤ x.V.K ∧ x.V.K ≤ IntKind.i64.max) ∧ (IntKind.i64.min ≤ x.V.Block ∧ x.V.Block ≤ IntKind.i64.max)) ∧ (IntKind.i64.min ≤ x.N ∧ x.N ≤ IntKind.i64.max) ∧ ((IntKind.i64.min ≤ x.Chunk.Origin ∧ x.Chunk.Origin ≤ IntKind.i64.max) ∧ (IntKind.i64.min ≤ x.Chunk.Type_ ∧ x.Chunk.Type_ ≤ IntKind.i64.max) ∧ (IntKind.i64.min ≤ x.Chunk.At ∧ x.Chunk.At ≤ IntKind.i64.max) ∧ True ∧ True ∧ True ∧ ((IntKind.i64.min ≤ x.Chunk.Size.Kind ∧ x.Chunk.Size.Kind ≤ IntKind.i64.max) ∧ (IntKind.i64.min ≤ x.Chunk.Size.Var ∧ x.Chunk.Size.Var ≤ IntKind.i64.max) ∧ (IntKind.i64.min ≤ x.Chunk.Size.K ∧ x.Chunk.Size.K ≤ IntKind.i64.max) ∧ (IntKind.i64.min ≤ x.Chunk.Size.Block ∧ x.Chunk.Size.Block ≤ IntKind.i64.max)) ∧ ((x.Chunk.Cells.nn = false → x.Chunk.Cells.xs = []) ∧ x.Chunk.Cells.xs.length ≤ maxLen ∧ ∀ y ∈ x.Chunk.Cells.xs, ((IntKind.i64.min ≤ y.Kind ∧ y.Kind ≤ IntKind.i64.max) ∧ (IntKind.i64.min ≤ y.Var ∧ y.Var ≤ IntKind.i64.max) ∧ (IntKind.i64.min ≤ y.K ∧ y.K ≤ IntKind.i64.max) ∧ (IntKind.i64.min ≤ y.Block ∧ y.Block ≤ IntKind.i64.max)))) ∧ ((x.Facts.nn = false → x.Facts.xs = []) ∧ x.Facts.xs.length ≤ maxLen ∧ ∀ y ∈ x.Facts.xs, ((IntKind.i64.min ≤ y.X ∧ y.X ≤ IntKind.i64.max) ∧ (IntKind.i64.min ≤ y.Y ∧ y.Y ≤ IntKind.i64.max) ∧ (IntKind.i64.min ≤ y.C ∧ y.C ≤ IntKind.i64.max)))) where
  open_ := by
    intro H enc m hm W fuel cs x h
    obtain ⟨hl, n, xs, hx, hlen, hf⟩ := struct_open Try.pu51 h
    obtain ⟨y0, hy0, ht0⟩ := hf 0 (Try.pf51.getD 0 default) rfl
    obtain ⟨a0, r0, w0, g0⟩ := (rd_int Try.pu3 Try.pc3).open_ enc m hm W n _ _ ht0
    replace r0 : (tInt .i64).rel (snap W) ((cs.drop 0).take 1) a0 := by rw [show Try.prog.cellsOf (Try.pf51.getD 0 default).type = 1 from Try.pc3] at r0; exact r0
    obtain ⟨y1, hy1, ht1⟩ := hf 1 (Try.pf51.getD 1 default) rfl
    obtain ⟨a1, r1, w1, g1⟩ := rd_Gheap_Sym.open_ enc m hm W n _ _ ht1
    replace r1 : t_Gheap_Sym.rel (snap W) ((cs.drop 1).take 4) a1 := by rw [show Try.prog.cellsOf (Try.pf51.getD 1 default).type = 4 from Try.pc33] at r1; exact r1
    obtain ⟨y2, hy2, ht2⟩ := hf 2 (Try.pf51.getD 2 default) rfl
    obtain ⟨a2, r2, w2, g2⟩ := rd_Gheap_Sym.open_ enc m hm W n _ _ ht2
    replace r2 : t_Gheap_Sym.rel (snap W) ((cs.drop 5).take 4) a2 := by rw [show Try.prog.cellsOf (Try.pf51.getD 2 default).type = 4 from Try.pc33] at r2; exact r2
    obtain ⟨y3, hy3, ht3⟩ := hf 3 (Try.pf51.getD 3 default) rfl
    obtain ⟨a3, r3, w3, g3⟩ := rd_Gheap_Sym.open_ enc m hm W n _ _ ht3
    replace r3 : t_Gheap_Sym.rel (snap W) ((cs.drop 9).take 4) a3 := by rw [show Try.prog.cellsOf (Try.pf51.getD 3 default).type = 4 from Try.pc33] at r3; exact r3
    obtain ⟨y4, hy4, ht4⟩ := hf 4 (Try.pf51.getD 4 default) rfl
    obtain ⟨a4, r4, w4, g4⟩ := (rd_int Try.pu2 Try.pc2).open_ enc m hm W n _ _ ht4
    replace r4 : (tInt .i64).rel (snap W) ((cs.drop 13).take 1) a4 := by rw [show Try.prog.cellsOf (Try.pf51.getD 4 default).type = 1 from Try.pc2] at r4; exact r4
    obtain ⟨y5, hy5, ht5⟩ := hf 5 (Try.pf51.getD 5 default) rfl
    obtain ⟨a5, r5, w5, g5⟩ := rd_Gheap_Chunk.open_ enc m hm W n _ _ ht5
    replace r5 : t_Gheap_Chunk.rel (snap W) ((cs.drop 14).take 11) a5 := by rw [show Try.prog.cellsOf (Try.pf51.getD 5 default).type = 11 from Try.pc49] at r5; exact r5
    obtain ⟨y6, hy6, ht6⟩ := hf 6 (Try.pf51.getD 6 default) rfl
    obtain ⟨a6, r6, w6, g6⟩ := (rd_slice Try.pu22 Try.pc22 rd_Gdiff_Leq).open_ enc m hm W n _ _ ht6
    replace r6 : (tSl t_Gdiff_Leq).rel (snap W) ((cs.drop 25).take 1) a6 := by rw [show Try.prog.cellsOf (Try.pf51.getD 6 default).type = 1 from Try.pc22] at r6; exact r6
    have hcs : cs = (cs.drop 0).take 26 := by rw [Try.pc51] at hl; rw [List.drop_zero, ← hl, List.take_length]
    refine ⟨⟨a0, a1, a2, a3, a4, a5, a6⟩, ?_, ?_, ⟨g0, g1, g2, g3, g4, g5, g6⟩⟩
    · rw [hcs]; exact (prod_at r0 (prod_at r1 (prod_at r2 (prod_at r3 (prod_at r4 (prod_at r5 r6 rfl) rfl) rfl) rfl) rfl) rfl)
    · have hag := hm.agg (xs.map (·.1))
      rw [← hx] at hag
      match xs, hlen with
      | [z0, z1, z2, z3, z4, z5, z6], _ =>
        simp at hy0 hy1 hy2 hy3 hy4 hy5 hy6
        subst hy0; subst hy1; subst hy2; subst hy3; subst hy4; subst hy5; subst hy6
        simp only [List.map_cons, List.map_nil, List.sum_cons, List.sum_nil] at hag
        try simp only at w0 w1 w2 w3 w4 w5 w6
        try simp only
        omega
  shape := shape_struct Try.pu51
  size := Try.pc51
end Go.Px
