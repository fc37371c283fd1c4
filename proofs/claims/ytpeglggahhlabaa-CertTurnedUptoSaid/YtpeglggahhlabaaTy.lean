/- The types of the program that the models use. -/
import Derived.Test.YtpeglggahhlabaaProg
import Derived.Test.YtpeglggahhlabaaC8
namespace Go.Px
open Go.Proofs
set_option linter.unusedVariables false
theorem Try.mixed : Try.prog.follows .mixedOrders = true := by kernel_rfl
theorem Try.pu2 : Try.prog.underlying 2 = some (.int .i64) := by kernel_rfl
theorem Try.pu3 : Try.prog.underlying 3 = some (.int .i64) := by kernel_rfl
theorem Try.pu4 : Try.prog.underlying 4 = some .bool := by kernel_rfl
theorem Try.pu22 : Try.prog.underlying 22 = some (.slice 3) := by kernel_rfl
theorem Try.pu23 : Try.prog.underlying 23 = some (.slice 37) := by kernel_rfl
theorem Try.pu30 : Try.prog.underlying 30 = some (.slice 2) := by kernel_rfl
noncomputable def Try.pf35 : Array Field := fieldsOf Try.t34.desc
theorem Try.pu35 : Try.prog.underlying 35 = some (.struct Try.pf35) := by kernel_rfl
noncomputable def Try.pf37 : Array Field := fieldsOf Try.t36.desc
theorem Try.pu37 : Try.prog.underlying 37 = some (.struct Try.pf37) := by kernel_rfl
theorem Try.pi2 : Try.prog.info? 2 = some Try.t2 := by kernel_rfl
theorem Try.pi3 : Try.prog.info? 3 = some Try.t3 := by kernel_rfl
theorem Try.pi4 : Try.prog.info? 4 = some Try.t4 := by kernel_rfl
theorem Try.pi22 : Try.prog.info? 22 = some Try.t22 := by kernel_rfl
theorem Try.pi23 : Try.prog.info? 23 = some Try.t23 := by kernel_rfl
theorem Try.pi30 : Try.prog.info? 30 = some Try.t30 := by kernel_rfl
theorem Try.pi35 : Try.prog.info? 35 = some Try.t35 := by kernel_rfl
theorem Try.pi37 : Try.prog.info? 37 = some Try.t37 := by kernel_rfl
theorem Try.pc2 : Try.prog.cellsOf 2 = 1 := by kernel_rfl
theorem Try.pc3 : Try.prog.cellsOf 3 = 1 := by kernel_rfl
theorem Try.pc30 : Try.prog.cellsOf 30 = 1 := by kernel_rfl
theorem Try.pn9 : (Try.f9.name == "runtime.NumGoroutine") = false := by kernel_rfl
theorem Try.pn10 : (Try.f10.name == "runtime.NumGoroutine") = false := by kernel_rfl
theorem Try.pn13 : (Try.f13.name == "runtime.NumGoroutine") = false := by kernel_rfl
theorem Try.pn15 : (Try.f15.name == "runtime.NumGoroutine") = false := by kernel_rfl
theorem Try.pn18 : (Try.f18.name == "runtime.NumGoroutine") = false := by kernel_rfl
theorem Try.pn19 : (Try.f19.name == "runtime.NumGoroutine") = false := by kernel_rfl
theorem Try.pn20 : (Try.f20.name == "runtime.NumGoroutine") = false := by kernel_rfl
theorem Try.pn21 : (Try.f21.name == "runtime.NumGoroutine") = false := by kernel_rfl
theorem Try.pn22 : (Try.f22.name == "runtime.NumGoroutine") = false := by kernel_rfl
theorem Try.pn23 : (Try.f23.name == "runtime.NumGoroutine") = false := by kernel_rfl
theorem Try.pn24 : (Try.f24.name == "runtime.NumGoroutine") = false := by kernel_rfl
theorem Try.pn25 : (Try.f25.name == "runtime.NumGoroutine") = false := by kernel_rfl
theorem Try.pn28 : (Try.f28.name == "runtime.NumGoroutine") = false := by kernel_rfl
theorem Try.pn29 : (Try.f29.name == "runtime.NumGoroutine") = false := by kernel_rfl
theorem Try.pn30 : (Try.f30.name == "runtime.NumGoroutine") = false := by kernel_rfl
theorem Try.pn31 : (Try.f31.name == "runtime.NumGoroutine") = false := by kernel_rfl
theorem Try.pn32 : (Try.f32.name == "runtime.NumGoroutine") = false := by kernel_rfl
structure Gdiff_Leq where
  X : Int
  Y : Int
  C : Int
  deriving Inhabited, DecidableEq
abbrev t_Gdiff_Leq : Ty Gdiff_Leq := (tProd (tInt .i64) (tProd (tInt .i64) (tInt .i64))).comap fun x => (x.X, x.Y, x.C)
theorem t_Gdiff_Leq_r {σ : FS} {cs : List Value} {x : Gdiff_Leq} : t_Gdiff_Leq.rel σ cs x ↔ cs = [.int .i64 x.X, .int .i64 x.Y, .int .i64 x.C] := by
  constructor
  · intro h; exact (Plain.spec σ cs x).1 h
  · intro h; exact (Plain.spec (T := t_Gdiff_Leq) σ cs x).2 h
theorem t_Gdiff_Leq_v {σ : FS} {v : Value} {x : Gdiff_Leq} : t_Gdiff_Leq.vrel σ v x ↔ v = .agg #[.int .i64 x.X, .int .i64 x.Y, .int .i64 x.C] := by
  rw [vrel_agg rfl]
  constructor
  · rintro ⟨cs, rfl, h⟩; rw [t_Gdiff_Leq_r.1 h]
  · rintro rfl; exact ⟨_, rfl, t_Gdiff_Leq_r.2 rfl⟩
theorem f_Gdiff_Leq_X : FieldAt t_Gdiff_Leq 0 (tInt .i64) (fun x => x.X) := fun σ cs x h => (FieldAt.fst) σ cs (x.X, x.Y, x.C) h
theorem f_Gdiff_Leq_Y : FieldAt t_Gdiff_Leq 1 (tInt .i64) (fun x => x.Y) := fun σ cs x h => ((FieldAt.comp FieldAt.snd FieldAt.fst (by decide))) σ cs (x.X, x.Y, x.C) h
theorem f_Gdiff_Leq_C : FieldAt t_Gdiff_Leq 2 (tInt .i64) (fun x => x.C) := fun σ cs x h => ((FieldAt.comp FieldAt.snd FieldAt.snd (by decide))) σ cs (x.X, x.Y, x.C) h
structure Gcert_Proof where
  Yes : Bool
  Cycle : Sl Int
  Numbers : Sl Int
  deriving Inhabited
abbrev t_Gcert_Proof : Ty Gcert_Proof := (tProd tBool (tProd (tSl (tInt .i64)) (tSl (tInt .i64)))).comap fun x => (x.Yes, x.Cycle, x.Numbers)
theorem t_Gcert_Proof_r {σ : FS} {cs : List Value} {x : Gcert_Proof} : t_Gcert_Proof.rel σ cs x ↔ ∃ v1 v2 : Value, cs = [.bool x.Yes, v1, v2] ∧ (tSl (tInt .i64)).vrel σ v1 x.Cycle ∧ (tSl (tInt .i64)).vrel σ v2 x.Numbers := by
  constructor
  · intro h
    obtain ⟨_, _, rfl, rfl, ⟨_, _, rfl, h0, h1⟩⟩ := h
    obtain ⟨u0, e0, g0⟩ := leaf_open rfl h0; subst e0
    obtain ⟨u1, e1, g1⟩ := leaf_open rfl h1; subst e1
    exact ⟨u0, u1, rfl, g0, g1⟩
  · rintro ⟨v1, v2, rfl, k0, k1⟩
    exact ⟨_, _, rfl, rfl, ⟨_, _, rfl, (leaf_close rfl k0), (leaf_close rfl k1)⟩⟩
theorem t_Gcert_Proof_v {σ : FS} {v : Value} {x : Gcert_Proof} : t_Gcert_Proof.vrel σ v x ↔ ∃ v1 v2 : Value, v = .agg #[.bool x.Yes, v1, v2] ∧ (tSl (tInt .i64)).vrel σ v1 x.Cycle ∧ (tSl (tInt .i64)).vrel σ v2 x.Numbers := by
  rw [vrel_agg rfl]
  constructor
  · rintro ⟨cs, rfl, h⟩; obtain ⟨v1, v2, e1, h1⟩ := t_Gcert_Proof_r.1 h; subst e1; exact ⟨v1, v2, rfl, h1⟩
  · rintro ⟨v1, v2, rfl, h⟩; exact ⟨_, rfl, t_Gcert_Proof_r.2 ⟨v1, v2, rfl, h⟩⟩
theorem f_Gcert_Proof_Yes : FieldAt t_Gcert_Proof 0 tBool (fun x => x.Yes) := fun σ cs x h => (FieldAt.fst) σ cs (x.Yes, x.Cycle, x.Numbers) h
theorem f_Gcert_Proof_Cycle : FieldAt t_Gcert_Proof 1 (tSl (tInt .i64)) (fun x => x.Cycle) := fun σ cs x h => ((FieldAt.comp FieldAt.snd FieldAt.fst (by decide))) σ cs (x.Yes, x.Cycle, x.Numbers) h
theorem f_Gcert_Proof_Numbers : FieldAt t_Gcert_Proof 2 (tSl (tInt .i64)) (fun x => x.Numbers) := fun σ cs x h => ((FieldAt.comp FieldAt.snd FieldAt.snd (by decide))) σ cs (x.Yes, x.Cycle, x.Numbers) h
abbrev o_Gcert_Proof : OTy Gcert_Proof := ((oProd (tBool).o (oProd ((tSl (tInt .i64))).o ((tSl (tInt .i64))).o))).comap fun x => (x.Yes, x.Cycle, x.Numbers)
theorem of_Gcert_Proof_Yes : OFieldAt o_Gcert_Proof 0 tBool (fun x => x.Yes) := fun σ h cs x r => (OFieldAt.fst OFieldAt.self (by decide)) σ h cs (x.Yes, x.Cycle, x.Numbers) r
theorem of_Gcert_Proof_Cycle : OFieldAt o_Gcert_Proof 1 (tSl (tInt .i64)) (fun x => x.Cycle) := fun σ h cs x r => (OFieldAt.snd (OFieldAt.fst OFieldAt.self (by decide))) σ h cs (x.Yes, x.Cycle, x.Numbers) r
theorem of_Gcert_Proof_Numbers : OFieldAt o_Gcert_Proof 2 (tSl (tInt .i64)) (fun x => x.Numbers) := fun σ h cs x r => (OFieldAt.snd (OFieldAt.snd OFieldAt.self)) σ h cs (x.Yes, x.Cycle, x.Numbers) r
end Go.Px
