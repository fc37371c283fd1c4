/- The types of the program that the models use. -/
import Derived.Test.YtdpnogldgiomnaaProg
import Derived.Test.YtdpnogldgiomnaaB8
namespace Go.Px
open Go.Proofs
set_option linter.unusedVariables false
theorem Try.mixed : Try.prog.follows .mixedOrders = true := by kernel_rfl
theorem Try.pu2 : Try.prog.underlying 2 = some (.int .i64) := by kernel_rfl
theorem Try.pu3 : Try.prog.underlying 3 = some (.int .i64) := by kernel_rfl
theorem Try.pu4 : Try.prog.underlying 4 = some .bool := by kernel_rfl
theorem Try.pu22 : Try.prog.underlying 22 = some (.slice 37) := by kernel_rfl
theorem Try.pu23 : Try.prog.underlying 23 = some (.slice 2) := by kernel_rfl
theorem Try.pu24 : Try.prog.underlying 24 = some (.slice 3) := by kernel_rfl
theorem Try.pu29 : Try.prog.underlying 29 = some (.slice 41) := by kernel_rfl
noncomputable def Try.pf37 : Array Field := fieldsOf Try.t36.desc
theorem Try.pu37 : Try.prog.underlying 37 = some (.struct Try.pf37) := by kernel_rfl
noncomputable def Try.pf41 : Array Field := fieldsOf Try.t36.desc
theorem Try.pu41 : Try.prog.underlying 41 = some (.struct Try.pf41) := by kernel_rfl
theorem Try.pu45 : Try.prog.underlying 45 = some (.array 2 37) := by kernel_rfl
theorem Try.pi2 : Try.prog.info? 2 = some Try.t2 := by kernel_rfl
theorem Try.pi3 : Try.prog.info? 3 = some Try.t3 := by kernel_rfl
theorem Try.pi37 : Try.prog.info? 37 = some Try.t37 := by kernel_rfl
theorem Try.pi41 : Try.prog.info? 41 = some Try.t41 := by kernel_rfl
theorem Try.pc2 : Try.prog.cellsOf 2 = 1 := by kernel_rfl
theorem Try.pc3 : Try.prog.cellsOf 3 = 1 := by kernel_rfl
theorem Try.pc22 : Try.prog.cellsOf 22 = 1 := by kernel_rfl
theorem Try.pc23 : Try.prog.cellsOf 23 = 1 := by kernel_rfl
theorem Try.pc37 : Try.prog.cellsOf 37 = 3 := by kernel_rfl
theorem Try.pc45 : Try.prog.cellsOf 45 = 6 := by kernel_rfl
theorem Try.pn10 : (Try.f10.name == "runtime.NumGoroutine") = false := by kernel_rfl
theorem Try.pn11 : (Try.f11.name == "runtime.NumGoroutine") = false := by kernel_rfl
theorem Try.pn12 : (Try.f12.name == "runtime.NumGoroutine") = false := by kernel_rfl
theorem Try.pn13 : (Try.f13.name == "runtime.NumGoroutine") = false := by kernel_rfl
theorem Try.pn14 : (Try.f14.name == "runtime.NumGoroutine") = false := by kernel_rfl
theorem Try.pn15 : (Try.f15.name == "runtime.NumGoroutine") = false := by kernel_rfl
theorem Try.pn16 : (Try.f16.name == "runtime.NumGoroutine") = false := by kernel_rfl
theorem Try.pn17 : (Try.f17.name == "runtime.NumGoroutine") = false := by kernel_rfl
theorem Try.pn18 : (Try.f18.name == "runtime.NumGoroutine") = false := by kernel_rfl
theorem Try.pn19 : (Try.f19.name == "runtime.NumGoroutine") = false := by kernel_rfl
theorem Try.pn20 : (Try.f20.name == "runtime.NumGoroutine") = false := by kernel_rfl
theorem Try.pn21 : (Try.f21.name == "runtime.NumGoroutine") = false := by kernel_rfl
theorem Try.pn22 : (Try.f22.name == "runtime.NumGoroutine") = false := by kernel_rfl
theorem Try.pn23 : (Try.f23.name == "runtime.NumGoroutine") = false := by kernel_rfl
theorem Try.pn24 : (Try.f24.name == "runtime.NumGoroutine") = false := by kernel_rfl
structure Gdiff_Leq where
  X : Int
  Y : Int
  C : Int
  deriving Inhabited, DecidableEq
def t_Gdiff_Leq : Ty Gdiff_Leq := (tProd (tInt .i64) (tProd (tInt .i64) (tInt .i64))).comap fun x => (x.X, x.Y, x.C)
instance : Plain t_Gdiff_Leq := by unfold t_Gdiff_Leq; infer_instance
theorem t_Gdiff_Leq_r {σ : FS} {cs : List Value} {x : Gdiff_Leq} : t_Gdiff_Leq.rel σ cs x ↔ cs = [.int .i64 x.X, .int .i64 x.Y, .int .i64 x.C] := by
  constructor
  · intro h; exact (Plain.spec σ cs x).1 h
  · intro h; exact (Plain.spec (T := t_Gdiff_Leq) σ cs x).2 h
theorem t_Gdiff_Leq_v {σ : FS} {v : Value} {x : Gdiff_Leq} : t_Gdiff_Leq.vrel σ v x ↔ v = .agg #[.int .i64 x.X, .int .i64 x.Y, .int .i64 x.C] := by
  rw [vrel_agg rfl]
  constructor
  · rintro ⟨cs, rfl, h⟩; rw [t_Gdiff_Leq_r.1 h]
  · rintro rfl; exact ⟨_, rfl, t_Gdiff_Leq_r.2 rfl⟩
theorem f_Gdiff_Leq_X : FieldAt t_Gdiff_Leq 0 (tInt .i64) (fun x => x.X) := fun σ cs x h => (FieldAt.fst) σ cs (x.X, x.Y, x.C) h
theorem f_Gdiff_Leq_Y : FieldAt t_Gdiff_Leq 1 (tInt .i64) (fun x => x.Y) := fun σ cs x h => ((FieldAt.comp FieldAt.snd FieldAt.fst (by decide))) σ cs (x.X, x.Y, x.C) h
theorem f_Gdiff_Leq_C : FieldAt t_Gdiff_Leq 2 (tInt .i64) (fun x => x.C) := fun σ cs x h => ((FieldAt.comp FieldAt.snd FieldAt.snd (by decide))) σ cs (x.X, x.Y, x.C) h
structure Glychgateref04_Leq where
  X : Int
  Y : Int
  C : Int
  deriving Inhabited, DecidableEq
def t_Glychgateref04_Leq : Ty Glychgateref04_Leq := (tProd (tInt .i64) (tProd (tInt .i64) (tInt .i64))).comap fun x => (x.X, x.Y, x.C)
instance : Plain t_Glychgateref04_Leq := by unfold t_Glychgateref04_Leq; infer_instance
theorem t_Glychgateref04_Leq_r {σ : FS} {cs : List Value} {x : Glychgateref04_Leq} : t_Glychgateref04_Leq.rel σ cs x ↔ cs = [.int .i64 x.X, .int .i64 x.Y, .int .i64 x.C] := by
  constructor
  · intro h; exact (Plain.spec σ cs x).1 h
  · intro h; exact (Plain.spec (T := t_Glychgateref04_Leq) σ cs x).2 h
theorem t_Glychgateref04_Leq_v {σ : FS} {v : Value} {x : Glychgateref04_Leq} : t_Glychgateref04_Leq.vrel σ v x ↔ v = .agg #[.int .i64 x.X, .int .i64 x.Y, .int .i64 x.C] := by
  rw [vrel_agg rfl]
  constructor
  · rintro ⟨cs, rfl, h⟩; rw [t_Glychgateref04_Leq_r.1 h]
  · rintro rfl; exact ⟨_, rfl, t_Glychgateref04_Leq_r.2 rfl⟩
theorem f_Glychgateref04_Leq_X : FieldAt t_Glychgateref04_Leq 0 (tInt .i64) (fun x => x.X) := fun σ cs x h => (FieldAt.fst) σ cs (x.X, x.Y, x.C) h
theorem f_Glychgateref04_Leq_Y : FieldAt t_Glychgateref04_Leq 1 (tInt .i64) (fun x => x.Y) := fun σ cs x h => ((FieldAt.comp FieldAt.snd FieldAt.fst (by decide))) σ cs (x.X, x.Y, x.C) h
theorem f_Glychgateref04_Leq_C : FieldAt t_Glychgateref04_Leq 2 (tInt .i64) (fun x => x.C) := fun σ cs x h => ((FieldAt.comp FieldAt.snd FieldAt.snd (by decide))) σ cs (x.X, x.Y, x.C) h
structure GSt45 where
  e0 : Gdiff_Leq
  e1 : Gdiff_Leq
  deriving Inhabited, DecidableEq
def t_GSt45 : Ty GSt45 := (tProd t_Gdiff_Leq t_Gdiff_Leq).comap fun x => (x.e0, x.e1)
instance : Plain t_GSt45 := by unfold t_GSt45; infer_instance
theorem t_GSt45_r {σ : FS} {cs : List Value} {x : GSt45} : t_GSt45.rel σ cs x ↔ cs = [.int .i64 x.e0.X, .int .i64 x.e0.Y, .int .i64 x.e0.C, .int .i64 x.e1.X, .int .i64 x.e1.Y, .int .i64 x.e1.C] := by
  constructor
  · intro h; exact (Plain.spec σ cs x).1 h
  · intro h; exact (Plain.spec (T := t_GSt45) σ cs x).2 h
theorem t_GSt45_v {σ : FS} {v : Value} {x : GSt45} : t_GSt45.vrel σ v x ↔ v = .agg #[.int .i64 x.e0.X, .int .i64 x.e0.Y, .int .i64 x.e0.C, .int .i64 x.e1.X, .int .i64 x.e1.Y, .int .i64 x.e1.C] := by
  rw [vrel_agg rfl]
  constructor
  · rintro ⟨cs, rfl, h⟩; rw [t_GSt45_r.1 h]
  · rintro rfl; exact ⟨_, rfl, t_GSt45_r.2 rfl⟩
theorem f_GSt45_e0 : FieldAt t_GSt45 0 t_Gdiff_Leq (fun x => x.e0) := fun σ cs x h => (FieldAt.fst) σ cs (x.e0, x.e1) h
theorem f_GSt45_e1 : FieldAt t_GSt45 3 t_Gdiff_Leq (fun x => x.e1) := fun σ cs x h => (FieldAt.snd) σ cs (x.e0, x.e1) h
def Fnc_T51 (P : Program) (σ : FS) (v : Value) (f : Gdiff_Leq → Option Bool) : Prop := ∃ (fi : FuncId) (fn : Func) (ca : List Value), v = .func (.func fi) #[] ca.toArray ∧ P.funcs[fi]? = some fn ∧ (fn.name == "runtime.NumGoroutine") = false ∧ fn.body.isNone = false ∧
  ∀ (τ : FS) (w : World), σ.le τ → τ.sub w → ∀ (v0 : Value) (x0 : Gdiff_Leq) (_ : t_Gdiff_Leq.vrel τ v0 x0) (r : Bool), f x0 = some r → Does P fi (v0 :: ca) w τ (fun σ PV v => v = .bool r ∧ PV = [])
theorem rd_Gdiff_Leq : Rd Try.prog 37 t_Gdiff_Leq (fun x => 1 + 1 + 1 + 1) (fun x => (IntKind.i64.min ≤ x.X ∧ x.X ≤ IntKind.i64.max) ∧ (IntKind.i64.min ≤ x.Y ∧ x.Y ≤ IntKind.i64.max) ∧ (IntKind.i64.min ≤ x.C ∧ x.C ≤ IntKind.i64.max)) where
  open_ := by
    intro H enc m hm W fuel cs x h
    obtain ⟨hl, n, xs, hx, hlen, hf⟩ := struct_open Try.pu37 h
    obtain ⟨y0, hy0, ht0⟩ := hf 0 (Try.pf37.getD 0 default) rfl
    obtain ⟨a0, r0, w0, g0⟩ := (rd_int Try.pu3 Try.pc3).open_ enc m hm W n _ _ ht0
    replace r0 : (tInt .i64).rel (snap W) ((cs.drop 0).take 1) a0 := by rw [show Try.prog.cellsOf (Try.pf37.getD 0 default).type = 1 from Try.pc3] at r0; exact r0
    obtain ⟨y1, hy1, ht1⟩ := hf 1 (Try.pf37.getD 1 default) rfl
    obtain ⟨a1, r1, w1, g1⟩ := (rd_int Try.pu3 Try.pc3).open_ enc m hm W n _ _ ht1
    replace r1 : (tInt .i64).rel (snap W) ((cs.drop 1).take 1) a1 := by rw [show Try.prog.cellsOf (Try.pf37.getD 1 default).type = 1 from Try.pc3] at r1; exact r1
    obtain ⟨y2, hy2, ht2⟩ := hf 2 (Try.pf37.getD 2 default) rfl
    obtain ⟨a2, r2, w2, g2⟩ := (rd_int Try.pu2 Try.pc2).open_ enc m hm W n _ _ ht2
    replace r2 : (tInt .i64).rel (snap W) ((cs.drop 2).take 1) a2 := by rw [show Try.prog.cellsOf (Try.pf37.getD 2 default).type = 1 from Try.pc2] at r2; exact r2
    have hcs : cs = (cs.drop 0).take 3 := by rw [Try.pc37] at hl; rw [List.drop_zero, ← hl, List.take_length]
    refine ⟨⟨a0, a1, a2⟩, ?_, ?_, ⟨g0, g1, g2⟩⟩
    · rw [hcs]; exact (prod_at r0 (prod_at r1 r2 rfl) rfl)
    · have hag := hm.agg (xs.map (·.1))
      rw [← hx] at hag
      match xs, hlen with
      | [z0, z1, z2], _ =>
        simp at hy0 hy1 hy2
        subst hy0; subst hy1; subst hy2
        simp only [List.map_cons, List.map_nil, List.sum_cons, List.sum_nil] at hag
        try simp only at w0 w1 w2
        try simp only
        omega
  shape := shape_struct Try.pu37
  size := Try.pc37
theorem rd_GSt45 : Rd Try.prog 45 t_GSt45 (fun x => (1 + 1 + 1 + 1) + (1 + 1 + 1 + 1) + 1) (fun x => ((IntKind.i64.min ≤ x.e0.X ∧ x.e0.X ≤ IntKind.i64.max) ∧ (IntKind.i64.min ≤ x.e0.Y ∧ x.e0.Y ≤ IntKind.i64.max) ∧ (IntKind.i64.min ≤ x.e0.C ∧ x.e0.C ≤ IntKind.i64.max)) ∧ ((IntKind.i64.min ≤ x.e1.X ∧ x.e1.X ≤ IntKind.i64.max) ∧ (IntKind.i64.min ≤ x.e1.Y ∧ x.e1.Y ≤ IntKind.i64.max) ∧ (IntKind.i64.min ≤ x.e1.C ∧ x.e1.C ≤ IntKind.i64.max))) where
  open_ := by
    intro H enc m hm W fuel cs x h
    obtain ⟨hl, n, xs, hx, hlen, hf⟩ := arr_open Try.pu45 h
    obtain ⟨y0, hy0, ht0⟩ := hf 0 (by decide)
    obtain ⟨a0, r0, w0, g0⟩ := rd_Gdiff_Leq.open_ enc m hm W n _ _ ht0
    replace r0 : t_Gdiff_Leq.rel (snap W) ((cs.drop 0).take 3) a0 := by rw [show Try.prog.cellsOf 37 = 3 from Try.pc37] at r0; exact r0
    obtain ⟨y1, hy1, ht1⟩ := hf 1 (by decide)
    obtain ⟨a1, r1, w1, g1⟩ := rd_Gdiff_Leq.open_ enc m hm W n _ _ ht1
    replace r1 : t_Gdiff_Leq.rel (snap W) ((cs.drop 3).take 3) a1 := by rw [show Try.prog.cellsOf 37 = 3 from Try.pc37] at r1; exact r1
    have hcs : cs = (cs.drop 0).take 6 := by rw [Try.pc45] at hl; rw [List.drop_zero, ← hl, List.take_length]
    refine ⟨⟨a0, a1⟩, ?_, ?_, ⟨g0, g1⟩⟩
    · rw [hcs]; exact (prod_at r0 r1 rfl)
    · have hag := hm.agg (xs.map (·.1))
      rw [← hx] at hag
      match xs, hlen with
      | [z0, z1], _ =>
        simp at hy0 hy1
        subst hy0; subst hy1
        simp only [List.map_cons, List.map_nil, List.sum_cons, List.sum_nil] at hag
        try simp only at w0 w1
        try simp only
        omega
  shape := shape_array Try.pu45
  size := Try.pc45
end Go.Px
