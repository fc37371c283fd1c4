/- The types of the program that the models use. -/
import Derived.Test.YtpeglggahhlabaaProg
import Derived.Test.YtpeglggahhlabaaB8
namespace Go.Px
open Go.Proofs
set_option linter.unusedVariables false
theorem Try.mixed : Try.prog.follows .mixedOrders = true := by kernel_rfl
theorem Try.pu2 : Try.prog.underlying 2 = some (.int .i64) := by kernel_rfl
theorem Try.pu3 : Try.prog.underlying 3 = some (.int .i64) := by kernel_rfl
theorem Try.pu4 : Try.prog.underlying 4 = some .bool := by kernel_rfl
theorem Try.pu22 : Try.prog.underlying 22 = some (.slice 3) := by kernel_rfl
theorem Try.pu23 : Try.prog.underlying 23 = some (.slice 37) := by kernel_rfl
theorem Try.pu27 : Try.prog.underlying 27 = some (.slice 40) := by kernel_rfl
theorem Try.pu30 : Try.prog.underlying 30 = some (.slice 2) := by kernel_rfl
noncomputable def Try.pf35 : Array Field := fieldsOf Try.t34.desc
theorem Try.pu35 : Try.prog.underlying 35 = some (.struct Try.pf35) := by kernel_rfl
noncomputable def Try.pf37 : Array Field := fieldsOf Try.t36.desc
theorem Try.pu37 : Try.prog.underlying 37 = some (.struct Try.pf37) := by kernel_rfl
noncomputable def Try.pf40 : Array Field := fieldsOf Try.t36.desc
theorem Try.pu40 : Try.prog.underlying 40 = some (.struct Try.pf40) := by kernel_rfl
noncomputable def Try.pf44 : Array Field := fieldsOf Try.t43.desc
theorem Try.pu44 : Try.prog.underlying 44 = some (.struct Try.pf44) := by kernel_rfl
theorem Try.pi2 : Try.prog.info? 2 = some Try.t2 := by kernel_rfl
theorem Try.pi3 : Try.prog.info? 3 = some Try.t3 := by kernel_rfl
theorem Try.pi4 : Try.prog.info? 4 = some Try.t4 := by kernel_rfl
theorem Try.pi22 : Try.prog.info? 22 = some Try.t22 := by kernel_rfl
theorem Try.pi23 : Try.prog.info? 23 = some Try.t23 := by kernel_rfl
theorem Try.pi30 : Try.prog.info? 30 = some Try.t30 := by kernel_rfl
theorem Try.pi35 : Try.prog.info? 35 = some Try.t35 := by kernel_rfl
theorem Try.pi37 : Try.prog.info? 37 = some Try.t37 := by kernel_rfl
theorem Try.pi40 : Try.prog.info? 40 = some Try.t40 := by kernel_rfl
theorem Try.pc2 : Try.prog.cellsOf 2 = 1 := by kernel_rfl
theorem Try.pc3 : Try.prog.cellsOf 3 = 1 := by kernel_rfl
theorem Try.pc4 : Try.prog.cellsOf 4 = 1 := by kernel_rfl
theorem Try.pc22 : Try.prog.cellsOf 22 = 1 := by kernel_rfl
theorem Try.pc23 : Try.prog.cellsOf 23 = 1 := by kernel_rfl
theorem Try.pc30 : Try.prog.cellsOf 30 = 1 := by kernel_rfl
theorem Try.pc35 : Try.prog.cellsOf 35 = 3 := by kernel_rfl
theorem Try.pc37 : Try.prog.cellsOf 37 = 3 := by kernel_rfl
theorem Try.pc44 : Try.prog.cellsOf 44 = 2 := by kernel_rfl
theorem Try.pn9 : (Try.f9.name == "runtime.NumGoroutine") = false := by kernel_rfl
theorem Try.pn10 : (Try.f10.name == "runtime.NumGoroutine") = false := by kernel_rfl
theorem Try.pn11 : (Try.f11.name == "runtime.NumGoroutine") = false := by kernel_rfl
theorem Try.pn12 : (Try.f12.name == "runtime.NumGoroutine") = false := by kernel_rfl
theorem Try.pn13 : (Try.f13.name == "runtime.NumGoroutine") = false := by kernel_rfl
theorem Try.pn14 : (Try.f14.name == "runtime.NumGoroutine") = false := by kernel_rfl
theorem Try.pn15 : (Try.f15.name == "runtime.NumGoroutine") = false := by kernel_rfl
theorem Try.pn16 : (Try.f16.name == "runtime.NumGoroutine") = false := by kernel_rfl
theorem Try.pn17 : (Try.f17.name == "runtime.NumGoroutine") = false := by kernel_rfl
theorem Try.pn18 : (Try.f18.name == "runtime.NumGoroutine") = false := by kernel_rfl
theorem Try.pn19 : (Try.f19.name == "runtime.NumGoroutine") = false := by kernel_rfl
theorem Try.pn20 : (Try.f20.name == "runtime.NumGoroutine") = false := by kernel_rfl
theorem Try.pn21 : (Try.f21.name == "runtime.NumGoroutine") = false := by kernel_rfl
theorem Try.pn22 : (Try.f22.name == "runtime.NumGoroutine") = false := by kernel_rfl
theorem Try.pn23 : (Try.f23.name == "runtime.NumGoroutine") = false := by kernel_rfl
theorem Try.pn24 : (Try.f24.name == "runtime.NumGoroutine") = false := by kernel_rfl
theorem Try.pn25 : (Try.f25.name == "runtime.NumGoroutine") = false := by kernel_rfl
theorem Try.pn26 : (Try.f26.name == "runtime.NumGoroutine") = false := by kernel_rfl
theorem Try.pn27 : (Try.f27.name == "runtime.NumGoroutine") = false := by kernel_rfl
theorem Try.pn28 : (Try.f28.name == "runtime.NumGoroutine") = false := by kernel_rfl
theorem Try.pn29 : (Try.f29.name == "runtime.NumGoroutine") = false := by kernel_rfl
theorem Try.pn30 : (Try.f30.name == "runtime.NumGoroutine") = false := by kernel_rfl
theorem Try.pn31 : (Try.f31.name == "runtime.NumGoroutine") = false := by kernel_rfl
theorem Try.pn32 : (Try.f32.name == "runtime.NumGoroutine") = false := by kernel_rfl
structure Gdiff_Leq where
  X : Int
  Y : Int
  C : Int
  deriving Inhabited, DecidableEq
def t_Gdiff_Leq : Ty Gdiff_Leq := (tProd (tInt .i64) (tProd (tInt .i64) (tInt .i64))).comap fun x => (x.X, x.Y, x.C)
instance : Plain t_Gdiff_Leq := by unfold t_Gdiff_Leq; infer_instance
theorem t_Gdiff_Leq_r {σ : FS} {cs : List Value} {x : Gdiff_Leq} : t_Gdiff_Leq.rel σ cs x ↔ cs = [.int .i64 x.X, .int .i64 x.Y, .int .i64 x.C] := by
  constructor
  · intro h; exact (Plain.spec σ cs x).1 h
  · intro h; exact (Plain.spec (T := t_Gdiff_Leq) σ cs x).2 h
theorem t_Gdiff_Leq_v {σ : FS} {v : Value} {x : Gdiff_Leq} : t_Gdiff_Leq.vrel σ v x ↔ v = .agg #[.int .i64 x.X, .int .i64 x.Y, .int .i64 x.C] := by
  rw [vrel_agg rfl]
  constructor
  · rintro ⟨cs, rfl, h⟩; rw [t_Gdiff_Leq_r.1 h]
  · rintro rfl; exact ⟨_, rfl, t_Gdiff_Leq_r.2 rfl⟩
theorem f_Gdiff_Leq_X : FieldAt t_Gdiff_Leq 0 (tInt .i64) (fun x => x.X) := fun σ cs x h => (FieldAt.fst) σ cs (x.X, x.Y, x.C) h
theorem f_Gdiff_Leq_Y : FieldAt t_Gdiff_Leq 1 (tInt .i64) (fun x => x.Y) := fun σ cs x h => ((FieldAt.comp FieldAt.snd FieldAt.fst (by decide))) σ cs (x.X, x.Y, x.C) h
theorem f_Gdiff_Leq_C : FieldAt t_Gdiff_Leq 2 (tInt .i64) (fun x => x.C) := fun σ cs x h => ((FieldAt.comp FieldAt.snd FieldAt.snd (by decide))) σ cs (x.X, x.Y, x.C) h
structure Gcert_Proof where
  Yes : Bool
  Cycle : Sl Int
  Numbers : Sl Int
  deriving Inhabited
def t_Gcert_Proof : Ty Gcert_Proof := (tProd tBool (tProd (tSl (tInt .i64)) (tSl (tInt .i64)))).comap fun x => (x.Yes, x.Cycle, x.Numbers)
theorem t_Gcert_Proof_r {σ : FS} {cs : List Value} {x : Gcert_Proof} : t_Gcert_Proof.rel σ cs x ↔ ∃ v1 v2 : Value, cs = [.bool x.Yes, v1, v2] ∧ (tSl (tInt .i64)).vrel σ v1 x.Cycle ∧ (tSl (tInt .i64)).vrel σ v2 x.Numbers := by
  constructor
  · intro h
    obtain ⟨_, _, rfl, rfl, ⟨_, _, rfl, h0, h1⟩⟩ := h
    obtain ⟨u0, e0, g0⟩ := leaf_open rfl h0; subst e0
    obtain ⟨u1, e1, g1⟩ := leaf_open rfl h1; subst e1
    exact ⟨u0, u1, rfl, g0, g1⟩
  · rintro ⟨v1, v2, rfl, k0, k1⟩
    exact ⟨_, _, rfl, rfl, ⟨_, _, rfl, (leaf_close rfl k0), (leaf_close rfl k1)⟩⟩
theorem t_Gcert_Proof_v {σ : FS} {v : Value} {x : Gcert_Proof} : t_Gcert_Proof.vrel σ v x ↔ ∃ v1 v2 : Value, v = .agg #[.bool x.Yes, v1, v2] ∧ (tSl (tInt .i64)).vrel σ v1 x.Cycle ∧ (tSl (tInt .i64)).vrel σ v2 x.Numbers := by
  rw [vrel_agg rfl]
  constructor
  · rintro ⟨cs, rfl, h⟩; obtain ⟨v1, v2, e1, h1⟩ := t_Gcert_Proof_r.1 h; subst e1; exact ⟨v1, v2, rfl, h1⟩
  · rintro ⟨v1, v2, rfl, h⟩; exact ⟨_, rfl, t_Gcert_Proof_r.2 ⟨v1, v2, rfl, h⟩⟩
theorem f_Gcert_Proof_Yes : FieldAt t_Gcert_Proof 0 tBool (fun x => x.Yes) := fun σ cs x h => (FieldAt.fst) σ cs (x.Yes, x.Cycle, x.Numbers) h
theorem f_Gcert_Proof_Cycle : FieldAt t_Gcert_Proof 1 (tSl (tInt .i64)) (fun x => x.Cycle) := fun σ cs x h => ((FieldAt.comp FieldAt.snd FieldAt.fst (by decide))) σ cs (x.Yes, x.Cycle, x.Numbers) h
theorem f_Gcert_Proof_Numbers : FieldAt t_Gcert_Proof 2 (tSl (tInt .i64)) (fun x => x.Numbers) := fun σ cs x h => ((FieldAt.comp FieldAt.snd FieldAt.snd (by decide))) σ cs (x.Yes, x.Cycle, x.Numbers) h
structure Glychgateref04_Leq where
  X : Int
  Y : Int
  C : Int
  deriving Inhabited, DecidableEq
def t_Glychgateref04_Leq : Ty Glychgateref04_Leq := (tProd (tInt .i64) (tProd (tInt .i64) (tInt .i64))).comap fun x => (x.X, x.Y, x.C)
instance : Plain t_Glychgateref04_Leq := by unfold t_Glychgateref04_Leq; infer_instance
theorem t_Glychgateref04_Leq_r {σ : FS} {cs : List Value} {x : Glychgateref04_Leq} : t_Glychgateref04_Leq.rel σ cs x ↔ cs = [.int .i64 x.X, .int .i64 x.Y, .int .i64 x.C] := by
  constructor
  · intro h; exact (Plain.spec σ cs x).1 h
  · intro h; exact (Plain.spec (T := t_Glychgateref04_Leq) σ cs x).2 h
theorem t_Glychgateref04_Leq_v {σ : FS} {v : Value} {x : Glychgateref04_Leq} : t_Glychgateref04_Leq.vrel σ v x ↔ v = .agg #[.int .i64 x.X, .int .i64 x.Y, .int .i64 x.C] := by
  rw [vrel_agg rfl]
  constructor
  · rintro ⟨cs, rfl, h⟩; rw [t_Glychgateref04_Leq_r.1 h]
  · rintro rfl; exact ⟨_, rfl, t_Glychgateref04_Leq_r.2 rfl⟩
theorem f_Glychgateref04_Leq_X : FieldAt t_Glychgateref04_Leq 0 (tInt .i64) (fun x => x.X) := fun σ cs x h => (FieldAt.fst) σ cs (x.X, x.Y, x.C) h
theorem f_Glychgateref04_Leq_Y : FieldAt t_Glychgateref04_Leq 1 (tInt .i64) (fun x => x.Y) := fun σ cs x h => ((FieldAt.comp FieldAt.snd FieldAt.fst (by decide))) σ cs (x.X, x.Y, x.C) h
theorem f_Glychgateref04_Leq_C : FieldAt t_Glychgateref04_Leq 2 (tInt .i64) (fun x => x.C) := fun σ cs x h => ((FieldAt.comp FieldAt.snd FieldAt.snd (by decide))) σ cs (x.X, x.Y, x.C) h
structure Glychgatelaw05_Both where
  Cycle : Sl Int
  Numbers : Sl Int
  deriving Inhabited
def t_Glychgatelaw05_Both : Ty Glychgatelaw05_Both := (tProd (tSl (tInt .i64)) (tSl (tInt .i64))).comap fun x => (x.Cycle, x.Numbers)
theorem t_Glychgatelaw05_Both_r {σ : FS} {cs : List Value} {x : Glychgatelaw05_Both} : t_Glychgatelaw05_Both.rel σ cs x ↔ ∃ v0 v1 : Value, cs = [v0, v1] ∧ (tSl (tInt .i64)).vrel σ v0 x.Cycle ∧ (tSl (tInt .i64)).vrel σ v1 x.Numbers := by
  constructor
  · intro h
    obtain ⟨_, _, rfl, h0, h1⟩ := h
    obtain ⟨u0, e0, g0⟩ := leaf_open rfl h0; subst e0
    obtain ⟨u1, e1, g1⟩ := leaf_open rfl h1; subst e1
    exact ⟨u0, u1, rfl, g0, g1⟩
  · rintro ⟨v0, v1, rfl, k0, k1⟩
    exact ⟨_, _, rfl, (leaf_close rfl k0), (leaf_close rfl k1)⟩
theorem t_Glychgatelaw05_Both_v {σ : FS} {v : Value} {x : Glychgatelaw05_Both} : t_Glychgatelaw05_Both.vrel σ v x ↔ ∃ v0 v1 : Value, v = .agg #[v0, v1] ∧ (tSl (tInt .i64)).vrel σ v0 x.Cycle ∧ (tSl (tInt .i64)).vrel σ v1 x.Numbers := by
  rw [vrel_agg rfl]
  constructor
  · rintro ⟨cs, rfl, h⟩; obtain ⟨v0, v1, e1, h1⟩ := t_Glychgatelaw05_Both_r.1 h; subst e1; exact ⟨v0, v1, rfl, h1⟩
  · rintro ⟨v0, v1, rfl, h⟩; exact ⟨_, rfl, t_Glychgatelaw05_Both_r.2 ⟨v0, v1, rfl, h⟩⟩
theorem f_Glychgatelaw05_Both_Cycle : FieldAt t_Glychgatelaw05_Both 0 (tSl (tInt .i64)) (fun x => x.Cycle) := fun σ cs x h => (FieldAt.fst) σ cs (x.Cycle, x.Numbers) h
theorem f_Glychgatelaw05_Both_Numbers : FieldAt t_Glychgatelaw05_Both 1 (tSl (tInt .i64)) (fun x => x.Numbers) := fun σ cs x h => (FieldAt.snd) σ cs (x.Cycle, x.Numbers) h
def Fnc_T56 (P : Program) (σ : FS) (v : Value) (f : Gdiff_Leq → Option Bool) : Prop := ∃ (fi : FuncId) (fn : Func) (ca : List Value), v = .func (.func fi) #[] ca.toArray ∧ P.funcs[fi]? = some fn ∧ (fn.name == "runtime.NumGoroutine") = false ∧ fn.body.isNone = false ∧
  ∀ (τ : FS) (w : World), σ.le τ → τ.sub w → ∀ (v0 : Value) (x0 : Gdiff_Leq) (_ : t_Gdiff_Leq.vrel τ v0 x0) (r : Bool), f x0 = some r → Does P fi (v0 :: ca) w τ (fun σ PV v => v = .bool r ∧ PV = [])
def Fnc_T54 (P : Program) (σ : FS) (v : Value) (f : Int → Option Bool) : Prop := ∃ (fi : FuncId) (fn : Func) (ca : List Value), v = .func (.func fi) #[] ca.toArray ∧ P.funcs[fi]? = some fn ∧ (fn.name == "runtime.NumGoroutine") = false ∧ fn.body.isNone = false ∧
  ∀ (τ : FS) (w : World), σ.le τ → τ.sub w → ∀ (x0 : Int) (r : Bool), f x0 = some r → Does P fi (.int .i64 x0 :: ca) w τ (fun σ PV v => v = .bool r ∧ PV = [])
theorem rd_Gdiff_Leq : Rd Try.prog 37 t_Gdiff_Leq (fun x => 1 + 1 + 1 + 1) (fun x => (IntKind.i64.min ≤ x.X ∧ x.X ≤ IntKind.i64.max) ∧ (IntKind.i64.min ≤ x.Y ∧ x.Y ≤ IntKind.i64.max) ∧ (IntKind.i64.min ≤ x.C ∧ x.C ≤ IntKind.i64.max)) where
  open_ := by
    intro H enc m hm W fuel cs x h
    obtain ⟨hl, n, xs, hx, hlen, hf⟩ := struct_open Try.pu37 h
    obtain ⟨y0, hy0, ht0⟩ := hf 0 (Try.pf37.getD 0 default) rfl
    obtain ⟨a0, r0, w0, g0⟩ := (rd_int Try.pu3 Try.pc3).open_ enc m hm W n _ _ ht0
    replace r0 : (tInt .i64).rel (snap W) ((cs.drop 0).take 1) a0 := by rw [show Try.prog.cellsOf (Try.pf37.getD 0 default).type = 1 from Try.pc3] at r0; exact r0
    obtain ⟨y1, hy1, ht1⟩ := hf 1 (Try.pf37.getD 1 default) rfl
    obtain ⟨a1, r1, w1, g1⟩ := (rd_int Try.pu3 Try.pc3).open_ enc m hm W n _ _ ht1
    replace r1 : (tInt .i64).rel (snap W) ((cs.drop 1).take 1) a1 := by rw [show Try.prog.cellsOf (Try.pf37.getD 1 default).type = 1 from Try.pc3] at r1; exact r1
    obtain ⟨y2, hy2, ht2⟩ := hf 2 (Try.pf37.getD 2 default) rfl
    obtain ⟨a2, r2, w2, g2⟩ := (rd_int Try.pu2 Try.pc2).open_ enc m hm W n _ _ ht2
    replace r2 : (tInt .i64).rel (snap W) ((cs.drop 2).take 1) a2 := by rw [show Try.prog.cellsOf (Try.pf37.getD 2 default).type = 1 from Try.pc2] at r2; exact r2
    have hcs : cs = (cs.drop 0).take 3 := by rw [Try.pc37] at hl; rw [List.drop_zero, ← hl, List.take_length]
    refine ⟨⟨a0, a1, a2⟩, ?_, ?_, ⟨g0, g1, g2⟩⟩
    · rw [hcs]; exact (prod_at r0 (prod_at r1 r2 rfl) rfl)
    · have hag := hm.agg (xs.map (·.1))
      rw [← hx] at hag
      match xs, hlen with
      | [z0, z1, z2], _ =>
        simp at hy0 hy1 hy2
        subst hy0; subst hy1; subst hy2
        simp only [List.map_cons, List.map_nil, List.sum_cons, List.sum_nil] at hag
        try simp only at w0 w1 w2
        try simp only
        omega
  shape := shape_struct Try.pu37
  size := Try.pc37
theorem rd_Glychgatelaw05_Both : Rd Try.prog 44 t_Glychgatelaw05_Both (fun x => ((x.Cycle.xs.map (fun y => 1)).sum + 1) + ((x.Numbers.xs.map (fun y => 1)).sum + 1) + 1) (fun x => ((x.Cycle.nn = false → x.Cycle.xs = []) ∧ x.Cycle.xs.length ≤ maxLen ∧ ∀ y ∈ x.Cycle.xs, (IntKind.i64.min ≤ y ∧ y ≤ IntKind.i64.max)) ∧ ((x.Numbers.nn = false → x.Numbers.xs = []) ∧ x.Numbers.xs.length ≤ maxLen ∧ ∀ y ∈ x.Numbers.xs, (IntKind.i64.min ≤ y ∧ y ≤ IntKind.i64.max))) where
  open_ := by
    intro H enc m hm W fuel cs x h
    obtain ⟨hl, n, xs, hx, hlen, hf⟩ := struct_open Try.pu44 h
    obtain ⟨y0, hy0, ht0⟩ := hf 0 (Try.pf44.getD 0 default) rfl
    obtain ⟨a0, r0, w0, g0⟩ := (rd_slice Try.pu22 Try.pc22 (rd_int Try.pu3 Try.pc3)).open_ enc m hm W n _ _ ht0
    replace r0 : (tSl (tInt .i64)).rel (snap W) ((cs.drop 0).take 1) a0 := by rw [show Try.prog.cellsOf (Try.pf44.getD 0 default).type = 1 from Try.pc22] at r0; exact r0
    obtain ⟨y1, hy1, ht1⟩ := hf 1 (Try.pf44.getD 1 default) rfl
    obtain ⟨a1, r1, w1, g1⟩ := (rd_slice Try.pu30 Try.pc30 (rd_int Try.pu2 Try.pc2)).open_ enc m hm W n _ _ ht1
    replace r1 : (tSl (tInt .i64)).rel (snap W) ((cs.drop 1).take 1) a1 := by rw [show Try.prog.cellsOf (Try.pf44.getD 1 default).type = 1 from Try.pc30] at r1; exact r1
    have hcs : cs = (cs.drop 0).take 2 := by rw [Try.pc44] at hl; rw [List.drop_zero, ← hl, List.take_length]
    refine ⟨⟨a0, a1⟩, ?_, ?_, ⟨g0, g1⟩⟩
    · rw [hcs]; exact (prod_at r0 r1 rfl)
    · have hag := hm.agg (xs.map (·.1))
      rw [← hx] at hag
      match xs, hlen with
      | [z0, z1], _ =>
        simp at hy0 hy1
        subst hy0; subst hy1
        simp only [List.map_cons, List.map_nil, List.sum_cons, List.sum_nil] at hag
        try simp only at w0 w1
        try simp only
        omega
  shape := shape_struct Try.pu44
  size := Try.pc44
theorem rd_Gcert_Proof : Rd Try.prog 35 t_Gcert_Proof (fun x => 1 + ((x.Cycle.xs.map (fun y => 1)).sum + 1) + ((x.Numbers.xs.map (fun y => 1)).sum + 1) + 1) (fun x => True ∧ ((x.Cycle.nn = false → x.Cycle.xs = []) ∧ x.Cycle.xs.length ≤ maxLen ∧ ∀ y ∈ x.Cycle.xs, (IntKind.i64.min ≤ y ∧ y ≤ IntKind.i64.max)) ∧ ((x.Numbers.nn = false → x.Numbers.xs = []) ∧ x.Numbers.xs.length ≤ maxLen ∧ ∀ y ∈ x.Numbers.xs, (IntKind.i64.min ≤ y ∧ y ≤ IntKind.i64.max))) where
  open_ := by
    intro H enc m hm W fuel cs x h
    obtain ⟨hl, n, xs, hx, hlen, hf⟩ := struct_open Try.pu35 h
    obtain ⟨y0, hy0, ht0⟩ := hf 0 (Try.pf35.getD 0 default) rfl
    obtain ⟨a0, r0, w0, g0⟩ := (rd_bool Try.pu4 Try.pc4).open_ enc m hm W n _ _ ht0
    replace r0 : tBool.rel (snap W) ((cs.drop 0).take 1) a0 := by rw [show Try.prog.cellsOf (Try.pf35.getD 0 default).type = 1 from Try.pc4] at r0; exact r0
    obtain ⟨y1, hy1, ht1⟩ := hf 1 (Try.pf35.getD 1 default) rfl
    obtain ⟨a1, r1, w1, g1⟩ := (rd_slice Try.pu22 Try.pc22 (rd_int Try.pu3 Try.pc3)).open_ enc m hm W n _ _ ht1
    replace r1 : (tSl (tInt .i64)).rel (snap W) ((cs.drop 1).take 1) a1 := by rw [show Try.prog.cellsOf (Try.pf35.getD 1 default).type = 1 from Try.pc22] at r1; exact r1
    obtain ⟨y2, hy2, ht2⟩ := hf 2 (Try.pf35.getD 2 default) rfl
    obtain ⟨a2, r2, w2, g2⟩ := (rd_slice Try.pu30 Try.pc30 (rd_int Try.pu2 Try.pc2)).open_ enc m hm W n _ _ ht2
    replace r2 : (tSl (tInt .i64)).rel (snap W) ((cs.drop 2).take 1) a2 := by rw [show Try.prog.cellsOf (Try.pf35.getD 2 default).type = 1 from Try.pc30] at r2; exact r2
    have hcs : cs = (cs.drop 0).take 3 := by rw [Try.pc35] at hl; rw [List.drop_zero, ← hl, List.take_length]
    refine ⟨⟨a0, a1, a2⟩, ?_, ?_, ⟨g0, g1, g2⟩⟩
    · rw [hcs]; exact (prod_at r0 (prod_at r1 r2 rfl) rfl)
    · have hag := hm.agg (xs.map (·.1))
      rw [← hx] at hag
      match xs, hlen with
      | [z0, z1, z2], _ =>
        simp at hy0 hy1 hy2
        subst hy0; subst hy1; subst hy2
        simp only [List.map_cons, List.map_nil, List.sum_cons, List.sum_nil] at hag
        try simp only at w0 w1 w2
        try simp only
        omega
  shape := shape_struct Try.pu35
  size := Try.pc35
end Go.Px
