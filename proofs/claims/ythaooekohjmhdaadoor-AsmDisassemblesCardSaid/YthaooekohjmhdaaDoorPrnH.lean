/- The walk of the document's Operands of layer 25 (all codes but the unit's). No condition. -/
import Derived.Test.YthaooekohjmhdaaDoorPrnF
set_option linter.unusedVariables false
set_option linter.unusedSimpArgs false
namespace Go.Proofs.YthaooekohjmhdaaDoor
open Go.RowKit Go.Sort

theorem own_row {B : Nat} (W : World) (L : List ByteArray) (hB : B ≤ W.heap.size) (hL : L.length ≤ 1000) :
    (W.alloc (.cells (L.map Value.string).toArray 9)).ownsRow B 9 1 (.slice (some ⟨W.heap.size, 0, none⟩) L.length L.length) L.length (L.map Value.string) :=
  ⟨by simp, Or.inr ⟨_, _, _, rfl, hB, heap_alloc_new W _, Nat.le_refl _, by unfold maxLen; omega, by simp, by rw [Nat.mul_one]; exact List.take_of_length_le (by simp)⟩⟩

def OpsE (w : World) (L : List ByteArray) (e : Ending) (w' : World) : Prop := ∃ v, e = .returned v ∧ w'.ownsRow w.heap.size 9 1 v L.length (L.map Value.string) ∧ Below w.heap.size w w'

/-- the world behind the instruction's box. -/
structure Bx (w W : World) (box : Array Value) : Prop where
  bel : Below w.heap.size w W
  lt : w.heap.size < W.heap.size
  box : ∀ o, W.cell? ⟨w.heap.size, o, none⟩ = box[o]?
theorem Bx.made (w : World) (box : Array Value) (t : TypeId) : Bx w (w.alloc (.cells box t)) box :=
  ⟨(Below.refl _ _).alloc (Nat.le_refl _) _, by simp, box_of (heap_alloc_new w _)⟩

set_option maxHeartbeats 2000000 in
theorem ref_Operands_2 (f d a b e m : Int) (hd : 0 ≤ d ∧ d ≤ 31) (ha : 0 ≤ a ∧ a ≤ 31) (hm : -2147483648 ≤ m ∧ m ≤ 2147483647) (w : World) :
    Calls Tryd.prog 24 #[.agg (Ins.mk 2 f d a b e m).cellsR] w (OpsE w [regN d, regN a, num m]) := by
  have cd : ∀ W dz os, Calls Tryd.prog 39 #[.int .i64 d] (grow (redrawn W dz) os) fun e1 w'' => e1 = .returned (.string (regN d)) ∧ ∃ p : Regrown, w'' = grow (redrawn W p.d) p.os := fun W dz os => Calls.regrown_of (ref_reg d hd.1 hd.2 _)
  have ca : ∀ W dz os, Calls Tryd.prog 39 #[.int .i64 a] (grow (redrawn W dz) os) fun e1 w'' => e1 = .returned (.string (regN a)) ∧ ∃ p : Regrown, w'' = grow (redrawn W p.d) p.os := fun W dz os => Calls.regrown_of (ref_reg a ha.1 ha.2 _)
  have cm : ∀ W dz os, Calls Tryd.prog 40 #[.int .i64 m] (grow (redrawn W dz) os) fun e1 w'' => e1 = .returned (.string (num m)) ∧ ∃ p : Regrown, w'' = grow (redrawn W p.d) p.os := fun W dz os => Calls.regrown_of (ref_Number m (by omega) (by omega) _)
  clear hm
  generalize hL : ([regN d, regN a, num m] : List ByteArray) = L
  generalize regN d = yd at *
  generalize regN a = ya at *
  generalize num m = ym at *
  have HL := Lib.hid hL
  clear hL
  have hbx := Bx.made w #[.int .i64 2, .int .i64 f, .int .i64 d, .int .i64 a, .int .i64 b, .int .i64 e, .int .i64 m] 33
  unfold Ins.cellsR
  go_enter Tryd.func24, Tryd.ntmps24
  go_upto_region 13 with fail
  generalize w.alloc (.cells #[.int .i64 2, .int .i64 f, .int .i64 d, .int .i64 a, .int .i64 b, .int .i64 e, .int .i64 m] 33) = W at *
  have kd : W.cell? ⟨w.heap.size, 2, none⟩ = some (.int .i64 d) := hbx.box 2
  have qd := cell_regrown kd
  have ka : W.cell? ⟨w.heap.size, 3, none⟩ = some (.int .i64 a) := hbx.box 3
  have qa := cell_regrown ka
  have km : W.cell? ⟨w.heap.size, 6, none⟩ = some (.int .i64 m) := hbx.box 6
  have qm := cell_regrown km
  have HB := Lib.hid hbx
  clear hbx kd ka km
  refine wp_region_below_tail 9 (by kernel_rfl) (by kernel_rfl) ?_
  simp only [List.take_succ_cons, List.take_zero, List.drop_succ_cons, List.drop_zero]
  repeat (quiet_step (first | exact cd _ _ _ | exact ca _ _ _ | exact cm _ _ _))
  refine wpQuiet_nil ?_
  rintro _ ⟨⟨dq, osq⟩, rfl⟩
  have hb2 := below_regrown W dq osq
  generalize grow (redrawn W dq) osq = W2 at *
  have HB2 := Lib.hid hb2
  clear hb2 qd cd qa ca qm cm
  go_wp2
  go_ret
  refine ⟨_, rfl, ?_, (HB.out.bel.trans (HB2.out.mono HB.out.bel.size)).alloc (Nat.le_trans HB.out.bel.size HB2.out.size) _⟩
  rw [← HL.out]
  exact own_row W2 [yd, ya, ym] (Nat.le_trans HB.out.bel.size HB2.out.size) (by simp)

set_option maxHeartbeats 2000000 in
theorem ref_Operands_5 (f d a b e m : Int) (hd : 0 ≤ d ∧ d ≤ 31) (ha : 0 ≤ a ∧ a ≤ 31) (hm : -2147483648 ≤ m ∧ m ≤ 2147483647) (w : World) :
    Calls Tryd.prog 24 #[.agg (Ins.mk 5 f d a b e m).cellsR] w (OpsE w [regN d, regN a, num m]) := by
  have cd : ∀ W dz os, Calls Tryd.prog 39 #[.int .i64 d] (grow (redrawn W dz) os) fun e1 w'' => e1 = .returned (.string (regN d)) ∧ ∃ p : Regrown, w'' = grow (redrawn W p.d) p.os := fun W dz os => Calls.regrown_of (ref_reg d hd.1 hd.2 _)
  have ca : ∀ W dz os, Calls Tryd.prog 39 #[.int .i64 a] (grow (redrawn W dz) os) fun e1 w'' => e1 = .returned (.string (regN a)) ∧ ∃ p : Regrown, w'' = grow (redrawn W p.d) p.os := fun W dz os => Calls.regrown_of (ref_reg a ha.1 ha.2 _)
  have cm : ∀ W dz os, Calls Tryd.prog 40 #[.int .i64 m] (grow (redrawn W dz) os) fun e1 w'' => e1 = .returned (.string (num m)) ∧ ∃ p : Regrown, w'' = grow (redrawn W p.d) p.os := fun W dz os => Calls.regrown_of (ref_Number m (by omega) (by omega) _)
  clear hm
  generalize hL : ([regN d, regN a, num m] : List ByteArray) = L
  generalize regN d = yd at *
  generalize regN a = ya at *
  generalize num m = ym at *
  have HL := Lib.hid hL
  clear hL
  have hbx := Bx.made w #[.int .i64 5, .int .i64 f, .int .i64 d, .int .i64 a, .int .i64 b, .int .i64 e, .int .i64 m] 33
  unfold Ins.cellsR
  go_enter Tryd.func24, Tryd.ntmps24
  go_upto_region 13 with fail
  generalize w.alloc (.cells #[.int .i64 5, .int .i64 f, .int .i64 d, .int .i64 a, .int .i64 b, .int .i64 e, .int .i64 m] 33) = W at *
  have kd : W.cell? ⟨w.heap.size, 2, none⟩ = some (.int .i64 d) := hbx.box 2
  have qd := cell_regrown kd
  have ka : W.cell? ⟨w.heap.size, 3, none⟩ = some (.int .i64 a) := hbx.box 3
  have qa := cell_regrown ka
  have km : W.cell? ⟨w.heap.size, 6, none⟩ = some (.int .i64 m) := hbx.box 6
  have qm := cell_regrown km
  have HB := Lib.hid hbx
  clear hbx kd ka km
  refine wp_region_below_tail 9 (by kernel_rfl) (by kernel_rfl) ?_
  simp only [List.take_succ_cons, List.take_zero, List.drop_succ_cons, List.drop_zero]
  repeat (quiet_step (first | exact cd _ _ _ | exact ca _ _ _ | exact cm _ _ _))
  refine wpQuiet_nil ?_
  rintro _ ⟨⟨dq, osq⟩, rfl⟩
  have hb2 := below_regrown W dq osq
  generalize grow (redrawn W dq) osq = W2 at *
  have HB2 := Lib.hid hb2
  clear hb2 qd cd qa ca qm cm
  go_wp2
  go_ret
  refine ⟨_, rfl, ?_, (HB.out.bel.trans (HB2.out.mono HB.out.bel.size)).alloc (Nat.le_trans HB.out.bel.size HB2.out.size) _⟩
  rw [← HL.out]
  exact own_row W2 [yd, ya, ym] (Nat.le_trans HB.out.bel.size HB2.out.size) (by simp)

set_option maxHeartbeats 2000000 in
theorem ref_Operands_7 (f d a b e m : Int) (hd : 0 ≤ d ∧ d ≤ 31) (ha : 0 ≤ a ∧ a ≤ 31) (hm : -2147483648 ≤ m ∧ m ≤ 2147483647) (w : World) :
    Calls Tryd.prog 24 #[.agg (Ins.mk 7 f d a b e m).cellsR] w (OpsE w [regN d, regN a, num m]) := by
  have cd : ∀ W dz os, Calls Tryd.prog 39 #[.int .i64 d] (grow (redrawn W dz) os) fun e1 w'' => e1 = .returned (.string (regN d)) ∧ ∃ p : Regrown, w'' = grow (redrawn W p.d) p.os := fun W dz os => Calls.regrown_of (ref_reg d hd.1 hd.2 _)
  have ca : ∀ W dz os, Calls Tryd.prog 39 #[.int .i64 a] (grow (redrawn W dz) os) fun e1 w'' => e1 = .returned (.string (regN a)) ∧ ∃ p : Regrown, w'' = grow (redrawn W p.d) p.os := fun W dz os => Calls.regrown_of (ref_reg a ha.1 ha.2 _)
  have cm : ∀ W dz os, Calls Tryd.prog 40 #[.int .i64 m] (grow (redrawn W dz) os) fun e1 w'' => e1 = .returned (.string (num m)) ∧ ∃ p : Regrown, w'' = grow (redrawn W p.d) p.os := fun W dz os => Calls.regrown_of (ref_Number m (by omega) (by omega) _)
  clear hm
  generalize hL : ([regN d, regN a, num m] : List ByteArray) = L
  generalize regN d = yd at *
  generalize regN a = ya at *
  generalize num m = ym at *
  have HL := Lib.hid hL
  clear hL
  have hbx := Bx.made w #[.int .i64 7, .int .i64 f, .int .i64 d, .int .i64 a, .int .i64 b, .int .i64 e, .int .i64 m] 33
  unfold Ins.cellsR
  go_enter Tryd.func24, Tryd.ntmps24
  go_upto_region 13 with fail
  generalize w.alloc (.cells #[.int .i64 7, .int .i64 f, .int .i64 d, .int .i64 a, .int .i64 b, .int .i64 e, .int .i64 m] 33) = W at *
  have kd : W.cell? ⟨w.heap.size, 2, none⟩ = some (.int .i64 d) := hbx.box 2
  have qd := cell_regrown kd
  have ka : W.cell? ⟨w.heap.size, 3, none⟩ = some (.int .i64 a) := hbx.box 3
  have qa := cell_regrown ka
  have km : W.cell? ⟨w.heap.size, 6, none⟩ = some (.int .i64 m) := hbx.box 6
  have qm := cell_regrown km
  have HB := Lib.hid hbx
  clear hbx kd ka km
  refine wp_region_below_tail 9 (by kernel_rfl) (by kernel_rfl) ?_
  simp only [List.take_succ_cons, List.take_zero, List.drop_succ_cons, List.drop_zero]
  repeat (quiet_step (first | exact cd _ _ _ | exact ca _ _ _ | exact cm _ _ _))
  refine wpQuiet_nil ?_
  rintro _ ⟨⟨dq, osq⟩, rfl⟩
  have hb2 := below_regrown W dq osq
  generalize grow (redrawn W dq) osq = W2 at *
  have HB2 := Lib.hid hb2
  clear hb2 qd cd qa ca qm cm
  go_wp2
  go_ret
  refine ⟨_, rfl, ?_, (HB.out.bel.trans (HB2.out.mono HB.out.bel.size)).alloc (Nat.le_trans HB.out.bel.size HB2.out.size) _⟩
  rw [← HL.out]
  exact own_row W2 [yd, ya, ym] (Nat.le_trans HB.out.bel.size HB2.out.size) (by simp)

set_option maxHeartbeats 2000000 in
theorem ref_Operands_3 (f d a b e m : Int) (hb : 0 ≤ b ∧ b ≤ 31) (ha : 0 ≤ a ∧ a ≤ 31) (hm : -2147483648 ≤ m ∧ m ≤ 2147483647) (w : World) :
    Calls Tryd.prog 24 #[.agg (Ins.mk 3 f d a b e m).cellsR] w (OpsE w [regN b, regN a, num m]) := by
  have cb : ∀ W dz os, Calls Tryd.prog 39 #[.int .i64 b] (grow (redrawn W dz) os) fun e1 w'' => e1 = .returned (.string (regN b)) ∧ ∃ p : Regrown, w'' = grow (redrawn W p.d) p.os := fun W dz os => Calls.regrown_of (ref_reg b hb.1 hb.2 _)
  have ca : ∀ W dz os, Calls Tryd.prog 39 #[.int .i64 a] (grow (redrawn W dz) os) fun e1 w'' => e1 = .returned (.string (regN a)) ∧ ∃ p : Regrown, w'' = grow (redrawn W p.d) p.os := fun W dz os => Calls.regrown_of (ref_reg a ha.1 ha.2 _)
  have cm : ∀ W dz os, Calls Tryd.prog 40 #[.int .i64 m] (grow (redrawn W dz) os) fun e1 w'' => e1 = .returned (.string (num m)) ∧ ∃ p : Regrown, w'' = grow (redrawn W p.d) p.os := fun W dz os => Calls.regrown_of (ref_Number m (by omega) (by omega) _)
  clear hm
  generalize hL : ([regN b, regN a, num m] : List ByteArray) = L
  generalize regN b = yb at *
  generalize regN a = ya at *
  generalize num m = ym at *
  have HL := Lib.hid hL
  clear hL
  have hbx := Bx.made w #[.int .i64 3, .int .i64 f, .int .i64 d, .int .i64 a, .int .i64 b, .int .i64 e, .int .i64 m] 33
  unfold Ins.cellsR
  go_enter Tryd.func24, Tryd.ntmps24
  go_upto_region 15 with fail
  generalize w.alloc (.cells #[.int .i64 3, .int .i64 f, .int .i64 d, .int .i64 a, .int .i64 b, .int .i64 e, .int .i64 m] 33) = W at *
  have kb : W.cell? ⟨w.heap.size, 4, none⟩ = some (.int .i64 b) := hbx.box 4
  have qb := cell_regrown kb
  have ka : W.cell? ⟨w.heap.size, 3, none⟩ = some (.int .i64 a) := hbx.box 3
  have qa := cell_regrown ka
  have km : W.cell? ⟨w.heap.size, 6, none⟩ = some (.int .i64 m) := hbx.box 6
  have qm := cell_regrown km
  have HB := Lib.hid hbx
  clear hbx kb ka km
  refine wp_region_below_tail 9 (by kernel_rfl) (by kernel_rfl) ?_
  simp only [List.take_succ_cons, List.take_zero, List.drop_succ_cons, List.drop_zero]
  repeat (quiet_step (first | exact cb _ _ _ | exact ca _ _ _ | exact cm _ _ _))
  refine wpQuiet_nil ?_
  rintro _ ⟨⟨dq, osq⟩, rfl⟩
  have hb2 := below_regrown W dq osq
  generalize grow (redrawn W dq) osq = W2 at *
  have HB2 := Lib.hid hb2
  clear hb2 qb cb qa ca qm cm
  go_wp2
  go_ret
  refine ⟨_, rfl, ?_, (HB.out.bel.trans (HB2.out.mono HB.out.bel.size)).alloc (Nat.le_trans HB.out.bel.size HB2.out.size) _⟩
  rw [← HL.out]
  exact own_row W2 [yb, ya, ym] (Nat.le_trans HB.out.bel.size HB2.out.size) (by simp)

set_option maxHeartbeats 2000000 in
theorem ref_Operands_4 (f d a b e m : Int) (hd : 0 ≤ d ∧ d ≤ 31) (hm : -2147483648 ≤ m ∧ m ≤ 2147483647) (w : World) :
    Calls Tryd.prog 24 #[.agg (Ins.mk 4 f d a b e m).cellsR] w (OpsE w [regN d, num m]) := by
  have cd : ∀ W dz os, Calls Tryd.prog 39 #[.int .i64 d] (grow (redrawn W dz) os) fun e1 w'' => e1 = .returned (.string (regN d)) ∧ ∃ p : Regrown, w'' = grow (redrawn W p.d) p.os := fun W dz os => Calls.regrown_of (ref_reg d hd.1 hd.2 _)
  have cm : ∀ W dz os, Calls Tryd.prog 40 #[.int .i64 m] (grow (redrawn W dz) os) fun e1 w'' => e1 = .returned (.string (num m)) ∧ ∃ p : Regrown, w'' = grow (redrawn W p.d) p.os := fun W dz os => Calls.regrown_of (ref_Number m (by omega) (by omega) _)
  clear hm
  generalize hL : ([regN d, num m] : List ByteArray) = L
  generalize regN d = yd at *
  generalize num m = ym at *
  have HL := Lib.hid hL
  clear hL
  have hbx := Bx.made w #[.int .i64 4, .int .i64 f, .int .i64 d, .int .i64 a, .int .i64 b, .int .i64 e, .int .i64 m] 33
  unfold Ins.cellsR
  go_enter Tryd.func24, Tryd.ntmps24
  go_upto_region 17 with fail
  generalize w.alloc (.cells #[.int .i64 4, .int .i64 f, .int .i64 d, .int .i64 a, .int .i64 b, .int .i64 e, .int .i64 m] 33) = W at *
  have kd : W.cell? ⟨w.heap.size, 2, none⟩ = some (.int .i64 d) := hbx.box 2
  have qd := cell_regrown kd
  have km : W.cell? ⟨w.heap.size, 6, none⟩ = some (.int .i64 m) := hbx.box 6
  have qm := cell_regrown km
  have HB := Lib.hid hbx
  clear hbx kd km
  refine wp_region_below_tail 6 (by kernel_rfl) (by kernel_rfl) ?_
  simp only [List.take_succ_cons, List.take_zero, List.drop_succ_cons, List.drop_zero]
  repeat (quiet_step (first | exact cd _ _ _ | exact cm _ _ _))
  refine wpQuiet_nil ?_
  rintro _ ⟨⟨dq, osq⟩, rfl⟩
  have hb2 := below_regrown W dq osq
  generalize grow (redrawn W dq) osq = W2 at *
  have HB2 := Lib.hid hb2
  clear hb2 qd cd qm cm
  go_wp2
  go_ret
  refine ⟨_, rfl, ?_, (HB.out.bel.trans (HB2.out.mono HB.out.bel.size)).alloc (Nat.le_trans HB.out.bel.size HB2.out.size) _⟩
  rw [← HL.out]
  exact own_row W2 [yd, ym] (Nat.le_trans HB.out.bel.size HB2.out.size) (by simp)

set_option maxHeartbeats 2000000 in
theorem ref_Operands_6 (f d a b e m : Int) (hd : 0 ≤ d ∧ d ≤ 31) (ha : 0 ≤ a ∧ a ≤ 31) (hm : -2147483648 ≤ m ∧ m ≤ 2147483647) (w : World) :
    Calls Tryd.prog 24 #[.agg (Ins.mk 6 f d a b e m).cellsR] w (OpsE w [regN d, regN a]) := by
  have cd : ∀ W dz os, Calls Tryd.prog 39 #[.int .i64 d] (grow (redrawn W dz) os) fun e1 w'' => e1 = .returned (.string (regN d)) ∧ ∃ p : Regrown, w'' = grow (redrawn W p.d) p.os := fun W dz os => Calls.regrown_of (ref_reg d hd.1 hd.2 _)
  have ca : ∀ W dz os, Calls Tryd.prog 39 #[.int .i64 a] (grow (redrawn W dz) os) fun e1 w'' => e1 = .returned (.string (regN a)) ∧ ∃ p : Regrown, w'' = grow (redrawn W p.d) p.os := fun W dz os => Calls.regrown_of (ref_reg a ha.1 ha.2 _)
  clear hm
  generalize hL : ([regN d, regN a] : List ByteArray) = L
  generalize regN d = yd at *
  generalize regN a = ya at *
  have HL := Lib.hid hL
  clear hL
  have hbx := Bx.made w #[.int .i64 6, .int .i64 f, .int .i64 d, .int .i64 a, .int .i64 b, .int .i64 e, .int .i64 m] 33
  unfold Ins.cellsR
  go_enter Tryd.func24, Tryd.ntmps24
  go_upto_region 19 with fail
  generalize w.alloc (.cells #[.int .i64 6, .int .i64 f, .int .i64 d, .int .i64 a, .int .i64 b, .int .i64 e, .int .i64 m] 33) = W at *
  have kd : W.cell? ⟨w.heap.size, 2, none⟩ = some (.int .i64 d) := hbx.box 2
  have qd := cell_regrown kd
  have ka : W.cell? ⟨w.heap.size, 3, none⟩ = some (.int .i64 a) := hbx.box 3
  have qa := cell_regrown ka
  have HB := Lib.hid hbx
  clear hbx kd ka
  refine wp_region_below_tail 6 (by kernel_rfl) (by kernel_rfl) ?_
  simp only [List.take_succ_cons, List.take_zero, List.drop_succ_cons, List.drop_zero]
  repeat (quiet_step (first | exact cd _ _ _ | exact ca _ _ _))
  refine wpQuiet_nil ?_
  rintro _ ⟨⟨dq, osq⟩, rfl⟩
  have hb2 := below_regrown W dq osq
  generalize grow (redrawn W dq) osq = W2 at *
  have HB2 := Lib.hid hb2
  clear hb2 qd cd qa ca
  go_wp2
  go_ret
  refine ⟨_, rfl, ?_, (HB.out.bel.trans (HB2.out.mono HB.out.bel.size)).alloc (Nat.le_trans HB.out.bel.size HB2.out.size) _⟩
  rw [← HL.out]
  exact own_row W2 [yd, ya] (Nat.le_trans HB.out.bel.size HB2.out.size) (by simp)

set_option maxHeartbeats 2000000 in
theorem ref_Operands_9 (f d a b e m : Int) (ha : 0 ≤ a ∧ a ≤ 31) (hm : -2147483648 ≤ m ∧ m ≤ 2147483647) (w : World) :
    Calls Tryd.prog 24 #[.agg (Ins.mk 9 f d a b e m).cellsR] w (OpsE w [regN a, num m]) := by
  have ca : ∀ W dz os, Calls Tryd.prog 39 #[.int .i64 a] (grow (redrawn W dz) os) fun e1 w'' => e1 = .returned (.string (regN a)) ∧ ∃ p : Regrown, w'' = grow (redrawn W p.d) p.os := fun W dz os => Calls.regrown_of (ref_reg a ha.1 ha.2 _)
  have cm : ∀ W dz os, Calls Tryd.prog 40 #[.int .i64 m] (grow (redrawn W dz) os) fun e1 w'' => e1 = .returned (.string (num m)) ∧ ∃ p : Regrown, w'' = grow (redrawn W p.d) p.os := fun W dz os => Calls.regrown_of (ref_Number m (by omega) (by omega) _)
  clear hm
  generalize hL : ([regN a, num m] : List ByteArray) = L
  generalize regN a = ya at *
  generalize num m = ym at *
  have HL := Lib.hid hL
  clear hL
  have hbx := Bx.made w #[.int .i64 9, .int .i64 f, .int .i64 d, .int .i64 a, .int .i64 b, .int .i64 e, .int .i64 m] 33
  unfold Ins.cellsR
  go_enter Tryd.func24, Tryd.ntmps24
  go_upto_region 24 with fail
  generalize w.alloc (.cells #[.int .i64 9, .int .i64 f, .int .i64 d, .int .i64 a, .int .i64 b, .int .i64 e, .int .i64 m] 33) = W at *
  have ka : W.cell? ⟨w.heap.size, 3, none⟩ = some (.int .i64 a) := hbx.box 3
  have qa := cell_regrown ka
  have km : W.cell? ⟨w.heap.size, 6, none⟩ = some (.int .i64 m) := hbx.box 6
  have qm := cell_regrown km
  have HB := Lib.hid hbx
  clear hbx ka km
  refine wp_region_below_tail 6 (by kernel_rfl) (by kernel_rfl) ?_
  simp only [List.take_succ_cons, List.take_zero, List.drop_succ_cons, List.drop_zero]
  repeat (quiet_step (first | exact ca _ _ _ | exact cm _ _ _))
  refine wpQuiet_nil ?_
  rintro _ ⟨⟨dq, osq⟩, rfl⟩
  have hb2 := below_regrown W dq osq
  generalize grow (redrawn W dq) osq = W2 at *
  have HB2 := Lib.hid hb2
  clear hb2 qa ca qm cm
  go_wp2
  go_ret
  refine ⟨_, rfl, ?_, (HB.out.bel.trans (HB2.out.mono HB.out.bel.size)).alloc (Nat.le_trans HB.out.bel.size HB2.out.size) _⟩
  rw [← HL.out]
  exact own_row W2 [ya, ym] (Nat.le_trans HB.out.bel.size HB2.out.size) (by simp)

set_option maxHeartbeats 2000000 in
theorem ref_Operands_12 (f d a b e m : Int) (hd : 0 ≤ d ∧ d ≤ 31) (he : 0 ≤ e ∧ e ≤ 31) (hm : -2147483648 ≤ m ∧ m ≤ 2147483647) (w : World) :
    Calls Tryd.prog 24 #[.agg (Ins.mk 12 f d a b e m).cellsR] w (OpsE w [regN d, setN e]) := by
  have cd : ∀ W dz os, Calls Tryd.prog 39 #[.int .i64 d] (grow (redrawn W dz) os) fun e1 w'' => e1 = .returned (.string (regN d)) ∧ ∃ p : Regrown, w'' = grow (redrawn W p.d) p.os := fun W dz os => Calls.regrown_of (ref_reg d hd.1 hd.2 _)
  have ce : ∀ W dz os, Calls Tryd.prog 42 #[.int .i64 e] (grow (redrawn W dz) os) fun e1 w'' => e1 = .returned (.string (setN e)) ∧ ∃ p : Regrown, w'' = grow (redrawn W p.d) p.os := fun W dz os => Calls.regrown_of (ref_SetName e he.1 (by omega) _)
  clear hm
  generalize hL : ([regN d, setN e] : List ByteArray) = L
  generalize regN d = yd at *
  generalize setN e = ye at *
  have HL := Lib.hid hL
  clear hL
  have hbx := Bx.made w #[.int .i64 12, .int .i64 f, .int .i64 d, .int .i64 a, .int .i64 b, .int .i64 e, .int .i64 m] 33
  unfold Ins.cellsR
  go_enter Tryd.func24, Tryd.ntmps24
  go_upto_region 30 with fail
  generalize w.alloc (.cells #[.int .i64 12, .int .i64 f, .int .i64 d, .int .i64 a, .int .i64 b, .int .i64 e, .int .i64 m] 33) = W at *
  have kd : W.cell? ⟨w.heap.size, 2, none⟩ = some (.int .i64 d) := hbx.box 2
  have qd := cell_regrown kd
  have ke : W.cell? ⟨w.heap.size, 5, none⟩ = some (.int .i64 e) := hbx.box 5
  have qe := cell_regrown ke
  have HB := Lib.hid hbx
  clear hbx kd ke
  refine wp_region_below_tail 6 (by kernel_rfl) (by kernel_rfl) ?_
  simp only [List.take_succ_cons, List.take_zero, List.drop_succ_cons, List.drop_zero]
  repeat (quiet_step (first | exact cd _ _ _ | exact ce _ _ _))
  refine wpQuiet_nil ?_
  rintro _ ⟨⟨dq, osq⟩, rfl⟩
  have hb2 := below_regrown W dq osq
  generalize grow (redrawn W dq) osq = W2 at *
  have HB2 := Lib.hid hb2
  clear hb2 qd cd qe ce
  go_wp2
  go_ret
  refine ⟨_, rfl, ?_, (HB.out.bel.trans (HB2.out.mono HB.out.bel.size)).alloc (Nat.le_trans HB.out.bel.size HB2.out.size) _⟩
  rw [← HL.out]
  exact own_row W2 [yd, ye] (Nat.le_trans HB.out.bel.size HB2.out.size) (by simp)

set_option maxHeartbeats 2000000 in
theorem ref_Operands_8 (f d a b e m : Int) (hm : -2147483648 ≤ m ∧ m ≤ 2147483647) (w : World) :
    Calls Tryd.prog 24 #[.agg (Ins.mk 8 f d a b e m).cellsR] w (OpsE w [num m]) := by
  have hn := ref_Number m (by omega) (by omega)
  clear hm
  generalize num m = y at *
  unfold Ins.cellsR
  go_enter Tryd.func24, Tryd.ntmps24
  go_wp2_with (go_at_call 40; refine (hn _).mono ?_; rintro e1 w1 ⟨rfl, hb1⟩)
  go_ret
  have hB : Below w.heap.size w w1 := ((Below.refl _ _).alloc (Nat.le_refl _) _).trans (hb1.mono (by simp))
  exact ⟨_, rfl, own_row w1 [y] hB.size (by simp), hB.alloc hB.size _⟩

set_option maxHeartbeats 2000000 in
theorem ref_Operands_13 (f d a b e m : Int) (hm : -2147483648 ≤ m ∧ m ≤ 2147483647) (w : World) :
    Calls Tryd.prog 24 #[.agg (Ins.mk 13 f d a b e m).cellsR] w (OpsE w [num m]) := by
  have hn := ref_Number m (by omega) (by omega)
  clear hm
  generalize num m = y at *
  unfold Ins.cellsR
  go_enter Tryd.func24, Tryd.ntmps24
  go_wp2_with (go_at_call 40; refine (hn _).mono ?_; rintro e1 w1 ⟨rfl, hb1⟩)
  go_ret
  have hB : Below w.heap.size w w1 := ((Below.refl _ _).alloc (Nat.le_refl _) _).trans (hb1.mono (by simp))
  exact ⟨_, rfl, own_row w1 [y] hB.size (by simp), hB.alloc hB.size _⟩

set_option maxHeartbeats 2000000 in
theorem ref_Operands_11 (f d a b e m : Int) (he : 0 ≤ e ∧ e ≤ 31) (w : World) :
    Calls Tryd.prog 24 #[.agg (Ins.mk 11 f d a b e m).cellsR] w (OpsE w [setN e]) := by
  have hn := ref_SetName e he.1 (by omega)
  clear he
  generalize setN e = y at *
  unfold Ins.cellsR
  go_enter Tryd.func24, Tryd.ntmps24
  go_wp2_with (go_at_call 42; refine (hn _).mono ?_; rintro e1 w1 ⟨rfl, hb1⟩)
  go_ret
  have hB : Below w.heap.size w w1 := ((Below.refl _ _).alloc (Nat.le_refl _) _).trans (hb1.mono (by simp))
  exact ⟨_, rfl, own_row w1 [y] hB.size (by simp), hB.alloc hB.size _⟩

set_option maxHeartbeats 2000000 in
theorem ref_Operands_10 (f d a b e m : Int) (he0 : 0 ≤ e) (he6 : e < 6) (w : World) :
    Calls Tryd.prog 24 #[.agg (Ins.mk 10 f d a b e m).cellsR] w (OpsE w [nth modeN e]) := by
  have hp := pick_row 41 modeN 6 rfl ref_modes e he0 (by omega)
  generalize nth modeN e = y at *
  have hbx := Bx.made w #[.int .i64 10, .int .i64 f, .int .i64 d, .int .i64 a, .int .i64 b, .int .i64 e, .int .i64 m] 33
  unfold Ins.cellsR
  go_enter Tryd.func24, Tryd.ntmps24
  go_upto_region 26 with fail
  generalize w.alloc (.cells #[.int .i64 10, .int .i64 f, .int .i64 d, .int .i64 a, .int .i64 b, .int .i64 e, .int .i64 m] 33) = W at *
  have ke : W.cell? ⟨w.heap.size, 5, none⟩ = some (.int .i64 e) := hbx.box 5
  have hlt := hbx.lt
  have HB := Lib.hid hbx
  clear hbx
  go_region_with (first
      | (go_at_call 41; refine (hp _).mono ?_; rintro e' w3 ⟨rfl, hb3, hs3, hk3⟩; obtain ⟨hc3, hf3⟩ := bcell hb3; have HBW := Lib.hid (show Below w.heap.size w w3 from HB.out.bel.trans (((Below.drew (Below.refl _ _)).trans hb3).mono (Nat.le_of_lt hlt))); simp at hk3; have q1 : w3.cell? ⟨w.heap.size, 5, none⟩ = some (.int .i64 e) := (hc3 _ _ hlt).trans ke; clear hc3 hf3 hb3))
  all_goals
    go_wp2_with fail
    go_ret
    exact ⟨_, rfl, own_row w3 [y] HBW.out.size (by simp), HBW.out.alloc HBW.out.size _⟩

set_option maxHeartbeats 2000000 in
theorem ref_Operands_0 (f d a b e m : Int) (w : World) :
    Calls Tryd.prog 24 #[.agg (Ins.mk 0 f d a b e m).cellsR] w (OpsE w []) := by
  unfold Ins.cellsR
  go_enter Tryd.func24, Tryd.ntmps24
  go_wp2
  go_ret
  exact ⟨_, rfl, World.ownsRow_nil _ _ _ _, (Below.refl _ _).alloc (Nat.le_refl _) _⟩

set_option maxHeartbeats 2000000 in
theorem ref_Operands_14 (f d a b e m : Int) (w : World) :
    Calls Tryd.prog 24 #[.agg (Ins.mk 14 f d a b e m).cellsR] w (OpsE w []) := by
  unfold Ins.cellsR
  go_enter Tryd.func24, Tryd.ntmps24
  go_wp2
  go_ret
  exact ⟨_, rfl, World.ownsRow_nil _ _ _ _, (Below.refl _ _).alloc (Nat.le_refl _) _⟩

end Go.Proofs.YthaooekohjmhdaaDoor
