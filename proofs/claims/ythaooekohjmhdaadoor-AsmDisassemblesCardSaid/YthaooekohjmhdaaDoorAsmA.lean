/- Walks of layer 25's small functions: what they return. No condition. -/
import Derived.Test.YthaooekohjmhdaaDoorAsmS
import Derived.Test.YthaooekohjmhdaaDoorKit
set_option linter.unusedVariables false
set_option linter.unusedSimpArgs false
namespace Go.Proofs.YthaooekohjmhdaaDoor
open Go.RowKit

set_option maxHeartbeats 400000 in
theorem asm_within (x lo hi : Int) (w : World) :
    Calls Tryd.prog 45 #[.int .i64 x, .int .i64 lo, .int .i64 hi] w fun e w' => e = .returned (.bool (decide (lo ≤ x) && decide (x ≤ hi))) ∧ w = w' := by
  go_enter Tryd.func45, Tryd.ntmps45
  go_wp2
  all_goals
    go_ret
    exact ⟨by simp [*] <;> omega, rfl⟩

set_option maxHeartbeats 400000 in
theorem asm_unitShape (op : Int) (w : World) :
    Calls Tryd.prog 31 #[.int .i64 op] w fun e w' => e = .returned (.tuple #[.string ⟨(uShape op).1.toArray⟩, .bool (uShape op).2]) ∧ w = w' := by
  go_enter Tryd.func31, Tryd.ntmps31
  go_wp2
  all_goals
    go_ret2
    exact ⟨by simp_all [uShape], rfl⟩

set_option maxHeartbeats 800000 in
theorem asm_shape1 (f d a b e m : Int) (h1 : -2147483648 ≤ m) (h2 : m ≤ 2147483647) (w : World) :
    Calls Tryd.prog 18 #[.agg (Ins.mk 1 f d a b e m).cells] w fun e w' => e = .returned (.tuple #[.string ⟨([102, 117] ++ (uShape m).1).toArray⟩, .bool ((uShape m).2 && decide (0 ≤ f) && decide (f ≤ 3))]) ∧ Below w.heap.size w w' := by
  unfold Ins.cells
  have hu := asm_unitShape m
  have hl := uShape_len m
  generalize uShape m = u at *
  obtain ⟨s, ok⟩ := u
  simp only at hl
  cases ok
  all_goals
    rcases Bool.eq_false_or_eq_true (decide (0 ≤ f)) with hf1 | hf1
    all_goals
      rcases Bool.eq_false_or_eq_true (decide (f ≤ 3)) with hf4 | hf4
      all_goals
        go_enter Tryd.func18, Tryd.ntmps18
        go_wp2_with (go_at_call 31; refine (hu _).mono ?_; rintro e w' ⟨rfl, rfl⟩)
        go_quiet (fail)
        go_wp2
        go_ret2
        refine ⟨ret2 (v_str (ByteArray.mk_append_mk [102, 117] s)) (v_bool (by simp [hf1, hf4])), below_drewN ((Below.refl _ _).alloc (Nat.le_refl _) _) _⟩

theorem shape_ix_14 : ∀ w, (Instr.index 84 (.agg #[(.string { data := #[] }), (.string { data := #[] }), (.string { data := #[68, 65, 105] }), (.string { data := #[66, 65, 105] }), (.string { data := #[68, 105] }), (.string { data := #[68, 65, 105] }), (.string { data := #[68, 65] }), (.string { data := #[68, 65, 105] }), (.string { data := #[116] }), (.string { data := #[114, 65, 116] }), (.string { data := #[109] }), (.string { data := #[115] }), (.string { data := #[68, 115] }), (.string { data := #[118] }), (.string { data := #[] })]) (.int .i64 14)).run Tryd.prog w = .ok (.string { data := #[] }) w := fun _ => by kernel_rfl
theorem shape_ix_13 : ∀ w, (Instr.index 84 (.agg #[(.string { data := #[] }), (.string { data := #[] }), (.string { data := #[68, 65, 105] }), (.string { data := #[66, 65, 105] }), (.string { data := #[68, 105] }), (.string { data := #[68, 65, 105] }), (.string { data := #[68, 65] }), (.string { data := #[68, 65, 105] }), (.string { data := #[116] }), (.string { data := #[114, 65, 116] }), (.string { data := #[109] }), (.string { data := #[115] }), (.string { data := #[68, 115] }), (.string { data := #[118] }), (.string { data := #[] })]) (.int .i64 13)).run Tryd.prog w = .ok (.string { data := #[118] }) w := fun _ => by kernel_rfl
theorem shape_ix_12 : ∀ w, (Instr.index 84 (.agg #[(.string { data := #[] }), (.string { data := #[] }), (.string { data := #[68, 65, 105] }), (.string { data := #[66, 65, 105] }), (.string { data := #[68, 105] }), (.string { data := #[68, 65, 105] }), (.string { data := #[68, 65] }), (.string { data := #[68, 65, 105] }), (.string { data := #[116] }), (.string { data := #[114, 65, 116] }), (.string { data := #[109] }), (.string { data := #[115] }), (.string { data := #[68, 115] }), (.string { data := #[118] }), (.string { data := #[] })]) (.int .i64 12)).run Tryd.prog w = .ok (.string { data := #[68, 115] }) w := fun _ => by kernel_rfl
theorem shape_ix_11 : ∀ w, (Instr.index 84 (.agg #[(.string { data := #[] }), (.string { data := #[] }), (.string { data := #[68, 65, 105] }), (.string { data := #[66, 65, 105] }), (.string { data := #[68, 105] }), (.string { data := #[68, 65, 105] }), (.string { data := #[68, 65] }), (.string { data := #[68, 65, 105] }), (.string { data := #[116] }), (.string { data := #[114, 65, 116] }), (.string { data := #[109] }), (.string { data := #[115] }), (.string { data := #[68, 115] }), (.string { data := #[118] }), (.string { data := #[] })]) (.int .i64 11)).run Tryd.prog w = .ok (.string { data := #[115] }) w := fun _ => by kernel_rfl
theorem shape_ix_10 : ∀ w, (Instr.index 84 (.agg #[(.string { data := #[] }), (.string { data := #[] }), (.string { data := #[68, 65, 105] }), (.string { data := #[66, 65, 105] }), (.string { data := #[68, 105] }), (.string { data := #[68, 65, 105] }), (.string { data := #[68, 65] }), (.string { data := #[68, 65, 105] }), (.string { data := #[116] }), (.string { data := #[114, 65, 116] }), (.string { data := #[109] }), (.string { data := #[115] }), (.string { data := #[68, 115] }), (.string { data := #[118] }), (.string { data := #[] })]) (.int .i64 10)).run Tryd.prog w = .ok (.string { data := #[109] }) w := fun _ => by kernel_rfl
theorem shape_ix_9 : ∀ w, (Instr.index 84 (.agg #[(.string { data := #[] }), (.string { data := #[] }), (.string { data := #[68, 65, 105] }), (.string { data := #[66, 65, 105] }), (.string { data := #[68, 105] }), (.string { data := #[68, 65, 105] }), (.string { data := #[68, 65] }), (.string { data := #[68, 65, 105] }), (.string { data := #[116] }), (.string { data := #[114, 65, 116] }), (.string { data := #[109] }), (.string { data := #[115] }), (.string { data := #[68, 115] }), (.string { data := #[118] }), (.string { data := #[] })]) (.int .i64 9)).run Tryd.prog w = .ok (.string { data := #[114, 65, 116] }) w := fun _ => by kernel_rfl
theorem shape_ix_8 : ∀ w, (Instr.index 84 (.agg #[(.string { data := #[] }), (.string { data := #[] }), (.string { data := #[68, 65, 105] }), (.string { data := #[66, 65, 105] }), (.string { data := #[68, 105] }), (.string { data := #[68, 65, 105] }), (.string { data := #[68, 65] }), (.string { data := #[68, 65, 105] }), (.string { data := #[116] }), (.string { data := #[114, 65, 116] }), (.string { data := #[109] }), (.string { data := #[115] }), (.string { data := #[68, 115] }), (.string { data := #[118] }), (.string { data := #[] })]) (.int .i64 8)).run Tryd.prog w = .ok (.string { data := #[116] }) w := fun _ => by kernel_rfl
theorem shape_ix_7 : ∀ w, (Instr.index 84 (.agg #[(.string { data := #[] }), (.string { data := #[] }), (.string { data := #[68, 65, 105] }), (.string { data := #[66, 65, 105] }), (.string { data := #[68, 105] }), (.string { data := #[68, 65, 105] }), (.string { data := #[68, 65] }), (.string { data := #[68, 65, 105] }), (.string { data := #[116] }), (.string { data := #[114, 65, 116] }), (.string { data := #[109] }), (.string { data := #[115] }), (.string { data := #[68, 115] }), (.string { data := #[118] }), (.string { data := #[] })]) (.int .i64 7)).run Tryd.prog w = .ok (.string { data := #[68, 65, 105] }) w := fun _ => by kernel_rfl
theorem shape_ix_6 : ∀ w, (Instr.index 84 (.agg #[(.string { data := #[] }), (.string { data := #[] }), (.string { data := #[68, 65, 105] }), (.string { data := #[66, 65, 105] }), (.string { data := #[68, 105] }), (.string { data := #[68, 65, 105] }), (.string { data := #[68, 65] }), (.string { data := #[68, 65, 105] }), (.string { data := #[116] }), (.string { data := #[114, 65, 116] }), (.string { data := #[109] }), (.string { data := #[115] }), (.string { data := #[68, 115] }), (.string { data := #[118] }), (.string { data := #[] })]) (.int .i64 6)).run Tryd.prog w = .ok (.string { data := #[68, 65] }) w := fun _ => by kernel_rfl
theorem shape_ix_5 : ∀ w, (Instr.index 84 (.agg #[(.string { data := #[] }), (.string { data := #[] }), (.string { data := #[68, 65, 105] }), (.string { data := #[66, 65, 105] }), (.string { data := #[68, 105] }), (.string { data := #[68, 65, 105] }), (.string { data := #[68, 65] }), (.string { data := #[68, 65, 105] }), (.string { data := #[116] }), (.string { data := #[114, 65, 116] }), (.string { data := #[109] }), (.string { data := #[115] }), (.string { data := #[68, 115] }), (.string { data := #[118] }), (.string { data := #[] })]) (.int .i64 5)).run Tryd.prog w = .ok (.string { data := #[68, 65, 105] }) w := fun _ => by kernel_rfl
theorem shape_ix_4 : ∀ w, (Instr.index 84 (.agg #[(.string { data := #[] }), (.string { data := #[] }), (.string { data := #[68, 65, 105] }), (.string { data := #[66, 65, 105] }), (.string { data := #[68, 105] }), (.string { data := #[68, 65, 105] }), (.string { data := #[68, 65] }), (.string { data := #[68, 65, 105] }), (.string { data := #[116] }), (.string { data := #[114, 65, 116] }), (.string { data := #[109] }), (.string { data := #[115] }), (.string { data := #[68, 115] }), (.string { data := #[118] }), (.string { data := #[] })]) (.int .i64 4)).run Tryd.prog w = .ok (.string { data := #[68, 105] }) w := fun _ => by kernel_rfl
theorem shape_ix_3 : ∀ w, (Instr.index 84 (.agg #[(.string { data := #[] }), (.string { data := #[] }), (.string { data := #[68, 65, 105] }), (.string { data := #[66, 65, 105] }), (.string { data := #[68, 105] }), (.string { data := #[68, 65, 105] }), (.string { data := #[68, 65] }), (.string { data := #[68, 65, 105] }), (.string { data := #[116] }), (.string { data := #[114, 65, 116] }), (.string { data := #[109] }), (.string { data := #[115] }), (.string { data := #[68, 115] }), (.string { data := #[118] }), (.string { data := #[] })]) (.int .i64 3)).run Tryd.prog w = .ok (.string { data := #[66, 65, 105] }) w := fun _ => by kernel_rfl
theorem shape_ix_2 : ∀ w, (Instr.index 84 (.agg #[(.string { data := #[] }), (.string { data := #[] }), (.string { data := #[68, 65, 105] }), (.string { data := #[66, 65, 105] }), (.string { data := #[68, 105] }), (.string { data := #[68, 65, 105] }), (.string { data := #[68, 65] }), (.string { data := #[68, 65, 105] }), (.string { data := #[116] }), (.string { data := #[114, 65, 116] }), (.string { data := #[109] }), (.string { data := #[115] }), (.string { data := #[68, 115] }), (.string { data := #[118] }), (.string { data := #[] })]) (.int .i64 2)).run Tryd.prog w = .ok (.string { data := #[68, 65, 105] }) w := fun _ => by kernel_rfl
theorem shape_ix_0 : ∀ w, (Instr.index 84 (.agg #[(.string { data := #[] }), (.string { data := #[] }), (.string { data := #[68, 65, 105] }), (.string { data := #[66, 65, 105] }), (.string { data := #[68, 105] }), (.string { data := #[68, 65, 105] }), (.string { data := #[68, 65] }), (.string { data := #[68, 65, 105] }), (.string { data := #[116] }), (.string { data := #[114, 65, 116] }), (.string { data := #[109] }), (.string { data := #[115] }), (.string { data := #[68, 115] }), (.string { data := #[118] }), (.string { data := #[] })]) (.int .i64 0)).run Tryd.prog w = .ok (.string { data := #[] }) w := fun _ => by kernel_rfl
theorem asm_shape0_0 (f d a b e m : Int) (w : World) :
    Calls Tryd.prog 18 #[.agg (Ins.mk 0 f d a b e m).cells] w fun e' w' => e' = .returned (.tuple #[.string ⟨(pShape (Ins.mk 0 f d a b e m)).1.toArray⟩, .bool (pShape (Ins.mk 0 f d a b e m)).2]) ∧ Below w.heap.size w w' := by
  unfold Ins.cells
  have hix := shape_ix_0
  go_enter Tryd.func18, Tryd.ntmps18
  go_wp2
  go_ret2
  exact ⟨ret2 rfl rfl, ((Below.refl _ _).alloc (Nat.le_refl _) _)⟩
theorem asm_shape0_2 (f d a b e m : Int) (w : World) :
    Calls Tryd.prog 18 #[.agg (Ins.mk 2 f d a b e m).cells] w fun e' w' => e' = .returned (.tuple #[.string ⟨(pShape (Ins.mk 2 f d a b e m)).1.toArray⟩, .bool (pShape (Ins.mk 2 f d a b e m)).2]) ∧ Below w.heap.size w w' := by
  unfold Ins.cells
  have hix := shape_ix_2
  go_enter Tryd.func18, Tryd.ntmps18
  go_wp2
  go_ret2
  exact ⟨ret2 rfl rfl, ((Below.refl _ _).alloc (Nat.le_refl _) _)⟩
theorem asm_shape0_3 (f d a b e m : Int) (w : World) :
    Calls Tryd.prog 18 #[.agg (Ins.mk 3 f d a b e m).cells] w fun e' w' => e' = .returned (.tuple #[.string ⟨(pShape (Ins.mk 3 f d a b e m)).1.toArray⟩, .bool (pShape (Ins.mk 3 f d a b e m)).2]) ∧ Below w.heap.size w w' := by
  unfold Ins.cells
  have hix := shape_ix_3
  go_enter Tryd.func18, Tryd.ntmps18
  go_wp2
  go_ret2
  exact ⟨ret2 rfl rfl, ((Below.refl _ _).alloc (Nat.le_refl _) _)⟩
theorem asm_shape0_4 (f d a b e m : Int) (w : World) :
    Calls Tryd.prog 18 #[.agg (Ins.mk 4 f d a b e m).cells] w fun e' w' => e' = .returned (.tuple #[.string ⟨(pShape (Ins.mk 4 f d a b e m)).1.toArray⟩, .bool (pShape (Ins.mk 4 f d a b e m)).2]) ∧ Below w.heap.size w w' := by
  unfold Ins.cells
  have hix := shape_ix_4
  go_enter Tryd.func18, Tryd.ntmps18
  go_wp2
  go_ret2
  exact ⟨ret2 rfl rfl, ((Below.refl _ _).alloc (Nat.le_refl _) _)⟩
theorem asm_shape0_5 (f d a b e m : Int) (w : World) :
    Calls Tryd.prog 18 #[.agg (Ins.mk 5 f d a b e m).cells] w fun e' w' => e' = .returned (.tuple #[.string ⟨(pShape (Ins.mk 5 f d a b e m)).1.toArray⟩, .bool (pShape (Ins.mk 5 f d a b e m)).2]) ∧ Below w.heap.size w w' := by
  unfold Ins.cells
  have hix := shape_ix_5
  go_enter Tryd.func18, Tryd.ntmps18
  go_wp2
  go_ret2
  exact ⟨ret2 rfl rfl, ((Below.refl _ _).alloc (Nat.le_refl _) _)⟩
theorem asm_shape0_6 (f d a b e m : Int) (w : World) :
    Calls Tryd.prog 18 #[.agg (Ins.mk 6 f d a b e m).cells] w fun e' w' => e' = .returned (.tuple #[.string ⟨(pShape (Ins.mk 6 f d a b e m)).1.toArray⟩, .bool (pShape (Ins.mk 6 f d a b e m)).2]) ∧ Below w.heap.size w w' := by
  unfold Ins.cells
  have hix := shape_ix_6
  go_enter Tryd.func18, Tryd.ntmps18
  go_wp2
  go_ret2
  exact ⟨ret2 rfl rfl, ((Below.refl _ _).alloc (Nat.le_refl _) _)⟩
theorem asm_shape0_7 (f d a b e m : Int) (w : World) :
    Calls Tryd.prog 18 #[.agg (Ins.mk 7 f d a b e m).cells] w fun e' w' => e' = .returned (.tuple #[.string ⟨(pShape (Ins.mk 7 f d a b e m)).1.toArray⟩, .bool (pShape (Ins.mk 7 f d a b e m)).2]) ∧ Below w.heap.size w w' := by
  unfold Ins.cells
  have hix := shape_ix_7
  go_enter Tryd.func18, Tryd.ntmps18
  go_wp2
  go_ret2
  exact ⟨ret2 rfl rfl, ((Below.refl _ _).alloc (Nat.le_refl _) _)⟩
theorem asm_shape0_8 (f d a b e m : Int) (w : World) :
    Calls Tryd.prog 18 #[.agg (Ins.mk 8 f d a b e m).cells] w fun e' w' => e' = .returned (.tuple #[.string ⟨(pShape (Ins.mk 8 f d a b e m)).1.toArray⟩, .bool (pShape (Ins.mk 8 f d a b e m)).2]) ∧ Below w.heap.size w w' := by
  unfold Ins.cells
  have hix := shape_ix_8
  go_enter Tryd.func18, Tryd.ntmps18
  go_wp2
  go_ret2
  exact ⟨ret2 rfl rfl, ((Below.refl _ _).alloc (Nat.le_refl _) _)⟩
theorem asm_shape0_9 (f d a b e m : Int) (w : World) :
    Calls Tryd.prog 18 #[.agg (Ins.mk 9 f d a b e m).cells] w fun e' w' => e' = .returned (.tuple #[.string ⟨(pShape (Ins.mk 9 f d a b e m)).1.toArray⟩, .bool (pShape (Ins.mk 9 f d a b e m)).2]) ∧ Below w.heap.size w w' := by
  unfold Ins.cells
  have hix := shape_ix_9
  go_enter Tryd.func18, Tryd.ntmps18
  go_wp2
  go_ret2
  exact ⟨ret2 rfl rfl, ((Below.refl _ _).alloc (Nat.le_refl _) _)⟩
theorem asm_shape0_10 (f d a b e m : Int) (w : World) :
    Calls Tryd.prog 18 #[.agg (Ins.mk 10 f d a b e m).cells] w fun e' w' => e' = .returned (.tuple #[.string ⟨(pShape (Ins.mk 10 f d a b e m)).1.toArray⟩, .bool (pShape (Ins.mk 10 f d a b e m)).2]) ∧ Below w.heap.size w w' := by
  unfold Ins.cells
  have hix := shape_ix_10
  go_enter Tryd.func18, Tryd.ntmps18
  go_wp2
  go_ret2
  exact ⟨ret2 rfl rfl, ((Below.refl _ _).alloc (Nat.le_refl _) _)⟩
theorem asm_shape0_11 (f d a b e m : Int) (w : World) :
    Calls Tryd.prog 18 #[.agg (Ins.mk 11 f d a b e m).cells] w fun e' w' => e' = .returned (.tuple #[.string ⟨(pShape (Ins.mk 11 f d a b e m)).1.toArray⟩, .bool (pShape (Ins.mk 11 f d a b e m)).2]) ∧ Below w.heap.size w w' := by
  unfold Ins.cells
  have hix := shape_ix_11
  go_enter Tryd.func18, Tryd.ntmps18
  go_wp2
  go_ret2
  exact ⟨ret2 rfl rfl, ((Below.refl _ _).alloc (Nat.le_refl _) _)⟩
theorem asm_shape0_12 (f d a b e m : Int) (w : World) :
    Calls Tryd.prog 18 #[.agg (Ins.mk 12 f d a b e m).cells] w fun e' w' => e' = .returned (.tuple #[.string ⟨(pShape (Ins.mk 12 f d a b e m)).1.toArray⟩, .bool (pShape (Ins.mk 12 f d a b e m)).2]) ∧ Below w.heap.size w w' := by
  unfold Ins.cells
  have hix := shape_ix_12
  go_enter Tryd.func18, Tryd.ntmps18
  go_wp2
  go_ret2
  exact ⟨ret2 rfl rfl, ((Below.refl _ _).alloc (Nat.le_refl _) _)⟩
theorem asm_shape0_13 (f d a b e m : Int) (w : World) :
    Calls Tryd.prog 18 #[.agg (Ins.mk 13 f d a b e m).cells] w fun e' w' => e' = .returned (.tuple #[.string ⟨(pShape (Ins.mk 13 f d a b e m)).1.toArray⟩, .bool (pShape (Ins.mk 13 f d a b e m)).2]) ∧ Below w.heap.size w w' := by
  unfold Ins.cells
  have hix := shape_ix_13
  go_enter Tryd.func18, Tryd.ntmps18
  go_wp2
  go_ret2
  exact ⟨ret2 rfl rfl, ((Below.refl _ _).alloc (Nat.le_refl _) _)⟩
theorem asm_shape0_14 (f d a b e m : Int) (w : World) :
    Calls Tryd.prog 18 #[.agg (Ins.mk 14 f d a b e m).cells] w fun e' w' => e' = .returned (.tuple #[.string ⟨(pShape (Ins.mk 14 f d a b e m)).1.toArray⟩, .bool (pShape (Ins.mk 14 f d a b e m)).2]) ∧ Below w.heap.size w w' := by
  unfold Ins.cells
  have hix := shape_ix_14
  go_enter Tryd.func18, Tryd.ntmps18
  go_wp2
  go_ret2
  exact ⟨ret2 rfl rfl, ((Below.refl _ _).alloc (Nat.le_refl _) _)⟩
theorem asm_shape0 (c f d a b e m : Int) (hc : c = 0 ∨ c = 2 ∨ c = 3 ∨ c = 4 ∨ c = 5 ∨ c = 6 ∨ c = 7 ∨ c = 8 ∨ c = 9 ∨ c = 10 ∨ c = 11 ∨ c = 12 ∨ c = 13 ∨ c = 14) (w : World) :
    Calls Tryd.prog 18 #[.agg (Ins.mk c f d a b e m).cells] w fun e' w' => e' = .returned (.tuple #[.string ⟨(pShape (Ins.mk c f d a b e m)).1.toArray⟩, .bool (pShape (Ins.mk c f d a b e m)).2]) ∧ Below w.heap.size w w' := by
  rcases hc with rfl | rfl | rfl | rfl | rfl | rfl | rfl | rfl | rfl | rfl | rfl | rfl | rfl | rfl
  · exact asm_shape0_0 f d a b e m w
  · exact asm_shape0_2 f d a b e m w
  · exact asm_shape0_3 f d a b e m w
  · exact asm_shape0_4 f d a b e m w
  · exact asm_shape0_5 f d a b e m w
  · exact asm_shape0_6 f d a b e m w
  · exact asm_shape0_7 f d a b e m w
  · exact asm_shape0_8 f d a b e m w
  · exact asm_shape0_9 f d a b e m w
  · exact asm_shape0_10 f d a b e m w
  · exact asm_shape0_11 f d a b e m w
  · exact asm_shape0_12 f d a b e m w
  · exact asm_shape0_13 f d a b e m w
  · exact asm_shape0_14 f d a b e m w

theorem asm_shapeN (c f d a b e m : Int) (hc : c < 0 ∨ 15 ≤ c) (w : World) :
    Calls Tryd.prog 18 #[.agg (Ins.mk c f d a b e m).cells] w fun e' w' => e' = .returned (.tuple #[.string ⟨#[]⟩, .bool false]) ∧ Below w.heap.size w w' := by
  unfold Ins.cells
  rcases hc with hc | hc
  · have h1 : (c == 1) = false := by simp; omega
    go_enter Tryd.func18, Tryd.ntmps18
    go_wp2
    go_ret2
    exact ⟨ret2 rfl rfl, ((Below.refl _ _).alloc (Nat.le_refl _) _)⟩
  · have h1 : (c == 1) = false := by simp; omega
    have h2 : 0 ≤ c := by omega
    go_enter Tryd.func18, Tryd.ntmps18
    go_wp2
    go_ret2
    exact ⟨ret2 rfl rfl, ((Below.refl _ _).alloc (Nat.le_refl _) _)⟩

theorem asm_shape (i : Ins) (h1 : -2147483648 ≤ i.m) (h2 : i.m ≤ 2147483647) (w : World) :
    Calls Tryd.prog 18 #[.agg i.cells] w fun e' w' => e' = .returned (.tuple #[.string ⟨(pShape i).1.toArray⟩, .bool (pShape i).2]) ∧ Below w.heap.size w w' := by
  obtain ⟨c, f, d, a, b, e, m⟩ := i
  by_cases hc1 : c = 1
  · subst hc1
    exact asm_shape1 f d a b e m h1 h2 w
  · by_cases hc : c < 0 ∨ 15 ≤ c
    · have e1 : pShape ⟨c, f, d, a, b, e, m⟩ = ([], false) := by
        unfold pShape
        simp only
        repeat (rw [if_neg (by omega)])
      rw [e1]
      exact asm_shapeN c f d a b e m hc w
    · exact asm_shape0 c f d a b e m (by omega) w

set_option maxHeartbeats 400000 in
theorem asm_take (i : Ins) (hi : i.Ok) (l : Int) (b : Nat) (w : World) (hb : w.heap[b]? = some (.cells i.cells 25 (0, 0))) :
    Calls Tryd.prog 29 #[.pointer (some ⟨b, 0, none⟩), .int .i32 l] w fun e w' => e = .returned (.bool (i.fits l)) ∧ w' = setB w b (.cells (i.zap l).cells 25 (0, 0)) := by
  have hs := setCell_block hb
  obtain ⟨c, f, d, a, b', e, m⟩ := i
  obtain ⟨_, _, _, _, _, _, _, _, _, _, _, _, m1, m2⟩ := hi
  simp only at m1 m2
  unfold Ins.cells at hb
  have k1 : w.cell? ⟨b, 1, none⟩ = some (.int .i64 f) := by simp [World.cell?, hb]
  have k2 : w.cell? ⟨b, 2, none⟩ = some (.int .i64 d) := by simp [World.cell?, hb]
  have k3 : w.cell? ⟨b, 3, none⟩ = some (.int .i64 a) := by simp [World.cell?, hb]
  have k4 : w.cell? ⟨b, 4, none⟩ = some (.int .i64 b') := by simp [World.cell?, hb]
  have k5 : w.cell? ⟨b, 5, none⟩ = some (.int .i64 e) := by simp [World.cell?, hb]
  have k6 : w.cell? ⟨b, 6, none⟩ = some (.int .i32 m) := by simp [World.cell?, hb]
  have z1 : w.frozen? ⟨b, 1, none⟩ = false := by simp [World.frozen?, hb]
  have z2 : w.frozen? ⟨b, 2, none⟩ = false := by simp [World.frozen?, hb]
  have z3 : w.frozen? ⟨b, 3, none⟩ = false := by simp [World.frozen?, hb]
  have z4 : w.frozen? ⟨b, 4, none⟩ = false := by simp [World.frozen?, hb]
  have z5 : w.frozen? ⟨b, 5, none⟩ = false := by simp [World.frozen?, hb]
  have z6 : w.frozen? ⟨b, 6, none⟩ = false := by simp [World.frozen?, hb]
  have HS := Lib.hid hs
  clear hb hs
  go_enter Tryd.func29, Tryd.ntmps29
  go_wp2_with (go_at_call 45; refine (asm_within _ _ _ _).mono ?_; rintro e w' ⟨rfl, rfl⟩)
  all_goals go_ret
  all_goals rw [HS.out]
  all_goals refine ⟨?_, ?_⟩
  all_goals first | (simp_all [Ins.fits]; done) | (simp_all [Ins.zap, Ins.cells, setB]; done)

end Go.Proofs.YthaooekohjmhdaaDoor
