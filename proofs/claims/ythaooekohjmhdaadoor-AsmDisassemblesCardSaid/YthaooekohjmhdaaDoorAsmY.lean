/- Walks of the law AsmDecodes' own functions: plain, fixed. No condition. -/
import Derived.Test.YthaooekohjmhdaaDoorAsmB
import Derived.Test.YthaooekohjmhdaaDoorQuiet
set_option linter.unusedVariables false
set_option linter.unusedSimpArgs false
namespace Go.Proofs.YthaooekohjmhdaaDoor
open Go.RowKit

set_option maxHeartbeats 1000000 in
theorem asm_plain (i : Ins) (m1 : -2147483648 ≤ i.m) (m2 : i.m ≤ 2147483647) (w : World) :
    Calls Tryd.prog 7 #[.agg i.cells] w fun e w' => e = .returned (.agg i.cellsR) ∧ Below w.heap.size w w' := by
  obtain ⟨c, f, d, a, b, e, m⟩ := i
  rw [cellsE, show (Ins.mk c f d a b e m).cellsR = #[.int .i64 c, .int .i64 f, .int .i64 d, .int .i64 a, .int .i64 b, .int .i64 e, .int .i64 m] from rfl]
  simp only at m1 m2
  go_enter Tryd.func7, Tryd.ntmps7
  go_wp2
  refine bodyPost_ret (results_cell_row rfl _ _ (w.heap.size + 1) _ _ _ _ rfl (at_new (by simp)) Tryd.underlying33 rfl (by kernel_rfl)) rfl ?_
  exact ⟨rfl, ((Below.refl _ _).alloc (Nat.le_refl _) _).alloc (by simp) _⟩

set_option maxHeartbeats 1000000 in
theorem asm_fixed (w : World) :
    Calls Tryd.prog 8 #[] w fun e w' => e = .returned (.bool true) ∧ Below w.heap.size w w' := by
  have hE := asm_Encode_good ⟨1, 3, 1, 2, 3, 0, 1⟩ (by constructor <;> decide) (by decide)
  have hw : wordOf ⟨1, 3, 1, 2, 3, 0, 1⟩ = 4295168113 := by decide
  rw [hw, cellsE] at hE
  go_enter Tryd.func8, Tryd.ntmps8
  go_wp2_with (go_at_call 5; refine (hE _).mono ?_; rintro e w1 ⟨rfl, hb1⟩)
  go_ret
  exact ⟨rfl, hb1⟩

end Go.Proofs.YthaooekohjmhdaaDoor
