/- Walk of the document's Decode for layer 25. No condition. -/
import Derived.Test.YthaooekohjmhdaaDoorAsmQ
import Derived.Test.YthaooekohjmhdaaDoorAsmC
import Derived.Deep.CutRange
set_option linter.unusedVariables false
set_option linter.unusedSimpArgs false
namespace Go.Proofs.YthaooekohjmhdaaDoor
open Go.RowKit

def decResR (wv v k : Int) : Value := if k = 0 ∧ v = wv then .tuple #[.agg (decIns wv).cellsR, .int .i64 0] else .tuple #[.agg (Ins.mk 0 0 0 0 0 0 0).cellsR, .int .i64 250]
def DecRE (w : World) (wv v k : Int) (e : Ending) (w' : World) : Prop := e = .returned (decResR wv v k) ∧ Below w.heap.size w w'
theorem decCellsR (wv : Int) : (decIns wv).cellsR = #[.int .i64 (bitsF wv 0 4), .int .i64 (bitsF wv 4 2), .int .i64 (bitsF wv 6 5), .int .i64 (bitsF wv 11 5), .int .i64 (bitsF wv 16 5), .int .i64 (bitsF wv 21 5), .int .i64 (wrap32 (wv / 4294967296))] := rfl

set_option maxHeartbeats 2000000 in
theorem ref_Decode (wv v k : Int) (h0 : 0 ≤ wv) (h1 : wv < 18446744073709551616)
    (hE : ∀ w, Calls Tryd.prog 6 #[.agg (decIns wv).cellsR] w (EncE w v k)) (w : World) :
    Calls Tryd.prog 28 #[.int .u64 wv] w (DecRE w wv v k) := by
  rw [decCellsR] at hE
  go_enter Tryd.func28, Tryd.ntmps28
  go_upto_region 3 with fail
  have e0 : wv % 16 = bitsF wv 0 4 := (bitsF0 wv).symm
  have e4 : wv % 4294967296 / 16 % 4 = bitsF wv 4 2 := by rw [bitsF4]; omega
  have e6 : wv % 4294967296 / 64 % 32 = bitsF wv 6 5 := by rw [bitsF6]; omega
  have e11 : wv % 4294967296 / 2048 % 32 = bitsF wv 11 5 := by rw [bitsF11]; omega
  have e16 : wv % 4294967296 / 65536 % 32 = bitsF wv 16 5 := by rw [bitsF16]; omega
  have e21 : wv % 4294967296 / 2097152 % 32 = bitsF wv 21 5 := by rw [bitsF21]; omega
  have em : wrap64 (wrap32 (wv / 4294967296)) = wrap32 (wv / 4294967296) := by simp only [wrap64, wrap32]; omega
  simp only [e0, e4, e6, e11, e16, e21, em]
  clear e0 e4 e6 e11 e16 e21 em
  by_cases hk : k = 0
  · subst hk
    by_cases hv : v = wv
    · subst hv
      go_wp2_with (go_at_call 6; refine (hE _).mono ?_; rintro e w1 ⟨rfl, hb1⟩; obtain ⟨hc1, hf1⟩ := bcell hb1)
      rw [set7 (at_below (at_old (at_new rfl) _) hb1)]
      refine bodyPost_ret (results_ct rfl _ _ w.heap.size _ _ _ _ rfl (setB_get (by have := hb1.size; simp at this; omega)) Tryd.underlying33 rfl (by kernel_rfl)) rfl ?_
      exact ⟨by unfold decResR; rw [if_pos ⟨rfl, rfl⟩]; rfl, setB_below (Below.trans (((Below.refl _ _).alloc (Nat.le_refl _) _).alloc (by simp) _) (hb1.mono (by simp <;> omega))) (Nat.le_refl _) _⟩
    · have hv' : (v == wv) = false := by simpa using hv
      go_wp2_with (go_at_call 6; refine (hE _).mono ?_; rintro e w1 ⟨rfl, hb1⟩; obtain ⟨hc1, hf1⟩ := bcell hb1)
      rw [set7 (at_below (at_old (at_new rfl) _) hb1)]
      refine bodyPost_ret (results_ct rfl _ _ w.heap.size _ _ _ _ rfl (setB_get (by have := hb1.size; simp at this; omega)) Tryd.underlying33 rfl (by kernel_rfl)) rfl ?_
      exact ⟨by unfold decResR; rw [if_neg (by simp [hv])]; rfl, setB_below (Below.trans (((Below.refl _ _).alloc (Nat.le_refl _) _).alloc (by simp) _) (hb1.mono (by simp <;> omega))) (Nat.le_refl _) _⟩
  · have hk' : (k == 0) = false := by simpa using hk
    go_wp2_with (go_at_call 6; refine (hE _).mono ?_; rintro e w1 ⟨rfl, hb1⟩; obtain ⟨hc1, hf1⟩ := bcell hb1)
    rw [set7 (at_below (at_old (at_new rfl) _) hb1)]
    refine bodyPost_ret (results_ct rfl _ _ w.heap.size _ _ _ _ rfl (setB_get (by have := hb1.size; simp at this; omega)) Tryd.underlying33 rfl (by kernel_rfl)) rfl ?_
    exact ⟨by unfold decResR; rw [if_neg (by simp [hk])]; rfl, setB_below (Below.trans (((Below.refl _ _).alloc (Nat.le_refl _) _).alloc (by simp) _) (hb1.mono (by simp <;> omega))) (Nat.le_refl _) _⟩

end Go.Proofs.YthaooekohjmhdaaDoor
