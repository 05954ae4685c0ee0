/- Walk of layer 25's Decode. No condition. -/
import Derived.Test.YthaooekohjmhdaaDoorAsmC
import Derived.Deep.RegionHeld3
import Derived.Deep.CutRange
set_option linter.unusedVariables false
set_option linter.unusedSimpArgs false
namespace Go.Proofs.YthaooekohjmhdaaDoor
open Go.RowKit

def decRes (wv v k : Int) : Value := if k = 0 ∧ v = wv then .tuple #[.agg (decIns wv).cells, .int .i64 0] else .tuple #[.agg (Ins.mk 0 0 0 0 0 0 0).cells, .int .i64 250]
def DecE (w : World) (wv v k : Int) (e : Ending) (w' : World) : Prop := e = .returned (decRes wv v k) ∧ Below w.heap.size w w'

set_option maxHeartbeats 20000000 in
theorem asm_Decode (wv v k : Int) (h0 : 0 ≤ wv) (h1 : wv < 18446744073709551616)
    (hE : ∀ w, Calls Tryd.prog 5 #[.agg (decIns wv).cells] w fun e' w' => e' = .returned (.tuple #[.int .u64 v, .int .i64 k]) ∧ Below w.heap.size w w') (w : World) :
    Calls Tryd.prog 25 #[.int .u64 wv] w (DecE w wv v k) := by
  have hb := asm_bits wv w.heap.size h0 h1
  rw [decCells] at hE
  go_enter Tryd.func25, Tryd.ntmps25
  go_upto_region 2 with fail
  go_cut [5] from 9 to 25 (fun s wx => s = .pointer (some ⟨w.heap.size + 2, 0, none⟩) ∧ DecW wv w wx)
  case first =>
    go_region_held3 (fun w' => w'.cell? ⟨w.heap.size, 0, none⟩ = some (.int .u64 wv)) (first | go_keep | (go_simp; done) | (simp [World.cell?_setCell_other]; done))
      ((go_at_call 43; refine (hb _ _ (by omega) _ (by go_simp)).mono ?_; rintro e w' ⟨rfl, n, rfl⟩))
    all_goals go_wp2_with fail
    all_goals go_meet
    all_goals refine And.intro rfl ?_
    all_goals first
      | with_reducible exact decW_made wv w _ _ (decCells' wv).symm
      | with_reducible exact decW_set wv w _ _ _ _ _ _ _ _ _ (decCells' wv).symm
      | with_reducible exact decW_set' wv w _ _ _ _ _ _ _ _ (decCells' wv).symm
  case rest =>
    obtain ⟨rfl, hd⟩ := hcut
    have hbw := Lib.hid hd.bel
    have hcs := hd.ins
    have hout := Lib.hid hd.out
    have hword := hd.word
    have hsz := hd.size
    clear hd hb
    rw [decCells] at hcs
    have r0 : wc.cell? ⟨w.heap.size + 2, 0, none⟩ = some (.int .i64 (bitsF wv 0 4)) := by simp [World.cell?, hcs]
    have r1 : wc.cell? ⟨w.heap.size + 2, 1, none⟩ = some (.int .i64 (bitsF wv 4 2)) := by simp [World.cell?, hcs]
    have r2 : wc.cell? ⟨w.heap.size + 2, 2, none⟩ = some (.int .i64 (bitsF wv 6 5)) := by simp [World.cell?, hcs]
    have r3 : wc.cell? ⟨w.heap.size + 2, 3, none⟩ = some (.int .i64 (bitsF wv 11 5)) := by simp [World.cell?, hcs]
    have r4 : wc.cell? ⟨w.heap.size + 2, 4, none⟩ = some (.int .i64 (bitsF wv 16 5)) := by simp [World.cell?, hcs]
    have r5 : wc.cell? ⟨w.heap.size + 2, 5, none⟩ = some (.int .i64 (bitsF wv 21 5)) := by simp [World.cell?, hcs]
    have r6 : wc.cell? ⟨w.heap.size + 2, 6, none⟩ = some (.int .i32 (wrap32 (wv / 4294967296))) := by simp [World.cell?, hcs]
    have hcs2 := hout.out
    rw [cellsE] at hcs2
    have o0 : wc.cell? ⟨w.heap.size + 1, 0, none⟩ = some (.int .i64 0) := by simp [World.cell?, hcs2]
    have o1 : wc.cell? ⟨w.heap.size + 1, 1, none⟩ = some (.int .i64 0) := by simp [World.cell?, hcs2]
    have o2 : wc.cell? ⟨w.heap.size + 1, 2, none⟩ = some (.int .i64 0) := by simp [World.cell?, hcs2]
    have o3 : wc.cell? ⟨w.heap.size + 1, 3, none⟩ = some (.int .i64 0) := by simp [World.cell?, hcs2]
    have o4 : wc.cell? ⟨w.heap.size + 1, 4, none⟩ = some (.int .i64 0) := by simp [World.cell?, hcs2]
    have o5 : wc.cell? ⟨w.heap.size + 1, 5, none⟩ = some (.int .i64 0) := by simp [World.cell?, hcs2]
    have o6 : wc.cell? ⟨w.heap.size + 1, 6, none⟩ = some (.int .i32 0) := by simp [World.cell?, hcs2]
    have of : ∀ k, wc.frozen? ⟨w.heap.size + 1, k, none⟩ = false := fun k => by simp [World.frozen?, hcs2]
    have HCS := Lib.hid hcs2
    clear hcs hcs2
    by_cases hk : k = 0
    · subst hk
      by_cases hv : v = wv
      · subst hv
        go_wp2_with (go_at_call 5; refine (hE _).mono ?_; rintro e w1 ⟨rfl, hb1⟩; obtain ⟨hc1, hf1⟩ := bcell hb1)
        rw [set7 (at_below HCS.out hb1)]
        refine bodyPost_ret (results_ct rfl _ _ (w.heap.size + 1) _ _ _ _ rfl (setB_get (by have := hb1.size; omega)) Tryd.underlying25 rfl (by kernel_rfl)) rfl ?_
        exact ⟨by unfold decRes; rw [if_pos ⟨rfl, rfl⟩]; rfl, setB_below (hbw.out.trans (hb1.mono (by omega))) (by omega) _⟩
      · have hv' : (v == wv) = false := by simpa using hv
        go_wp2_with (go_at_call 5; refine (hE _).mono ?_; rintro e w1 ⟨rfl, hb1⟩; obtain ⟨hc1, hf1⟩ := bcell hb1)
        rw [set7 (at_below HCS.out hb1)]
        refine bodyPost_ret (results_ct rfl _ _ (w.heap.size + 1) _ _ _ _ rfl (setB_get (by have := hb1.size; omega)) Tryd.underlying25 rfl (by kernel_rfl)) rfl ?_
        exact ⟨by unfold decRes; rw [if_neg (by simp [hv])]; rfl, setB_below (hbw.out.trans (hb1.mono (by omega))) (by omega) _⟩
    · have hk' : (k == 0) = false := by simpa using hk
      go_wp2_with (go_at_call 5; refine (hE _).mono ?_; rintro e w1 ⟨rfl, hb1⟩; obtain ⟨hc1, hf1⟩ := bcell hb1)
      rw [set7 (at_below HCS.out hb1)]
      refine bodyPost_ret (results_ct rfl _ _ (w.heap.size + 1) _ _ _ _ rfl (setB_get (by have := hb1.size; omega)) Tryd.underlying25 rfl (by kernel_rfl)) rfl ?_
      exact ⟨by unfold decRes; rw [if_neg (by simp [hk])]; rfl, setB_below (hbw.out.trans (hb1.mono (by omega))) (by omega) _⟩

end Go.Proofs.YthaooekohjmhdaaDoor
