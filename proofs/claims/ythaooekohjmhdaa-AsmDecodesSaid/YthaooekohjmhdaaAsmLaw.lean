/- The walk of the law AsmDecodes: it returns true. No condition. -/
import Derived.Test.YthaooekohjmhdaaAsmD
import Derived.Test.YthaooekohjmhdaaAsmE
import Derived.Test.YthaooekohjmhdaaAsmY
import Derived.Deep.RegionHeld3
set_option linter.unusedVariables false
set_option linter.unusedSimpArgs false
namespace Go.Proofs.Ythaooekohjmhdaa
open Go.RowKit

/-- Worlds in which all that wz has is as it is there. -/
abbrev Kp (wz w' : World) : Prop := Below wz.heap.size wz w' ∧ ∀ b o, b < wz.heap.size → w'.cell? ⟨b, o, none⟩ = wz.cell? ⟨b, o, none⟩
theorem Kp.of {wz w' : World} (h : Below wz.heap.size wz w') : Kp wz w' := ⟨h, fun b o hb => h.cell (p := ⟨b, o, none⟩) hb⟩
theorem Kp.step {wz a b : World} (h : Kp wz a) (hb : Below a.heap.size a b) : Kp wz b := Kp.of (h.1.trans (hb.mono h.1.size))

theorem Kp.bel {wz w' : World} (h : Kp wz w') : Below wz.heap.size wz w' := h.1

set_option maxHeartbeats 2000000 in
theorem law_AsmDecodes (wv : Int) (h0 : 0 ≤ wv) (h1 : wv < 18446744073709551616) (w : World) :
    Calls Try.prog 3 #[.int .u64 wv] w fun e w' => e = .returned (.bool true) ∧ Below w.heap.size w w' := by
  have hok := decIns_ok wv
  have hD : ∃ v k : Int, (∀ w, Calls Try.prog 9 #[.agg (decIns wv).cells] w fun e' w' => e' = .returned (.tuple #[.int .u64 v, .int .i64 k]) ∧ Below w.heap.size w w') ∧
      (∀ w, Calls Try.prog 10 #[.agg (decIns wv).cellsR] w (EncE w v k)) := by
    have hr := chk_ref _ hok
    by_cases hz : chk (decIns wv) = 0
    · refine ⟨wordOf (decIns wv), 0, asm_Encode_good _ hok hz, ?_⟩
      rw [hz] at hr
      have hin := refErr_in _ hr.symm
      unfold refErr at hr
      by_cases hh : (hasF (decIns wv)).2 = true
      · rw [if_pos hh] at hr
        by_cases hn : inF (decIns wv) (hasF (decIns wv)).1 = true
        · exact ref_Encode_good _ hin hok.m1 hok.m2 hh hn
        · rw [if_neg hn] at hr
          omega
      · rw [if_neg hh] at hr
        omega
    · refine ⟨0, chk (decIns wv), asm_Encode_bad _ hok hz, ?_⟩
      rw [hr] at hz ⊢
      unfold refErr at hz ⊢
      by_cases hh : (hasF (decIns wv)).2 = true
      · rw [if_pos hh] at hz ⊢
        by_cases hn : inF (decIns wv) (hasF (decIns wv)).1 = true
        · rw [if_pos hn] at hz
          exact absurd rfl hz
        · rw [if_neg hn]
          exact ref_Encode_out _ hh (by simpa using hn)
      · rw [if_neg hh]
        exact ref_Encode_none _ (by simpa using hh)
  obtain ⟨v, k, hA, hR⟩ := hD
  have hDA := asm_Decode wv v k h0 h1 hA
  have hDR := ref_Decode wv v k h0 h1 hR
  clear hA hR
  have hJ : ∃ (j : Ins) (r : Int), decRes wv v k = .tuple #[.agg j.cells, .int .i64 r] ∧ decResR wv v k = .tuple #[.agg j.cellsR, .int .i64 r] ∧ -2147483648 ≤ j.m ∧ j.m ≤ 2147483647 := by
    unfold decRes decResR
    by_cases hg : k = 0 ∧ v = wv
    · rw [if_pos hg, if_pos hg]
      exact ⟨_, _, rfl, rfl, hok.m1, hok.m2⟩
    · rw [if_neg hg, if_neg hg]
      exact ⟨⟨0, 0, 0, 0, 0, 0, 0⟩, _, rfl, rfl, by decide, by decide⟩
  obtain ⟨j, r, j1, j2, m1, m2⟩ := hJ
  unfold DecE at hDA
  unfold DecRE at hDR
  rw [j1] at hDA
  rw [j2] at hDR
  have hP := asm_plain j m1 m2
  obtain ⟨jc, jf, jd, ja, jb, je, jm⟩ := j
  rw [cellsE] at hDA hP
  rw [cellsRE] at hDR hP
  clear j1 j2 hok h0 h1
  go_enter Try.func3, Try.ntmps3
  go_wp2_with (first
    | (go_at_call 4; refine (hDA _).mono ?_; rintro e' w1 ⟨rfl, hb1⟩)
    | (go_at_call 5; refine (hDR _).mono ?_; rintro e' w2 ⟨rfl, hb2⟩; obtain ⟨hc2, hf2⟩ := bcell hb2))
  have hat1 := at_old (at_below (heap_alloc_new w1 (.cells #[.int .i64 jc, .int .i64 jf, .int .i64 jd, .int .i64 ja, .int .i64 jb, .int .i64 je, .int .i32 jm] 26)) hb2) (.cells #[.int .i64 jc, .int .i64 jf, .int .i64 jd, .int .i64 ja, .int .i64 jb, .int .i64 je, .int .i64 jm] 31)
  have hat2 := heap_alloc_new w2 (.cells #[.int .i64 jc, .int .i64 jf, .int .i64 jd, .int .i64 ja, .int .i64 jb, .int .i64 je, .int .i64 jm] 31)
  have hB : Below w.heap.size w (w2.alloc (.cells #[.int .i64 jc, .int .i64 jf, .int .i64 jd, .int .i64 ja, .int .i64 jb, .int .i64 je, .int .i64 jm] 31)) :=
    ((hb1.alloc hb1.size _).trans (hb2.mono (by have := hb1.size; simp; omega))).alloc (by have := hb1.size; have := hb2.size; simp at this; omega) _
  have hl1 := (Array.getElem?_eq_some_iff.1 hat1).1
  have hl2 := (Array.getElem?_eq_some_iff.1 hat2).1
  generalize w2.alloc (.cells #[.int .i64 jc, .int .i64 jf, .int .i64 jd, .int .i64 ja, .int .i64 jb, .int .i64 je, .int .i64 jm] 31) = wz at *
  clear hb1 hb2 hc2 hf2 hDA hDR
  generalize w1.heap.size = g1 at *
  generalize w2.heap.size = g2 at *
  have p0 : wz.cell? ⟨g1, 0, none⟩ = some (.int .i64 jc) := by simp [World.cell?, hat1]
  have p1 : wz.cell? ⟨g1, 1, none⟩ = some (.int .i64 jf) := by simp [World.cell?, hat1]
  have p2 : wz.cell? ⟨g1, 2, none⟩ = some (.int .i64 jd) := by simp [World.cell?, hat1]
  have p3 : wz.cell? ⟨g1, 3, none⟩ = some (.int .i64 ja) := by simp [World.cell?, hat1]
  have p4 : wz.cell? ⟨g1, 4, none⟩ = some (.int .i64 jb) := by simp [World.cell?, hat1]
  have p5 : wz.cell? ⟨g1, 5, none⟩ = some (.int .i64 je) := by simp [World.cell?, hat1]
  have p6 : wz.cell? ⟨g1, 6, none⟩ = some (.int .i32 jm) := by simp [World.cell?, hat1]
  have q0 : wz.cell? ⟨g2, 0, none⟩ = some (.int .i64 jc) := by simp [World.cell?, hat2]
  have q1 : wz.cell? ⟨g2, 1, none⟩ = some (.int .i64 jf) := by simp [World.cell?, hat2]
  have q2 : wz.cell? ⟨g2, 2, none⟩ = some (.int .i64 jd) := by simp [World.cell?, hat2]
  have q3 : wz.cell? ⟨g2, 3, none⟩ = some (.int .i64 ja) := by simp [World.cell?, hat2]
  have q4 : wz.cell? ⟨g2, 4, none⟩ = some (.int .i64 jb) := by simp [World.cell?, hat2]
  have q5 : wz.cell? ⟨g2, 5, none⟩ = some (.int .i64 je) := by simp [World.cell?, hat2]
  have q6 : wz.cell? ⟨g2, 6, none⟩ = some (.int .i64 jm) := by simp [World.cell?, hat2]
  have HB := Lib.hid hB
  clear hat1 hat2 hB
  have hF := asm_fixed
  go_region_held3 (fun w' => Kp wz w') (first | exact Kp.of (Below.refl _ _) | exact Kp.of (Below.drew (Below.refl _ _)) | assumption | exact Kp.step (by assumption) (by assumption))
    (first
      | (go_at_call 6; refine (hF _).mono ?_; rintro e' w3 ⟨rfl, hb3⟩)
      | (go_at_call 7; refine (hP _).mono ?_; rintro e' w4 ⟨rfl, hb4⟩))
  all_goals
    go_wp2
    go_ret
    refine ⟨rfl, HB.out.trans ((Kp.bel ?_).mono HB.out.size)⟩
    assumption

end Go.Proofs.Ythaooekohjmhdaa
