/- Walks of the document's answer for layer 25: Encode. No condition. -/
import Derived.Test.YthaooekohjmhdaaDoorAsmR
set_option linter.unusedVariables false
set_option linter.unusedSimpArgs false
namespace Go.Proofs.YthaooekohjmhdaaDoor
open Go.RowKit

theorem cellsRE (c f d a b e m : Int) : (Ins.mk c f d a b e m).cellsR = #[.int .i64 c, .int .i64 f, .int .i64 d, .int .i64 a, .int .i64 b, .int .i64 e, .int .i64 m] := rfl

def EncE (w : World) (v r : Int) (e : Ending) (w' : World) : Prop := e = .returned (.tuple #[.int .u64 v, .int .i64 r]) ∧ Below w.heap.size w w'

set_option maxHeartbeats 1000000 in
theorem ref_Encode_none (i : Ins) (h : (hasF i).2 = false) (w : World) :
    Calls Tryd.prog 6 #[.agg i.cellsR] w (EncE w 0 250) := by
  have hh := ref_Has i
  generalize hasF i = x at *
  obtain ⟨⟨hd, ha, hb, he, hl, hm⟩, ok⟩ := x
  obtain ⟨c, f, d, a, b, e, m⟩ := i
  rw [cellsRE] at *
  simp only at h
  subst h
  go_enter Tryd.func6, Tryd.ntmps6
  go_wp2_with (go_at_call 16; refine (hh _).mono ?_; rintro e' w1 ⟨rfl, hb1⟩; simp only [Fld.cells])
  go_ret2
  exact ⟨rfl, (((Below.refl _ _).alloc (Nat.le_refl _) _).trans (hb1.mono (by simp))).alloc (Nat.le_trans (by simp) hb1.size) _⟩

set_option maxHeartbeats 1000000 in
theorem ref_Encode_good (i : Ins) (hi : i.In) (m1 : -2147483648 ≤ i.m) (m2 : i.m ≤ 2147483647) (h : (hasF i).2 = true) (hin : inF i (hasF i).1 = true) (w : World) :
    Calls Tryd.prog 6 #[.agg i.cellsR] w (EncE w (wordOf i) 0) := by
  have hh := ref_Has i
  generalize hasF i = x at *
  obtain ⟨⟨hd, ha, hb, he, hl, hm⟩, ok⟩ := x
  obtain ⟨c, f, d, a, b, e, m⟩ := i
  obtain ⟨c1, c2, f1, f2, d1, d2, a1, a2, b1, b2, e1, e2⟩ := hi
  simp only [inF, Bool.and_eq_true, Bool.or_eq_true, decide_eq_true_eq] at h hin c1 c2 f1 f2 d1 d2 a1 a2 b1 b2 e1 e2 m1 m2
  rw [cellsRE] at *
  subst h
  obtain ⟨⟨⟨⟨⟨⟨⟨⟨⟨⟨k1, k2⟩, k3⟩, k4⟩, k5⟩, k6⟩, k7⟩, k8⟩, k9⟩, k10⟩, k11⟩ := hin
  have hw := ref_within
  have z1 : ¬ (m < hl) := by omega
  have z2 : ¬ (hm < m) := by omega
  rcases k9 with rfl | rfl
  all_goals
    go_enter Tryd.func6, Tryd.ntmps6
    go_wp2_with (first
      | (go_at_call 16; refine (hh _).mono ?_; rintro e' w1 ⟨rfl, hb1⟩; obtain ⟨hc1, hf1⟩ := bcell hb1; have hsz := hb1.size; simp at hsz; have hq : ∀ o k, (w1.alloc o).cell? ⟨w.heap.size, k, none⟩ = (w.alloc _).cell? ⟨w.heap.size, k, none⟩ := (fun o k => (World.cell?_of_block (w := w1) (by rw [heap_alloc, if_neg (by show ¬ w.heap.size = _; omega)])).trans (hc1 _ _ (by simp))); simp only [Fld.cells])
      | (go_at_call 17; refine (hw _ _ _).mono ?_; rintro e' w' ⟨rfl, rfl⟩))
  all_goals
    go_ret2
    refine ⟨ret2 (v_int ?_) rfl, (((Below.refl _ _).alloc (Nat.le_refl _) _).trans (hb1.mono (by simp))).alloc (Nat.le_trans (by simp) hb1.size) _⟩
    simp only [wordOf]
    omega

/-- is x one of so many numbers. -/
def wi (x n : Int) : Bool := decide (0 ≤ x) && decide (x < n)

set_option maxHeartbeats 4000000 in
theorem ref_Encode_out (i : Ins) (h : (hasF i).2 = true) (hin : inF i (hasF i).1 = false) (w : World) :
    Calls Tryd.prog 6 #[.agg i.cellsR] w (EncE w 0 7) := by
  have hh := ref_Has i
  generalize hasF i = x at *
  obtain ⟨⟨hd, ha, hb, he, hl, hm⟩, ok⟩ := x
  obtain ⟨c, f, d, a, b, e, m⟩ := i
  rw [cellsRE] at *
  simp only at h
  subst h
  have hw : ∀ x n w, Calls Tryd.prog 17 #[.int .i64 x, .int .i64 n] w fun e w' => e = .returned (.bool (wi x n)) ∧ w = w' := ref_within
  have hc : wi d hd = false ∨ (wi d hd = true ∧ wi a ha = false) ∨ (wi d hd = true ∧ wi a ha = true ∧ wi b hb = false) ∨ (wi d hd = true ∧ wi a ha = true ∧ wi b hb = true ∧ wi e he = false) ∨
      (wi d hd = true ∧ wi a ha = true ∧ wi b hb = true ∧ wi e he = true ∧ (c == 1) = false ∧ (f == 0) = false) ∨
      (wi d hd = true ∧ wi a ha = true ∧ wi b hb = true ∧ wi e he = true ∧ (c == 1) = true ∧ decide (m < hl) = true) ∨
      (wi d hd = true ∧ wi a ha = true ∧ wi b hb = true ∧ wi e he = true ∧ (c == 1) = false ∧ (f == 0) = true ∧ decide (m < hl) = true) ∨
      (wi d hd = true ∧ wi a ha = true ∧ wi b hb = true ∧ wi e he = true ∧ (c == 1) = true ∧ decide (m < hl) = false ∧ decide (hm < m) = true) ∨
      (wi d hd = true ∧ wi a ha = true ∧ wi b hb = true ∧ wi e he = true ∧ (c == 1) = false ∧ (f == 0) = true ∧ decide (m < hl) = false ∧ decide (hm < m) = true) := by
    simp only [inF, wi] at *
    by_cases p1 : 0 ≤ d <;> by_cases p2 : d < hd <;> by_cases p3 : 0 ≤ a <;> by_cases p4 : a < ha <;> by_cases p5 : 0 ≤ b <;> by_cases p6 : b < hb <;> by_cases p7 : 0 ≤ e <;> by_cases p8 : e < he <;>
      simp_all <;> (by_cases p9 : c = 1 <;> by_cases p10 : f = 0 <;> by_cases p11 : m < hl <;> by_cases p12 : hm < m <;> simp_all <;> omega)
  clear hin
  rcases hc with k | ⟨k1, k⟩ | ⟨k1, k2, k⟩ | ⟨k1, k2, k3, k⟩ | ⟨k1, k2, k3, k4, k5, k⟩ | ⟨k1, k2, k3, k4, k5, k⟩ | ⟨k1, k2, k3, k4, k5, k6, k⟩ | ⟨k1, k2, k3, k4, k5, k6, k⟩ | ⟨k1, k2, k3, k4, k5, k6, k7, k⟩
  all_goals
    go_enter Tryd.func6, Tryd.ntmps6
    go_wp2_with (first
      | (go_at_call 16; refine (hh _).mono ?_; rintro e' w1 ⟨rfl, hb1⟩; obtain ⟨hc1, hf1⟩ := bcell hb1; have hsz := hb1.size; simp at hsz; have hq : ∀ o k, (w1.alloc o).cell? ⟨w.heap.size, k, none⟩ = (w.alloc _).cell? ⟨w.heap.size, k, none⟩ := (fun o k => (World.cell?_of_block (w := w1) (by rw [heap_alloc, if_neg (by show ¬ w.heap.size = _; omega)])).trans (hc1 _ _ (by simp))); simp only [Fld.cells])
      | (go_at_call 17; refine (hw _ _ _).mono ?_; rintro e' w' ⟨rfl, rfl⟩))
    all_goals first
      | (exfalso; omega)
      | (exfalso; simp_all; done)
      | (go_ret2; exact ⟨rfl, (((Below.refl _ _).alloc (Nat.le_refl _) _).trans (hb1.mono (by simp))).alloc (Nat.le_trans (by simp) hb1.size) _⟩)

end Go.Proofs.YthaooekohjmhdaaDoor
