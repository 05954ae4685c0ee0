/- The walk of the document's Print of layer 25. No condition. -/
import Derived.Test.YthaooekohjmhdaaDoorPrnI
import Derived.Test.YthaooekohjmhdaaDoorPrnG
import Derived.Test.YthaooekohjmhdaaDoorAsmQ
set_option linter.unusedVariables false
set_option linter.unusedSimpArgs false
namespace Go.Proofs.YthaooekohjmhdaaDoor
open Go.RowKit

set_option maxHeartbeats 2000000 in
theorem ref_Print_bad (i : Ins) (v r : Int) (hr : r ≠ 0) (hE : ∀ w, Calls Tryd.prog 6 #[.agg i.cellsR] w (EncE w v r)) (w : World) :
    Calls Tryd.prog 10 #[.agg i.cellsR] w fun e w' => e = .returned (.tuple #[.string ⟨#[]⟩, .int .i64 r]) ∧ Below w.heap.size w w' := by
  have h0 : (r == 0) = false := by simpa using hr
  clear hr
  obtain ⟨c, f, d, a, b, e, m⟩ := i
  rw [cellsRE] at *
  unfold EncE at hE
  go_enter Tryd.func10, Tryd.ntmps10
  go_wp2_with (go_at_call 6; refine (hE _).mono ?_; rintro e1 w1 ⟨rfl, hb1⟩)
  go_ret2
  exact ⟨rfl, ((Below.refl _ _).alloc (Nat.le_refl _) _).trans (hb1.mono (by simp))⟩

/-- an owned row of texts: of none, or one with an address. -/
theorem own_slice' {w : World} {B : Nat} {v : Value} {ops : List ByteArray} (h : w.ownsRow B 9 1 v ops.length (ops.map Value.string)) :
    ∃ ad cap, v = .slice ad ops.length cap ∧ ∀ (j : Nat) x, ops[j]? = some x → ∃ g, ad = some ⟨g, 0, none⟩ ∧ w.cell? ⟨g, j, none⟩ = some (.string x) := by
  obtain ⟨h1, ⟨rfl, h2⟩ | ⟨g, cap, cur, rfl, hB, hg, hn, hm, hs, ht⟩⟩ := h
  · rw [h2]
    refine ⟨none, 0, rfl, fun j x hj => ?_⟩
    rw [List.length_eq_zero_iff.1 h2] at hj
    cases hj
  · refine ⟨_, _, rfl, fun j y hj => ⟨g, rfl, ?_⟩⟩
    have hj2 : (ops.map Value.string)[j]? = some (.string y) := by rw [List.getElem?_map, hj]; rfl
    rw [← ht] at hj2
    have hj3 : cur.toList[j]? = some (.string y) := by
      rw [List.getElem?_take] at hj2
      split at hj2
      · exact hj2
      · cases hj2
    rw [World.cell?, hg]
    simpa using hj3

set_option maxRecDepth 100000 in
set_option maxHeartbeats 4000000 in
theorem ref_Print_ok (i : Ins) (v : Int) (hE : ∀ w, Calls Tryd.prog 6 #[.agg i.cellsR] w (EncE w v 0))
    (s : ByteArray) (hM : ∀ w, Calls Tryd.prog 23 #[.agg i.cellsR] w (MneE w s))
    (L : List ByteArray) (hO : ∀ w, Calls Tryd.prog 24 #[.agg i.cellsR] w (OpsE w L)) (hs : s.size ≤ 160) (hL : L.length ≤ 10) (hx : ∀ x ∈ L, x.size ≤ 40) (w : World) :
    Calls Tryd.prog 10 #[.agg i.cellsR] w fun e w' => e = .returned (.tuple #[.string (refPre s L L.length), .int .i64 0]) ∧ Below w.heap.size w w' := by
  obtain ⟨c, f, d, a, b, e, m⟩ := i
  rw [cellsRE] at *
  unfold EncE at hE
  unfold MneE at hM
  unfold OpsE at hO
  go_enter Tryd.func10, Tryd.ntmps10
  go_wp2_with (first
    | (go_at_call 6; refine (hE _).mono ?_; rintro e1 w1 ⟨rfl, hb1⟩; obtain ⟨hc1, hf1⟩ := bcell hb1; have hbx1 : ∀ o, w1.cell? ⟨w.heap.size, o, none⟩ = (w.alloc (.cells #[.int .i64 c, .int .i64 f, .int .i64 d, .int .i64 a, .int .i64 b, .int .i64 e, .int .i64 m] 33)).cell? ⟨w.heap.size, o, none⟩ := fun o => hc1 _ _ (by simp))
    | (go_at_call 23; refine (hM _).mono ?_; rintro e2 w2 ⟨rfl, hb2⟩; obtain ⟨hc2, hf2⟩ := bcell hb2; have hbx2 : ∀ o, w2.cell? ⟨w.heap.size, o, none⟩ = (w.alloc (.cells #[.int .i64 c, .int .i64 f, .int .i64 d, .int .i64 a, .int .i64 b, .int .i64 e, .int .i64 m] 33)).cell? ⟨w.heap.size, o, none⟩ := fun o => (hc2 _ _ (Nat.lt_of_lt_of_le (by simp) hb1.size)).trans (hbx1 o))
    | (go_at_call 24; refine (hO _).mono ?_; rintro e3 w3 ⟨vv, rfl, hown, hb3⟩; obtain ⟨ad, cap, rfl, hcells⟩ := own_slice' hown))
  have hB3 : Below w.heap.size w w3 := ((Below.refl _ _).alloc (Nat.le_refl _) _).trans ((hb1.trans ((hb2.trans (hb3.mono hb2.size)).mono hb1.size)).mono (by simp))
  have HB3 := Lib.hid hB3
  have HCELLS := Lib.hid hcells
  have HX := Lib.hid hx
  clear hbx1 hbx2 hc1 hc2 hf1 hf2 hb1 hb2 hb3 hown hcells hE hM hO hB3 hx
  go_loop [6, 22] (fun o t => ∃ (k : Nat) (y : ByteArray), t = .int .i64 (k : Int) ∧ o = .string y ∧ k ≤ L.length ∧ Hid (y = refPre s L k) ∧ Hid (y.size ≤ 160 + 50 * k)) (fun _ t => L.length - (intOf t).toNat)
  case atStart => exact ⟨0, s, rfl, rfl, Nat.zero_le _, Lib.hid rfl, Lib.hid (by omega)⟩
  case round =>
    obtain ⟨k, y, rfl, rfl, hk, hy, hys⟩ := hrel
    by_cases hlt : k < L.length
    · have hg : L[k]? = some (L.getD k ⟨#[]⟩) := by rw [List.getD_eq_getElem?_getD, List.getElem?_eq_getElem hlt]; rfl
      obtain ⟨g, rfl, hcell⟩ := HCELLS.out k _ hg
      have hz := HX.out _ (List.mem_of_getElem? hg)
      have hsum1 : ¬ 9223372036854775807 < 1 + (L.getD k ⟨#[]⟩).size := by omega
      have hsum2 : ¬ 9223372036854775807 < 2 + (L.getD k ⟨#[]⟩).size := by omega
      have hsum3 : ¬ 9223372036854775807 < y.size + (1 + (L.getD k ⟨#[]⟩).size) := by have := hys.out; omega
      have hsum4 : ¬ 9223372036854775807 < y.size + (2 + (L.getD k ⟨#[]⟩).size) := by have := hys.out; omega
      have hst : refPre s L (k + 1) = if k = 0 then refPre s L k ++ (⟨#[32]⟩ ++ L.getD k ⟨#[]⟩) else refPre s L k ++ (⟨#[44, 32]⟩ ++ L.getD k ⟨#[]⟩) := rfl
      rw [← hy.out] at hst
      generalize L.getD k ⟨#[]⟩ = x at *
      have HST := Lib.hid hst
      have HZ := Lib.hid hz
      clear hst hz hg
      by_cases hk0 : k = 0
      · subst hk0
        go_wp2
        go_round
        case rel => exact ⟨1, _, by go_num, rfl, by omega, Lib.hid (by rw [HST.out, if_pos rfl]), Lib.hid (by rw [ByteArray.size_append, ByteArray.size_append]; have := hys.out; have := HZ.out; have : (⟨#[32]⟩ : ByteArray).size = 1 := rfl; omega)⟩
        case measure => simp only [intOf]; omega
      · have hkB : ((k : Int) == 0) = false := by simp; omega
        go_wp2
        go_round
        case rel => exact ⟨k + 1, _, by go_num, rfl, by omega, Lib.hid (by rw [HST.out, if_neg hk0]), Lib.hid (by rw [ByteArray.size_append, ByteArray.size_append]; have := hys.out; have := HZ.out; have : (⟨#[44, 32]⟩ : ByteArray).size = 2 := rfl; omega)⟩
        case measure => simp only [intOf]; omega
    · obtain rfl : k = L.length := by omega
      have HY := Lib.hid hy.out
      go_wp2
      go_ret2
      exact ⟨ret2 (v_str HY.out) rfl, HB3.out⟩

end Go.Proofs.YthaooekohjmhdaaDoor
