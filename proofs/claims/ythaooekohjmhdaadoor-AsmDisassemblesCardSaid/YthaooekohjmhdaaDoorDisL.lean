/- The walk of the law AsmDisassembles: it returns true. Conditions: the argument's size; the library's tables hold what their text lays. -/
import Derived.Test.YthaooekohjmhdaaDoorDisC
import Derived.Test.YthaooekohjmhdaaDoorDisD
set_option linter.unusedVariables false
set_option linter.unusedSimpArgs false
namespace Go.Proofs.YthaooekohjmhdaaDoor
open Go.RowKit

theorem own_words {w : World} {B g : Nat} {xs : List Nat} (h : Row w g xs) (hB : B ≤ g) (hn : xs.length * 8 ≤ 140737488355328) :
    w.ownsRow B 26 1 (.slice (some ⟨g, 0, none⟩) xs.length xs.length) xs.length (xs.map fun x => Value.int .u64 ((x : Nat) : Int)) :=
  ⟨by simp, Or.inr ⟨g, xs.length, wcells xs, rfl, hB, h, Nat.le_refl _, by unfold maxLen; omega, by simp [wcells], by rw [Nat.mul_one]; show List.take xs.length (xs.map fun x => Value.int .u64 ((x : Nat) : Int)) = _; exact List.take_of_length_le (by simp)⟩⟩

theorem own_cells {w : World} {B : Nat} {v : Value} {xs ys : List Nat} (h : w.ownsRow B 26 1 v (xs.length + 5) ((xs.map fun x => Value.int .u64 ((x : Nat) : Int)) ++ (ys.map fun x => Value.int .u64 ((x : Nat) : Int)))) (hy : ys.length = 5) :
    ∃ g cap, v = .slice (some ⟨g, 0, none⟩) (xs.length + 5) cap ∧ g < w.heap.size ∧ B ≤ g ∧ xs.length + 5 ≤ cap ∧ cap ≤ maxLen ∧
      (∀ j, j < xs.length → w.cell? ⟨g, 0 + j, none⟩ = some (.int .u64 ((xs.getD j 0 : Nat) : Int))) ∧ (∀ j, j < ys.length → w.cell? ⟨g, xs.length + j, none⟩ = some (.int .u64 ((ys.getD j 0 : Nat) : Int))) := by
  obtain ⟨h1, ⟨rfl, h2⟩ | ⟨g, cap, cur, rfl, hB, hg, hn, hm, hs, ht⟩⟩ := h
  · omega
  · have hcell : ∀ j u, ((xs.map fun x => Value.int .u64 ((x : Nat) : Int)) ++ (ys.map fun x => Value.int .u64 ((x : Nat) : Int)))[j]? = some u → w.cell? ⟨g, j, none⟩ = some u := fun j u hj => by
      rw [← ht] at hj
      have hj3 : cur.toList[j]? = some u := by
        rw [List.getElem?_take] at hj
        split at hj
        · exact hj
        · cases hj
      rw [World.cell?, hg]
      simpa using hj3
    refine ⟨g, cap, rfl, (Array.getElem?_eq_some_iff.1 hg).1, hB, hn, hm, fun j hj => ?_, fun j hj => ?_⟩
    · rw [Nat.zero_add]
      refine hcell j _ ?_
      rw [List.getElem?_append_left (by simpa using hj), List.getElem?_map, List.getElem?_eq_getElem hj, List.getD_eq_getElem?_getD, List.getElem?_eq_getElem hj]
      rfl
    · refine hcell (xs.length + j) _ ?_
      rw [List.getElem?_append_right (by simp), List.length_map, Nat.add_sub_cancel_left, List.getElem?_map, List.getElem?_eq_getElem hj, List.getD_eq_getElem?_getD, List.getElem?_eq_getElem hj]
      rfl

theorem Nw.drewS {w : World} {A : Option Addr} {xs : List Nat} (h : Nw w w.heap.size A xs) (n : Nat) : Nw (w.drewN n) (w.drewN n).heap.size A xs := h

def marks : List Nat := [91, 92, 93, 94, 95]

set_option maxRecDepth 100000 in
set_option maxHeartbeats 600000 in
theorem law_AsmDisassembles (w : World) (A : Option Addr) (c : Nat) (xs : List Nat) (hx : Nw w w.heap.size A xs) (hw : ∀ x ∈ xs, x < 18446744073709551616) (hn : (xs.length + 5) * 8 ≤ 140737488355328) (ht : Tb w) :
    Calls Tryd.prog 4 #[.slice A xs.length c] w fun e w' => e = .returned (.bool true) ∧ Below w.heap.size w w' := by
  obtain ⟨J, R, S, H⟩ := word_all
  have hDA := fun w A c hx ht => asm_Dis J R S H w A c xs hx hw (by omega) ht
  have hDR := fun w A c hx => ref_Dis J R S H w A c xs hx hw (by omega)
  have hF := asm_fixed
  generalize disR R S xs = D at *
  obtain ⟨s, r⟩ := D
  simp only at hDA hDR
  have HX := Lib.hid hx
  have HT := Lib.hid ht
  clear hx ht hw H
  have hn8 : xs.length * 8 ≤ 140737488355328 := by omega
  have hxl : (xs.length : Int) ≤ 9223372036854775000 := by omega
  have hm1 : Row (w.alloc (.cells (wcells marks) 26)) w.heap.size marks := Row.new w marks
  have hb1 : Below w.heap.size w (w.alloc (.cells (wcells marks) 26)) := (Below.refl _ _).alloc (Nat.le_refl _) _
  have hmk : (#[.int .u64 91, .int .u64 92, .int .u64 93, .int .u64 94, .int .u64 95] : Array Value) = wcells marks := rfl
  obtain ⟨i0, hi, hz0, hz1, hz2⟩ := info_parts u64info
  go_enter Tryd.func4, Tryd.ntmps4
  go_upto_region 2 with fail
  generalize w.alloc (.cells (wcells marks) 26) = w1 at *
  have HX1 : Nw w1 w1.heap.size A xs := (HX.out.below hb1).more hb1.size
  have HB1 := Lib.hid hb1
  have HM1 := Lib.hid hm1
  clear hmk hb1 hm1
  go_wp2_with (first
    | (go_at_call 11; refine (law_copied _ _ _ _ HX1 hn8).mono ?_; rintro e1 w2 ⟨rfl, hb2, hr2⟩; have hM2 : Row w2 w.heap.size marks := HM1.out.below hb2 HM1.out.lt)
    | (at_builtin; refine wpList_append_own _ rfl _ _ 41 rfl w1.heap.size 26 i0 (.int .u64 0) 1 8 Tryd.underlying41 hi hz0 hz1 hz2 rfl (by decide) _ _ _ rfl (own_words hr2 (Nat.le_refl _) hn8) ⟨w.heap.size, 0, none⟩ 5 5 (marks.map fun x => Value.int .u64 ((x : Nat) : Int)) rfl rfl ?c1 ?c2 ?c3 ?c4 ?c5 ?_))
  case c1 =>
    intro j u hj
    have hj5 : j < marks.length := by
      have := (List.getElem?_eq_some_iff.1 hj).1
      simpa using this
    have := hM2.cell hj5
    rw [List.getElem?_map, List.getElem?_eq_getElem hj5] at hj
    simp only [Option.map_some, Option.some.injEq] at hj
    subst hj
    rw [List.getD_eq_getElem?_getD, List.getElem?_eq_getElem hj5] at this
    have e : (⟨w.heap.size, 0, none⟩ : Addr).add j = ⟨w.heap.size, j, none⟩ := by unfold Addr.add; split <;> simp_all
    rw [e]
    simpa using this
  case c2 => intro u hu; simp [marks] at hu; rcases hu with rfl | rfl | rfl | rfl | rfl <;> rfl
  case c3 => unfold maxLen; omega
  case c4 => omega
  case c5 => exact hb2.size
  intro v' w3 hown' hgrow _
  obtain ⟨g, cap, rfl, hg3, hgB, hcap, hcapm, hcx, hcm⟩ := own_cells hown' rfl
  have hb3 : Below w1.heap.size w1 w3 := hb2.grown hgrow hb2.size (fun k hk => by simp [Value.ownBlock] at hk; omega)
  have hM3 : Row w3 w.heap.size marks := HM1.out.below hb3 HM1.out.lt
  have HA3 : Nw w3 w3.heap.size (some ⟨g, 0, none⟩) xs := fun _ => ⟨g, 0, rfl, hg3, hcx⟩
  have HB3 : Nw w3 w3.heap.size (some ⟨g, xs.length, none⟩) marks := fun _ => ⟨g, xs.length, rfl, hg3, hcm⟩
  have HX3 : Nw w3 w3.heap.size A xs := (HX1.below hb3).more hb3.size
  have HT3 : Tb w3 := (HT.out.step HB1.out).step hb3
  have hcapI : ((xs.length : Nat) : Int) ≤ (cap : Int) := by omega
  have hcapI2 : ((xs.length + 5 : Nat) : Int) ≤ (cap : Int) := by omega
  have h5 : xs.length + 5 - xs.length = 5 := by omega
  have HMm : Nw w3 w3.heap.size (some ⟨w.heap.size, 0, none⟩) marks := hM3.nw hM3.lt
  have HALL := Lib.hid (And.intro HA3 (And.intro HB3 (And.intro HX3 (And.intro HT3 (And.intro HMm hb3)))))
  clear HA3 HB3 HX3 HT3 HMm hb3 hM3 hcx hcm hown' hgrow hM2 hr2 hb2 HX1 hcap
  unfold maxLen at hcapm
  go_upto_region 5 with (first
    | (go_at_call 12; refine (hDA _ _ _ HALL.out.1 HALL.out.2.2.2.1).mono ?_; rintro e4 w4 ⟨rfl, hb4⟩)
    | (go_at_call 13; refine (hDR _ _ _ ((HALL.out.2.2.1.below hb4).more hb4.size)).mono ?_; rintro e5 w5 ⟨rfl, hb5⟩; have hb35 : Below w3.heap.size w3 w5 := hb4.trans (hb5.mono hb4.size)))
  clear hDA hDR
  have hsm : ∀ W, Nw W W.heap.size (some ⟨g, xs.length, none⟩) marks → Nw W W.heap.size (some ⟨w.heap.size, 0, none⟩) marks → Calls Tryd.prog 14 #[.slice (some ⟨g, xs.length, none⟩) 5 (cap - xs.length), .slice (some ⟨w.heap.size, 0, none⟩) 5 5] W fun e w' => e = .returned (.bool true) ∧ ∃ n, w' = W.drewN n := fun W h1 h2 => law_same W _ _ _ _ marks h1 h2 (by decide)
  go_wp2_with (first
    | (go_at_call 8; refine (hF _).mono ?_; rintro e6 w6 ⟨rfl, hb6⟩; have hb36 : Below w3.heap.size w3 w6 := hb35.trans (hb6.mono hb35.size))
    | (go_at_call_of 14 (Value.slice A xs.length c); refine (law_same _ _ _ _ _ xs ((HALL.out.1.below hb36).more hb36.size) ((HALL.out.2.2.1.below hb36).more hb36.size) hn8).mono ?_; rintro e7 w7 ⟨rfl, n7, rfl⟩)
    | (go_at_call_of 14 (Value.slice (some ⟨w.heap.size, 0, none⟩) 5 5); refine (hsm _ (((HALL.out.2.1.below hb36).more hb36.size).drewS n7) (((HALL.out.2.2.2.2.1.below hb36).more hb36.size).drewS n7)).mono ?_; rintro e8 w8 ⟨rfl, n8, rfl⟩))
  go_ret
  exact ⟨rfl, below_drewN (HB1.out.trans ((HALL.out.2.2.2.2.2.trans (hb36.mono HALL.out.2.2.2.2.2.size)).mono HB1.out.size)) _⟩

end Go.Proofs.YthaooekohjmhdaaDoor
