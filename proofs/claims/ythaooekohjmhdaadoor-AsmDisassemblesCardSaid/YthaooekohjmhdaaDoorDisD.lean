/- Walks of layer 25's Disassemble, the document's. Condition: the library's tables hold what their text lays. -/
import Derived.Test.YthaooekohjmhdaaDoorDisB
set_option linter.unusedVariables false
set_option linter.unusedSimpArgs false
namespace Go.Proofs.YthaooekohjmhdaaDoor
open Go.RowKit

set_option maxRecDepth 100000 in
set_option maxHeartbeats 400000 in
theorem ref_Dis (J : Nat → Ins) (R : Nat → Int) (S : Nat → ByteArray) (H : ∀ wv, wv < 18446744073709551616 → WordP wv (J wv) (R wv) (S wv))
    (w : World) (A : Option Addr) (c : Nat) (xs : List Nat) (hx : Nw w w.heap.size A xs) (hw : ∀ x ∈ xs, x < 18446744073709551616) (hn : xs.length * 8 ≤ 140737488355328) :
    Calls Tryd.prog 13 #[.slice A xs.length c] w fun e w' => e = .returned (.tuple #[.string (disR R S xs).1, .int .i64 (disR R S xs).2]) ∧ Below w.heap.size w w' := by
  by_cases hlen : 1024 < xs.length
  · have hd : disR R S xs = (⟨#[]⟩, 5) := by unfold disR; rw [if_pos hlen]
    rw [hd]
    clear hd hx hw H
    have hl1 : (1024 : Int) < (xs.length : Int) := by omega
    go_enter Tryd.func13, Tryd.ntmps13
    go_wp2
    go_ret2
    exact ⟨rfl, Below.refl _ _⟩
  · have hl1 : ¬ (1024 : Int) < (xs.length : Int) := by omega
    have HX := Lib.hid hx
    have HW := Lib.hid hw
    have HS := Lib.hid (fun x hxm => (H x (hw x hxm)).sz : ∀ x ∈ xs, (S x).size ≤ 400)
    have HH := Lib.hid H
    have hn1024 : xs.length ≤ 1024 := by omega
    have HD0 := Lib.hid (show xs.all (fun x => decide (R x = 0)) = true → disR R S xs = (B (txt S xs xs.length), 0) from fun h => by unfold disR; rw [if_neg hlen, if_pos h])
    have HD1 := Lib.hid (show xs.all (fun x => decide (R x = 0)) = false → disR R S xs = (⟨#[]⟩, 250) from fun h => by unfold disR; rw [if_neg hlen, if_neg (by rw [h]; simp)])
    clear hx hw H hlen hn
    generalize hdr : disR R S xs = D at *
    clear hdr
    obtain ⟨D1, D2⟩ := D
    simp only
    go_enter Tryd.func13, Tryd.ntmps13
    go_wp2
    go_loopw [4, 16] (fun o t wr => ∃ (k : Nat) (y : ByteArray), t = .int .i64 (k : Int) ∧ o = .string y ∧ k ≤ xs.length ∧ Hid (∀ j, j < k → R (xs.getD j 0) = 0) ∧ Hid (y = B (txt S xs k)) ∧ Hid (Below w.heap.size w wr)) (fun _ t _ => xs.length - (intOf t).toNat)
    case atStart => exact ⟨0, _, rfl, rfl, Nat.zero_le _, Lib.hid (fun j hj => by omega), Lib.hid rfl, Lib.hid (Below.refl _ _)⟩
    case round =>
      obtain ⟨k, y, rfl, rfl, hk, hz, hy, hb⟩ := hrel
      by_cases hlt : k < xs.length
      · obtain ⟨b, o, rfl, hbB, hc⟩ := (HX.out.below hb.out).at_ hlt
        have hm : xs.getD k 0 ∈ xs := by
          rw [List.getD_eq_getElem?_getD, List.getElem?_eq_getElem hlt]
          exact List.getElem_mem _
        have hP := HH.out _ (HW.out _ hm)
        have HTX := Lib.hid (txt_succ S xs k hlt)
        have hT := txt_len S xs HS.out k hk
        have hys : y.size ≤ 401 * k := by rw [hy.out, B_size]; exact hT
        have HNOT := Lib.hid (fun h => all_not (R := R) hlt h)
        have HSTEP := Lib.hid (show R (xs.getD k 0) = 0 → ∀ j, j < k + 1 → R (xs.getD j 0) = 0 from fun h j hj => by
          rcases Nat.lt_or_ge j k with h' | h'
          · exact hz.out j h'
          · rw [show j = k by omega]; exact h)
        generalize xs.getD k 0 = x at *
        have r01 := hP.r01
        have ssz := hP.sz
        have dR := hP.dR
        have pR := hP.pR
        clear hP hT
        by_cases hr : R x = 0
        · have HS2 := Lib.hid (HSTEP.out hr)
          rw [hr] at dR
          clear r01 HSTEP HNOT hr
          generalize J x = j at *
          obtain ⟨jc, jf, jd, ja, jb, je, jm⟩ := j
          rw [cellsRE] at dR pR
          generalize chk ⟨jc, jf, jd, ja, jb, je, jm⟩ = kk at *
          have hsum : ¬ 9223372036854775807 < (S x).size + 1 := by omega
          have hsum2 : ¬ 9223372036854775807 < y.size + ((S x).size + 1) := by omega
          clear hys ssz
          generalize S x = s at *
          go_wp2_with (first
            | (go_at_call 28; refine (dR _).mono ?_; rintro e1 w1 ⟨rfl, hb1⟩)
            | (go_at_call 10; refine (pR _).mono ?_; rintro e2 w2 ⟨rfl, hb2⟩; have hbw2 : Below wr.heap.size wr w2 := (hb1.alloc hb1.size _).trans (hb2.mono (by have := hb1.size; simp; omega))))
          go_roundw
          case rel => exact ⟨k + 1, _, by go_num, rfl, by omega, HS2, Lib.hid (by rw [HTX.out, hy.out]; exact B_ext (by simp only [append_list, B_data])), Lib.hid (hb.out.trans (hbw2.mono hb.out.size))⟩
          case measure => simp only [intOf]; omega
        · have hr2 : R x = 250 := by omega
          have hd := HD1.out (HNOT.out hr)
          simp only [Prod.mk.injEq] at hd
          obtain ⟨rfl, rfl⟩ := hd
          rw [hr2] at dR
          clear r01 HSTEP HNOT hr hr2 hys ssz pR HTX
          generalize J x = j at *
          obtain ⟨jc, jf, jd, ja, jb, je, jm⟩ := j
          rw [cellsRE] at dR
          go_wp2_with (go_at_call 28; refine (dR _).mono ?_; rintro e1 w1 ⟨rfl, hb1⟩)
          go_ret2
          exact ⟨rfl, (hb.out.trans (hb1.mono hb.out.size)).alloc (Nat.le_trans hb.out.size hb1.size) _⟩
      · obtain rfl : k = xs.length := by omega
        have hd := HD0.out (all_yes hz.out)
        simp only [Prod.mk.injEq] at hd
        obtain ⟨rfl, rfl⟩ := hd
        go_wp2
        go_ret2
        exact ⟨ret2 (v_str hy.out) rfl, hb.out⟩

end Go.Proofs.YthaooekohjmhdaaDoor
