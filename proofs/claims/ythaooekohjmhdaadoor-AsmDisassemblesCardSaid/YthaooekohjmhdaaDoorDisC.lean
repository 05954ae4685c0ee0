/- Walks of layer 25's Disassemble, the program's. Condition: the library's tables hold what their text lays. -/
import Derived.Test.YthaooekohjmhdaaDoorDisB
set_option linter.unusedVariables false
set_option linter.unusedSimpArgs false
namespace Go.Proofs.YthaooekohjmhdaaDoor
open Go.RowKit

set_option maxRecDepth 100000 in
set_option maxHeartbeats 400000 in
theorem asm_Dis (J : Nat → Ins) (R : Nat → Int) (S : Nat → ByteArray) (H : ∀ wv, wv < 18446744073709551616 → WordP wv (J wv) (R wv) (S wv))
    (w : World) (A : Option Addr) (c : Nat) (xs : List Nat) (hx : Nw w w.heap.size A xs) (hw : ∀ x ∈ xs, x < 18446744073709551616) (hn : xs.length * 8 ≤ 140737488355328) (ht : Tb w) :
    Calls Tryd.prog 12 #[.slice A xs.length c] w fun e w' => e = .returned (.tuple #[.string (disR R S xs).1, .int .i64 (disR R S xs).2]) ∧ Below w.heap.size w w' := by
  by_cases hlen : 1024 < xs.length
  · have hd : disR R S xs = (⟨#[]⟩, 5) := by unfold disR; rw [if_pos hlen]
    rw [hd]
    clear hd ht hx hw H
    have hl1 : (1024 : Int) < (xs.length : Int) := by omega
    go_enter Tryd.func12, Tryd.ntmps12
    go_wp2
    go_ret2
    exact ⟨rfl, Below.refl _ _⟩
  · have hl1 : ¬ (1024 : Int) < (xs.length : Int) := by omega
    have HX := Lib.hid hx
    have HW := Lib.hid hw
    have HT := Lib.hid ht
    have HS := Lib.hid (fun x hxm => (H x (hw x hxm)).sz : ∀ x ∈ xs, (S x).size ≤ 400)
    have HH := Lib.hid H
    have hn1024 : xs.length ≤ 1024 := by omega
    have HD0 := Lib.hid (show xs.all (fun x => decide (R x = 0)) = true → disR R S xs = (B (txt S xs xs.length), 0) from fun h => by unfold disR; rw [if_neg hlen, if_pos h])
    have HD1 := Lib.hid (show xs.all (fun x => decide (R x = 0)) = false → disR R S xs = (⟨#[]⟩, 250) from fun h => by unfold disR; rw [if_neg hlen, if_neg (by rw [h]; simp)])
    clear hx hw ht H hlen hn
    generalize hdr : disR R S xs = D at *
    clear hdr
    obtain ⟨D1, D2⟩ := D
    simp only
    have hb0 : Below w.heap.size w (w.alloc (.cells #[.pointer none, .slice none 0 0] 66)) := (Below.refl _ _).alloc (Nat.le_refl _) _
    have hB0 := Lib.fresh_isBuilder 66 5 w
    go_enter Tryd.func12, Tryd.ntmps12
    go_wp2
    go_loopw [16] (fun t wr => ∃ k : Nat, t = .int .i64 (k : Int) ∧ k ≤ xs.length ∧ Hid (∀ j, j < k → R (xs.getD j 0) = 0) ∧ Hid (Lib.IsBuilder 66 5 w.heap.size w.heap.size (Lib.byteCells (txt S xs k)) wr) ∧ Hid (Below w.heap.size w wr)) (fun t _ => xs.length - (intOf t).toNat)
    case atStart => exact ⟨0, rfl, Nat.zero_le _, Lib.hid (fun j hj => by omega), Lib.hid hB0, Lib.hid hb0⟩
    case round =>
      obtain ⟨k, rfl, hk, hz, hB, hb⟩ := hrel
      clear hb0 hB0
      by_cases hlt : k < xs.length
      · obtain ⟨b, o, rfl, hbB, hc⟩ := (HX.out.below hb.out).at_ hlt
        have hm : xs.getD k 0 ∈ xs := by
          rw [List.getD_eq_getElem?_getD, List.getElem?_eq_getElem hlt]
          exact List.getElem_mem _
        have hP := HH.out _ (HW.out _ hm)
        have HTX := Lib.hid (strCells_txt S xs k hlt)
        have hT := txt_len S xs HS.out k hk
        have HNOT := Lib.hid (fun h => all_not (R := R) hlt h)
        have HSTEP := Lib.hid (show R (xs.getD k 0) = 0 → ∀ j, j < k + 1 → R (xs.getD j 0) = 0 from fun h j hj => by
          rcases Nat.lt_or_ge j k with h' | h'
          · exact hz.out j h'
          · rw [show j = k by omega]; exact h)
        generalize xs.getD k 0 = x at *
        have r01 := hP.r01
        have ssz := hP.sz
        have dA := hP.dA
        have pA := hP.pA
        clear hP
        by_cases hr : R x = 0
        · have HS2 := Lib.hid (HSTEP.out hr)
          rw [hr] at dA
          clear r01 HSTEP HNOT hr
          generalize J x = j at *
          obtain ⟨jc, jf, jd, ja, jb, je, jm⟩ := j
          rw [cellsE] at dA pA
          generalize chk ⟨jc, jf, jd, ja, jb, je, jm⟩ = kk at *
          have hsum : ¬ 9223372036854775807 < (S x).size + 1 := by omega
          have HSZ := Lib.hid (show (Lib.byteCells (txt S xs k)).length + (S x ++ ⟨#[10]⟩).size ≤ 140737488355328 by
            rw [Lib.byteCells_length, ByteArray.size_append]
            have h1 : (⟨#[10]⟩ : ByteArray).size = 1 := rfl
            omega)
          clear hT ssz
          generalize S x = s at *
          generalize hss : s ++ (⟨#[10]⟩ : ByteArray) = s10 at *
          have hws : ∀ W, Lib.IsBuilder 66 5 w.heap.size w.heap.size (Lib.byteCells (txt S xs k)) W → w.heap.size ≤ W.heap.size → Calls Tryd.prog 26 #[.pointer (some ⟨w.heap.size, 0, none⟩), .string s10] W fun e w' => e = .returned (.tuple #[.int .i64 s10.size, .nilIface]) ∧ (Lib.BuilderAt 66 5 w.heap.size w.heap.size (.pointer (some ⟨w.heap.size, 0, none⟩)) (Lib.byteCells (txt S xs k) ++ Lib.strCells s10) w' ∧ Below w.heap.size W w') := fun W h1 h2 => sb_WriteString w.heap.size w.heap.size (Lib.byteCells (txt S xs k)) s10 W h1 HSZ.out h2
          generalize Lib.byteCells (txt S xs k) ++ Lib.strCells s10 = bs10 at *
          go_wp2_with (first
            | (go_at_call 25; refine (dA _).mono ?_; rintro e1 w1 ⟨rfl, hb1⟩)
            | (go_at_call 9; (refine (pA _ ?htb).mono ?_; (case htb => exact HT.out.step ((hb.out.trans (hb1.mono hb.out.size)).alloc (Nat.le_trans hb.out.size hb1.size) _)); rintro e2 w2 ⟨rfl, hb2⟩; have hbw2 : Below wr.heap.size wr w2 := (hb1.alloc hb1.size _).trans (hb2.mono (Nat.le_trans hb1.size (by simp)))))
            | (go_at_call 26; refine (hws w2 (isBuilder_below hB.out hbw2) (Nat.le_trans hb.out.size hbw2.size)).mono ?_; rintro e3 w3 ⟨rfl, hB3, hb3⟩))
          go_roundw
          case rel => exact ⟨k + 1, by go_num, by omega, HS2, Lib.hid (Or.inr (by rw [HTX.out]; exact hB3)), Lib.hid ((hb.out.trans (hbw2.mono hb.out.size)).trans hb3)⟩
          case measure => simp only [intOf]; omega
        · have hr2 : R x = 250 := by omega
          have hd := HD1.out (HNOT.out hr)
          simp only [Prod.mk.injEq] at hd
          obtain ⟨rfl, rfl⟩ := hd
          rw [hr2] at dA
          clear r01 HSTEP HNOT hr hr2 hT ssz pA HTX
          generalize J x = j at *
          obtain ⟨jc, jf, jd, ja, jb, je, jm⟩ := j
          rw [cellsE] at dA
          go_wp2_with (go_at_call 25; refine (dA _).mono ?_; rintro e1 w1 ⟨rfl, hb1⟩)
          go_ret2
          exact ⟨rfl, (hb.out.trans (hb1.mono hb.out.size)).alloc (Nat.le_trans hb.out.size hb1.size) _⟩
      · obtain rfl : k = xs.length := by omega
        have hd := HD0.out (all_yes hz.out)
        simp only [Prod.mk.injEq] at hd
        obtain ⟨rfl, rfl⟩ := hd
        have hst := Tryd.Builder_String_any w.heap.size w.heap.size (txt S xs xs.length) wr hB.out hb.out.size
        go_wp2_with (go_at_call 27; refine hst.mono ?_; rintro e w' ⟨rfl, hw'⟩)
        go_ret2
        exact ⟨rfl, hb.out.trans hw'⟩

end Go.Proofs.YthaooekohjmhdaaDoor
