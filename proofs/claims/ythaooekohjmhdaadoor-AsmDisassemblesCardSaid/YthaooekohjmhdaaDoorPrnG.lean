/- The walk of the document's Mnemonic of layer 25 at the unit's operations. No condition. -/
import Derived.Test.YthaooekohjmhdaaDoorPrnF
set_option linter.unusedVariables false
set_option linter.unusedSimpArgs false
namespace Go.Proofs.YthaooekohjmhdaaDoor
open Go.RowKit

set_option maxHeartbeats 8000000 in
theorem ref_Mnemonic_unit (f d a b e m : Int) (hm0 : 1 ≤ m) (hm1 : m < 23) (hf0 : 0 ≤ f) (hf1 : f < 4) (he : m = 10 ∨ m = 11 ∨ m = 12 → 0 ≤ e ∧ e < 4) (w : World) :
    Calls Tryd.prog 23 #[.agg (Ins.mk 1 f d a b e m).cellsR] w (MneE w (mnemR ⟨1, f, d, a, b, e, m⟩)) := by
  obtain ⟨M, rfl⟩ : ∃ M : Nat, m = (M : Int) := ⟨m.toNat, by omega⟩
  have hMM : M < 23 := by omega
  have hlt23 : ((M : Nat) : Int) < 23 := by omega
  have HO := Lib.hid fun (w' : World) g h => ops_reads (w' := w') (g := g) h M hMM
  have HN := Lib.hid (show nth unitN (M : Int) = (opAt M).1 from by
    have : ∀ k : Fin 23, 1 ≤ k.val → nth unitN ((k.val : Nat) : Int) = (opAt k.val).1 := by decide
    exact this ⟨M, hMM⟩ (by show 1 ≤ M; omega))
  have hnz := nth_size' unitN 10 (by decide) (M : Int)
  rw [HN.out] at hnz
  generalize opAt M = O at *
  obtain ⟨nm, OB, OC⟩ := O
  have HN := Lib.hid (show nth unitN (M : Int) = nm from HN.out)
  simp only at hnz
  have HE := Lib.hid he
  have HM := Lib.hid (And.intro hm0 hm1)
  have HF := Lib.hid (And.intro hf0 hf1)
  clear hm0 hm1 he
  unfold Ins.cellsR
  go_enter Tryd.func23, Tryd.ntmps23
  go_upto_region 6 with fail
  go_cut [4] from 24 to 28 (fun p wx => ∃ g, p = .pointer (some ⟨g, 0, none⟩) ∧ OpIn w wx #[.int .i64 1, .int .i64 f, .int .i64 d, .int .i64 a, .int .i64 b, .int .i64 e, .int .i64 (M : Int)] g nm OB OC)
  case first =>
    go_region_with (first
      | (go_at_call 30; refine (ref_Ops _).mono ?_; rintro e' w3 ⟨rfl, hb3, hs3, hrow3⟩; obtain ⟨k1, k2, k3⟩ := HO.out _ _ hrow3; obtain ⟨hc3, hf3⟩ := bcell hb3; have HBW := Lib.hid (show Below w.heap.size w w3 from Below.trans (by repeat' (first | (with_reducible exact Below.refl _ _) | (with_reducible assumption) | (with_reducible refine below_drewN ?_ _) | (with_reducible refine Below.drew ?_) | (with_reducible refine setB_below ?_ (by simp <;> omega) _) | (with_reducible refine Below.alloc ?_ (by simp <;> omega) _))) (hb3.mono (by simp <;> omega))); have HX := Lib.hid (show ∀ o, w3.cell? ⟨w.heap.size, o, none⟩ = (#[.int .i64 1, .int .i64 f, .int .i64 d, .int .i64 a, .int .i64 b, .int .i64 e, .int .i64 (M : Int)] : Array Value)[o]? from box_of (show w3.heap[w.heap.size]? = some (.cells #[.int .i64 1, .int .i64 f, .int .i64 d, .int .i64 a, .int .i64 b, .int .i64 e, .int .i64 (M : Int)] 33 (0, 0)) from at_below (by repeat' (first | (refine at_new ?_; (simp; done)) | (with_reducible refine at_old ?_ _) | (with_reducible refine at_drew ?_))) hb3)); have HB3 := Lib.hid hb3; simp at k1 k2 k3 hs3; clear hb3 hrow3))
    all_goals
      go_wp2_with fail
      go_meet
      first
        | (with_reducible exact ⟨_, rfl, closeA hs3 (by omega) HBW.out HX.out⟩)
        | (with_reducible exact ⟨_, rfl, closeB (at_below (by repeat' (first | (refine at_new ?_; (simp; done)) | (with_reducible refine at_old ?_ _) | (with_reducible refine at_drew ?_))) HB3.out) (by omega) HBW.out HX.out⟩)
  case rest =>
    obtain ⟨g, rfl, hop⟩ := hcut
    obtain ⟨wo, rfl⟩ : ∃ wo : World, wo = wc := ⟨_, rfl⟩
    have hpf := pick_row 37 fmtN 4 rfl ref_formats f hf0 (by omega)
    have hz := nth_size' fmtN 4 (by decide) f
    have hsum1 : ¬ 9223372036854775807 < nm.size + 1 := by omega
    have hsum2 : ¬ 9223372036854775807 < nm.size + 1 + (nth fmtN f).size := by omega
    have HZF := Lib.hid (And.intro hnz hz)
    have c0 := hop.c0
    have cf : wo.cell? ⟨w.heap.size, 1, none⟩ = some (.int .i64 f) := hop.box 1
    have hg1 := hop.lt
    have hg2 : w.heap.size < wo.heap.size := Nat.lt_trans hop.gt hop.lt
    have HOP := Lib.hid hop
    clear hop hz hnz
    generalize hy : nth fmtN f = y at *
    have HY := Lib.hid hy
    clear hy
    go_upto_region 7 with fail
    go_cut [5] from 29 to 37 (fun s wx => s = .string ((nm ++ ⟨#[46]⟩) ++ y) ∧ Below wo.heap.size wo wx)
    case first =>
      go_region_with (first
        | (go_at_call 37; refine (hpf _).mono ?_; rintro e' w4 ⟨rfl, hb4, hs4, hk4⟩; obtain ⟨hc4, hf4⟩ := bcell hb4; have HBW := Lib.hid (show Below wo.heap.size wo w4 from (Below.drew (Below.refl _ _)).trans hb4); simp at hk4; have q1 : w4.cell? ⟨w.heap.size, 1, none⟩ = some (.int .i64 f) := (hc4 _ _ hg2).trans cf; have q2 : w4.cell? ⟨g, 0, none⟩ = some (.string nm) := (hc4 _ _ hg1).trans c0; clear hc4 hf4 hb4))
      all_goals
        go_wp2_with fail
        go_meet
        exact ⟨rfl, HBW.out⟩
    case rest =>
      obtain ⟨rfl, hb5⟩ := hcut
      have hop5 := HOP.out.below hb5
      have c5 := hop5.c0
      have ce : wc.cell? ⟨w.heap.size, 5, none⟩ = some (.int .i64 e) := hop5.box 5
      have hgw : w.heap.size < wc.heap.size := Nat.lt_trans hop5.gt hop5.lt
      have HB5 := Lib.hid hop5.bel
      have hs0 : ((nm ++ ⟨#[46]⟩) ++ y).size ≤ 40 := by
        have h1 := HZF.out.1
        have h2 := HZF.out.2
        rw [ByteArray.size_append, ByteArray.size_append]
        have : (⟨#[46]⟩ : ByteArray).size = 1 := rfl
        omega
      have HY0 := Lib.hid (show ((nth unitN (M : Int) ++ ⟨#[46]⟩) ++ nth fmtN f) = (nm ++ ⟨#[46]⟩) ++ y by rw [HN.out, HY.out])
      clear hop5 hb5 c0 cf hpf hsum1 hsum2
      by_cases h10 : (M : Int) = 10
      · have hee := HE.out (Or.inl h10)
        have hnm : nm = ⟨#[99, 118, 116]⟩ := by rw [← HN.out, h10]; rfl
        have hp := pick_row 37 fmtN 4 rfl ref_formats e hee.1 (by omega)
        have hz := nth_size' fmtN 4 (by decide) e
        have hfin : mnemR ⟨1, f, d, a, b, e, (M : Int)⟩ = ((nm ++ ⟨#[46]⟩) ++ y) ++ (⟨#[46]⟩ ++ nth fmtN e) := by
          unfold mnemR
          rw [if_neg (show ¬ (1 : Int) = 9 by decide), if_pos (show (1 : Int) = 1 from rfl), if_pos (show (M : Int) = 10 from h10), HY0.out]
        have HFIN := Lib.hid hfin
        subst hnm
        have he4 := hee.2
        have he0 := hee.1
        generalize ((⟨#[99, 118, 116]⟩ ++ ⟨#[46]⟩) ++ y : ByteArray) = s0 at *
        have hsum3 : ¬ 9223372036854775807 < 1 + (nth fmtN e).size := by omega
        have hsum4 : ¬ 9223372036854775807 < s0.size + (1 + (nth fmtN e).size) := by omega
        generalize nth fmtN e = z at *
        clear hz hs0 hfin hee HE HOP HO HY0 HZF HY HN HF HM hg1 hg2 hlt23 hMM
        go_upto_region 10 with fail
        go_region_with (first
          | (go_at_call 37; refine (hp _).mono ?_; rintro e' w4 ⟨rfl, hb4, hs4, hk4⟩; obtain ⟨hc4, hf4⟩ := bcell hb4; have HBW := Lib.hid (show Below w.heap.size w w4 from HB5.out.trans (((Below.drew (Below.refl _ _)).trans hb4).mono (Nat.le_of_lt hgw))); simp at hk4; have q1 : w4.cell? ⟨w.heap.size, 5, none⟩ = some (.int .i64 e) := (hc4 _ _ hgw).trans ce; clear hc4 hf4 hb4))
        all_goals
          go_wp2_with fail
          go_ret
          exact ⟨ret1 (v_str HFIN.out.symm), HBW.out⟩
      · by_cases h11 : (M : Int) = 11
        · have hee := HE.out (Or.inr (Or.inl h11))
          have hnm : nm = ⟨#[116, 111, 105, 110, 116]⟩ := by rw [← HN.out, h11]; rfl
          have hp := pick_row 38 kindN 4 rfl ref_kinds e hee.1 (by omega)
          have hz := nth_size' kindN 4 (by decide) e
          have hfin : mnemR ⟨1, f, d, a, b, e, (M : Int)⟩ = ((nm ++ ⟨#[46]⟩) ++ y) ++ (⟨#[46]⟩ ++ nth kindN e) := by
            unfold mnemR
            rw [if_neg (show ¬ (1 : Int) = 9 by decide), if_pos (show (1 : Int) = 1 from rfl), if_neg (show ¬ (M : Int) = 10 from h10), if_pos (show (M : Int) = 11 ∨ (M : Int) = 12 from Or.inl h11), HY0.out]
          have HFIN := Lib.hid hfin
          subst hnm
          have he4 := hee.2
          have he0 := hee.1
          generalize ((⟨#[116, 111, 105, 110, 116]⟩ ++ ⟨#[46]⟩) ++ y : ByteArray) = s0 at *
          have hsum3 : ¬ 9223372036854775807 < 1 + (nth kindN e).size := by omega
          have hsum4 : ¬ 9223372036854775807 < s0.size + (1 + (nth kindN e).size) := by omega
          generalize nth kindN e = z at *
          clear hz hs0 hfin hee HE HOP HO HY0 HZF HY HN HF HM hg1 hg2 hlt23 hMM
          go_upto_region 13 with fail
          go_region_with (first
            | (go_at_call 38; refine (hp _).mono ?_; rintro e' w4 ⟨rfl, hb4, hs4, hk4⟩; obtain ⟨hc4, hf4⟩ := bcell hb4; have HBW := Lib.hid (show Below w.heap.size w w4 from HB5.out.trans (((Below.drew (Below.refl _ _)).trans hb4).mono (Nat.le_of_lt hgw))); simp at hk4; have q1 : w4.cell? ⟨w.heap.size, 5, none⟩ = some (.int .i64 e) := (hc4 _ _ hgw).trans ce; clear hc4 hf4 hb4))
          all_goals
            go_wp2_with fail
            go_ret
            exact ⟨ret1 (v_str HFIN.out.symm), HBW.out⟩
        · by_cases h12 : (M : Int) = 12
          · have hee := HE.out (Or.inr (Or.inr h12))
            have hnm : nm = ⟨#[102, 114, 111, 109, 105, 110, 116]⟩ := by rw [← HN.out, h12]; rfl
            have hp := pick_row 38 kindN 4 rfl ref_kinds e hee.1 (by omega)
            have hz := nth_size' kindN 4 (by decide) e
            have hfin : mnemR ⟨1, f, d, a, b, e, (M : Int)⟩ = ((nm ++ ⟨#[46]⟩) ++ y) ++ (⟨#[46]⟩ ++ nth kindN e) := by
              unfold mnemR
              rw [if_neg (show ¬ (1 : Int) = 9 by decide), if_pos (show (1 : Int) = 1 from rfl), if_neg (show ¬ (M : Int) = 10 from h10), if_pos (show (M : Int) = 11 ∨ (M : Int) = 12 from Or.inr h12), HY0.out]
            have HFIN := Lib.hid hfin
            subst hnm
            have he4 := hee.2
            have he0 := hee.1
            generalize ((⟨#[102, 114, 111, 109, 105, 110, 116]⟩ ++ ⟨#[46]⟩) ++ y : ByteArray) = s0 at *
            have hsum3 : ¬ 9223372036854775807 < 1 + (nth kindN e).size := by omega
            have hsum4 : ¬ 9223372036854775807 < s0.size + (1 + (nth kindN e).size) := by omega
            generalize nth kindN e = z at *
            clear hz hs0 hfin hee HE HOP HO HY0 HZF HY HN HF HM hg1 hg2 hlt23 hMM
            go_upto_region 13 with fail
            go_region_with (first
              | (go_at_call 38; refine (hp _).mono ?_; rintro e' w4 ⟨rfl, hb4, hs4, hk4⟩; obtain ⟨hc4, hf4⟩ := bcell hb4; have HBW := Lib.hid (show Below w.heap.size w w4 from HB5.out.trans (((Below.drew (Below.refl _ _)).trans hb4).mono (Nat.le_of_lt hgw))); simp at hk4; have q1 : w4.cell? ⟨w.heap.size, 5, none⟩ = some (.int .i64 e) := (hc4 _ _ hgw).trans ce; clear hc4 hf4 hb4))
            all_goals
              go_wp2_with fail
              go_ret
              exact ⟨ret1 (v_str HFIN.out.symm), HBW.out⟩
          · have hne : ∀ k : Fin 23, k.val ≠ 10 → k.val ≠ 11 → k.val ≠ 12 → ((nth unitN ((k.val : Nat) : Int)).toList == [99, 118, 116]) = false ∧ ((nth unitN ((k.val : Nat) : Int)).toList == [116, 111, 105, 110, 116]) = false ∧ ((nth unitN ((k.val : Nat) : Int)).toList == [102, 114, 111, 109, 105, 110, 116]) = false := by decide +kernel
            obtain ⟨n1, n2, n3⟩ := hne ⟨M, hMM⟩ (by show M ≠ 10; omega) (by show M ≠ 11; omega) (by show M ≠ 12; omega)
            simp only [HN.out] at n1 n2 n3
            have hfin : mnemR ⟨1, f, d, a, b, e, (M : Int)⟩ = (nm ++ ⟨#[46]⟩) ++ y := by
              unfold mnemR
              rw [if_neg (show ¬ (1 : Int) = 9 by decide), if_pos (show (1 : Int) = 1 from rfl), if_neg (show ¬ (M : Int) = 10 from h10), if_neg (show ¬ ((M : Int) = 11 ∨ (M : Int) = 12) by omega), HY0.out]
            have HFIN := Lib.hid hfin
            clear hfin hne hs0 HE HOP HO HY0 HZF HY HN HF HM hg1 hg2 hlt23 hMM h10 h11 h12
            go_wp2_with fail
            go_ret
            exact ⟨ret1 (v_str HFIN.out.symm), HB5.out⟩

end Go.Proofs.YthaooekohjmhdaaDoor
