/- The walk of the document's Operands of layer 25 at the unit's operations. No condition. -/
import Derived.Test.YthaooekohjmhdaaDoorPrnH
set_option linter.unusedVariables false
set_option linter.unusedSimpArgs false
namespace Go.Proofs.YthaooekohjmhdaaDoor
open Go.RowKit Go.Sort

/-- an operation's copy in a variable of its own, behind W. -/
structure OpAt (W wx : World) (g : Nat) (nm : ByteArray) (OB OC : Int) : Prop where
  c0 : wx.cell? ⟨g, 0, none⟩ = some (.string nm)
  c1 : wx.cell? ⟨g, 1, none⟩ = some (.int .i64 OB)
  c2 : wx.cell? ⟨g, 2, none⟩ = some (.int .i64 OC)
  lt : g < wx.heap.size
  gt : W.heap.size ≤ g
  bel : Below W.heap.size W wx
theorem closeC {W w3 : World} {n : Nat} {nm : ByteArray} {OB OC : Int} {t : TypeId} (hs : w3.heap.size = n) (hn : W.heap.size ≤ n) (hB : Below W.heap.size W w3) :
    OpAt W (w3.alloc (.cells #[.string nm, .int .i64 OB, .int .i64 OC] t)) n nm OB OC := by
  subst hs
  refine ⟨?_, ?_, ?_, by simp, hn, hB.alloc hn _⟩
  · rw [World.cell?, heap_alloc_new]; rfl
  · rw [World.cell?, heap_alloc_new]; rfl
  · rw [World.cell?, heap_alloc_new]; rfl
theorem closeD {W w3 : World} {g : Nat} {nm : ByteArray} {OB OC : Int} {t : TypeId} {fz : Nat × Nat} {a0 a1 a2 : Value} (HZ : w3.heap[g]? = some (.cells #[a0, a1, a2] t fz)) (hn : W.heap.size ≤ g) (hB : Below W.heap.size W w3) :
    OpAt W (((w3.setCell ⟨g, 0, none⟩ (.string nm)).setCell ⟨g, 1, none⟩ (.int .i64 OB)).setCell ⟨g, 2, none⟩ (.int .i64 OC)) g nm OB OC := by
  have hg : g < w3.heap.size := (Array.getElem?_eq_some_iff.1 HZ).1
  rw [set3 HZ]
  refine ⟨?_, ?_, ?_, by rw [setB_size]; exact hg, hn, setB_below hB hn _⟩
  · simp [World.cell?, setB_get hg]
  · simp [World.cell?, setB_get hg]
  · simp [World.cell?, setB_get hg]
theorem own_below2 {W W' : World} {B e size n : Nat} {v : Value} {xs : List Value} (h : W.ownsRow B e size v n xs) (hb : Below W.heap.size W W') : W'.ownsRow B e size v n xs := by
  obtain ⟨h1, h2 | ⟨g, cap, cur, hv, hB, hg, h3⟩⟩ := h
  · exact ⟨h1, Or.inl h2⟩
  · exact ⟨h1, Or.inr ⟨g, cap, cur, hv, hB, at_below hg hb, h3⟩⟩

theorem own_weaken {W : World} {n : Nat} {v : Value} {xs : List Value} {k : Nat} (h : W.ownsRow (k + 1) 9 1 v n xs) : W.ownsRow k 9 1 v n xs := by
  obtain ⟨h1, h2 | ⟨g, cap, cur, hv, hB, hg, h3⟩⟩ := h
  · exact ⟨h1, Or.inl h2⟩
  · exact ⟨h1, Or.inr ⟨g, cap, cur, hv, Nat.le_of_succ_le hB, hg, h3⟩⟩

theorem reg32 (M : Nat) (h1 : 1 ≤ M) (h2 : M < 23) : ((opBC (M : Int)).1 = 32 ↔ (opAt M).2.1 = 32) ∧ ((opBC (M : Int)).2 = 32 ↔ (opAt M).2.2 = 32) := by
  have := opAt_bc M h1 h2
  rw [this]
  simp only
  constructor
  · by_cases h : (1 : Int) < (opAt M).2.1
    · rw [if_pos h]
    · rw [if_neg h]; omega
  · by_cases h : (1 : Int) < (opAt M).2.2
    · rw [if_pos h]
    · rw [if_neg h]; omega

set_option maxRecDepth 100000 in
set_option maxHeartbeats 4000000 in
theorem ref_Operands_1 (f d a b e m : Int) (hm0 : 1 ≤ m) (hm1 : m < 23) (hd : 0 ≤ d ∧ d ≤ 31) (ha : 0 ≤ a ∧ a ≤ 31) (hb : 0 ≤ b ∧ b ≤ 31) (he : 0 ≤ e ∧ e ≤ 31) (w : World) :
    Calls Tryd.prog 24 #[.agg (Ins.mk 1 f d a b e m).cellsR] w (OpsE w ([regN d, regN a] ++ ((if (opBC m).1 = 32 then [regN b] else []) ++ (if (opBC m).2 = 32 then [regN e] else [])))) := by
  obtain ⟨M, rfl⟩ : ∃ M : Nat, m = (M : Int) := ⟨m.toNat, by omega⟩
  have hMM : M < 23 := by omega
  have hlt23 : ((M : Nat) : Int) < 23 := by omega
  have h32 := reg32 M (by omega) hMM
  have HO := Lib.hid fun (w' : World) g h => ops_reads (w' := w') (g := g) h M hMM
  generalize opAt M = O at *
  obtain ⟨nm, OB, OC⟩ := O
  simp only at h32
  have hB1 : (if (opBC (M : Int)).1 = 32 then [regN b] else []) = (if OB = 32 then [regN b] else []) := by
    by_cases h : OB = 32
    · rw [if_pos h, if_pos (h32.1.2 h)]
    · rw [if_neg h, if_neg (fun hh => h (h32.1.1 hh))]
  have hB2 : (if (opBC (M : Int)).2 = 32 then [regN e] else []) = (if OC = 32 then [regN e] else []) := by
    by_cases h : OC = 32
    · rw [if_pos h, if_pos (h32.2.2 h)]
    · rw [if_neg h, if_neg (fun hh => h (h32.2.1 hh))]
  rw [hB1, hB2]
  generalize hL : ([regN d, regN a] ++ ((if OB = 32 then [regN b] else []) ++ (if OC = 32 then [regN e] else [])) : List ByteArray) = L
  generalize hL1 : ([regN d, regN a] ++ (if OB = 32 then [regN b] else []) : List ByteArray) = L1
  have HL := Lib.hid hL
  have HL1 := Lib.hid hL1
  clear hB1 hB2 h32 hm0 hm1 hL hL1
  have cd : ∀ W dz os, Calls Tryd.prog 39 #[.int .i64 d] (grow (redrawn W dz) os) fun e1 w'' => e1 = .returned (.string (regN d)) ∧ ∃ p : Regrown, w'' = grow (redrawn W p.d) p.os := fun W dz os => Calls.regrown_of (ref_reg d hd.1 hd.2 _)
  have ca : ∀ W dz os, Calls Tryd.prog 39 #[.int .i64 a] (grow (redrawn W dz) os) fun e1 w'' => e1 = .returned (.string (regN a)) ∧ ∃ p : Regrown, w'' = grow (redrawn W p.d) p.os := fun W dz os => Calls.regrown_of (ref_reg a ha.1 ha.2 _)
  have hbx := Bx.made w #[.int .i64 1, .int .i64 f, .int .i64 d, .int .i64 a, .int .i64 b, .int .i64 e, .int .i64 (M : Int)] 33
  have HF := Lib.hid (And.intro hb he)
  clear hd ha hb he
  unfold Ins.cellsR
  go_enter Tryd.func24, Tryd.ntmps24
  go_upto_region 3 with fail
  generalize w.alloc (.cells #[.int .i64 1, .int .i64 f, .int .i64 d, .int .i64 a, .int .i64 b, .int .i64 e, .int .i64 (M : Int)] 33) = W at *
  have kd : W.cell? ⟨w.heap.size, 2, none⟩ = some (.int .i64 d) := hbx.box 2
  have qd := cell_regrown kd
  have ka : W.cell? ⟨w.heap.size, 3, none⟩ = some (.int .i64 a) := hbx.box 3
  have qa := cell_regrown ka
  have HB := Lib.hid hbx
  clear hbx kd ka
  go_cut [3] from 9 to 15 (fun v wx => wx.ownsRow (w.heap.size + 1) 9 1 v 2 ([regN d, regN a].map Value.string) ∧ Below W.heap.size W wx)
  case first =>
    refine wp_region_below_tail 6 (by kernel_rfl) (by kernel_rfl) ?_
    simp only [List.take_succ_cons, List.take_zero, List.drop_succ_cons, List.drop_zero]
    repeat (quiet_step (first | exact cd _ _ _ | exact ca _ _ _))
    refine wpQuiet_nil ?_
    rintro _ ⟨⟨dq, osq⟩, rfl⟩
    have hb2 := below_regrown W dq osq
    generalize grow (redrawn W dq) osq = W2 at *
    have HB2 := Lib.hid hb2
    clear hb2 qd qa cd ca
    go_wp2_with fail
    go_meet
    exact ⟨own_row W2 [regN d, regN a] (Nat.le_trans HB.out.lt HB2.out.size) (by simp), HB2.out.alloc HB2.out.size _⟩
  case rest =>
  obtain ⟨hown, hbr⟩ := hcut
  obtain ⟨wr, rfl⟩ : ∃ wr : World, wr = wc := ⟨_, rfl⟩
  have HBR := Lib.hid (show Below w.heap.size w wr from HB.out.bel.trans (hbr.mono HB.out.bel.size))
  have hlt : w.heap.size < wr.heap.size := Nat.lt_of_lt_of_le HB.out.lt hbr.size
  have hall : ∀ o, wr.cell? ⟨w.heap.size, o, none⟩ = (#[.int .i64 1, .int .i64 f, .int .i64 d, .int .i64 a, .int .i64 b, .int .i64 e, .int .i64 (M : Int)] : Array Value)[o]? := fun o => ((bcell hbr).1 _ _ HB.out.lt).trans (HB.out.box o)
  have km : wr.cell? ⟨w.heap.size, 6, none⟩ = some (.int .i64 (M : Int)) := hall 6
  have HALL := Lib.hid (And.intro (show wr.cell? ⟨w.heap.size, 4, none⟩ = some (.int .i64 b) from hall 4) (show wr.cell? ⟨w.heap.size, 5, none⟩ = some (.int .i64 e) from hall 5))
  have HOWN := Lib.hid hown
  clear hown hbr hall qd qa cd ca
  go_upto_region 4 with fail
  go_cut [4] from 16 to 20 (fun p wx => ∃ g, p = .pointer (some ⟨g, 0, none⟩) ∧ OpAt wr wx g nm OB OC)
  case first =>
    go_region_with (first
      | (go_at_call 30; refine (ref_Ops _).mono ?_; rintro e' w3 ⟨rfl, hb3, hs3, hrow3⟩; obtain ⟨k1, k2, k3⟩ := HO.out _ _ hrow3; have HBW := Lib.hid (show Below wr.heap.size wr w3 from Below.trans (by repeat' (first | (with_reducible exact Below.refl _ _) | (with_reducible refine below_drewN ?_ _) | (with_reducible refine Below.drew ?_) | (with_reducible refine Below.alloc ?_ (by simp <;> omega) _))) (hb3.mono (by simp <;> omega))); have q1 : w3.cell? ⟨w.heap.size, 6, none⟩ = some (.int .i64 (M : Int)) := (HBW.out.cell (p := ⟨w.heap.size, 6, none⟩) hlt).trans km; have HB3 := Lib.hid hb3; obtain ⟨hc3, hf3⟩ := bcell hb3; simp at k1 k2 k3 hs3; clear hb3 hrow3))
    all_goals
      go_wp2_with fail
      go_meet
      first
        | (with_reducible exact ⟨_, rfl, closeC hs3 (by omega) HBW.out⟩)
        | (with_reducible exact ⟨_, rfl, closeD (at_below (by repeat' (first | (refine at_new ?_; (simp; done)) | (with_reducible refine at_old ?_ _) | (with_reducible refine at_drew ?_))) HB3.out) (by omega) HBW.out⟩)
  case rest =>
  obtain ⟨g, rfl, hop⟩ := hcut
  obtain ⟨wz, rfl⟩ : ∃ wz : World, wz = wc := ⟨_, rfl⟩
  have hgne : some g ≠ u3.ownBlock := fun h => by have h1 := (HOWN.out.lt g h.symm).2; have h2 := hop.gt; omega
  have hbne : some w.heap.size ≠ u3.ownBlock := fun h => by have h1 := (HOWN.out.lt _ h.symm).1; omega
  have HBZ := Lib.hid (HBR.out.trans (hop.bel.mono HBR.out.size))
  have hown := own_below2 HOWN.out hop.bel
  have HK := Lib.hid (And.intro ((hop.bel.cell (p := ⟨w.heap.size, 4, none⟩) hlt).trans HALL.out.1) ((hop.bel.cell (p := ⟨w.heap.size, 5, none⟩) hlt).trans HALL.out.2))
  have kB : wz.cell? ⟨g, 1, none⟩ = some (.int .i64 OB) := hop.c1
  have HOP := Lib.hid hop
  have HLT := Lib.hid (Nat.lt_of_lt_of_le hlt hop.bel.size)
  clear hop km HB HBR HALL HOWN hlt
  have HLEN : Hid (([regN d, regN a] : List ByteArray).length ≤ 10) := Lib.hid (by simp)
  go_upto_if 23 with fail
  have hwz := HLT.out
  go_cut [3] from 22 to 29 (fun v wx => wx.ownsRow (w.heap.size + 1) 9 1 v L1.length (L1.map Value.string) ∧ Below w.heap.size w wx ∧ wx.cell? ⟨g, 2, none⟩ = some (.int .i64 OC) ∧ w.heap.size < wx.heap.size ∧ wx.cell? ⟨w.heap.size, 5, none⟩ = some (.int .i64 e) ∧ L1.length ≤ 10)
  case first =>
    by_cases hcc : OB = 32
    · have hcB : (OB == 32) = true := by simpa using hcc
      have hlen2 : (2 : Nat) ≤ 10 := by decide
      have hrg := ref_reg b HF.out.1.1 HF.out.1.2
      have kk : wz.cell? ⟨w.heap.size, 4, none⟩ = some (.int .i64 b) := HK.out.1
      obtain ⟨i0, hi, hz0, hz1, hz2⟩ := info_parts (show (Tryd.prog.info? 9).map (fun i => (i.zero, i.size, i.bytes)) = some (some (.string ⟨#[]⟩), 1, 16) by kernel_rfl)
      go_wp2_with (first
        | (go_at_call 39; refine (hrg _).mono ?_; rintro e1 w4 ⟨rfl, hb4⟩; have hown4 := own_below2 hown hb4)
        | (at_builtin; refine wpList_append_own _ rfl _ _ 58 rfl (w.heap.size + 1) 9 i0 (.string ⟨#[]⟩) 1 16 Tryd.underlying58 hi hz0 hz1 hz2 rfl (by decide) _ _ _ rfl (hown4.alloc _) ⟨w4.heap.size, 0, none⟩ 1 1 [.string (regN b)] rfl rfl ?c1 ?c2 ?c3 ?c4 ?c5 ?_))
      case c1 =>
        intro j u hj
        match j, hj with
        | 0, hj => simp at hj; subst hj; simp [Addr.add]
      case c2 => intro u hu; simp at hu; subst hu; rfl
      case c3 => unfold maxLen; omega
      case c4 => omega
      case c5 => have := hb4.size; simp; omega
      intro v' w5 hown' hgrow _
      have hsz5 : w4.heap.size ≤ w5.heap.size := by have := hgrow.size; simp at this; omega
      have hsz4 := hb4.size
      have hbw5 : Below w.heap.size w w5 := (((HBZ.out.trans (hb4.mono HBZ.out.size)).alloc (Nat.le_trans HBZ.out.size hb4.size) _).grown hgrow (by simp; omega) (fun k hk => Nat.le_of_lt (hown4.lt k hk).1))
      have hc4 := (bcell hb4).1
      have hk2 : w5.cell? ⟨g, 2, none⟩ = some (.int .i64 OC) := (World.cell?_of_block ((hgrow.block g (by have := HOP.out.lt; simp; omega) hgne).trans (Lib.alloc_old w4 _ g (by have := HOP.out.lt; omega)))).trans ((hc4 _ _ HOP.out.lt).trans HOP.out.c2)
      have hk5 : w5.cell? ⟨w.heap.size, 5, none⟩ = some (.int .i64 e) := (World.cell?_of_block ((hgrow.block w.heap.size (by simp; omega) hbne).trans (Lib.alloc_old w4 _ w.heap.size (by omega)))).trans ((hc4 _ _ hwz).trans HK.out.2)
      have HCC := Lib.hid hcc
      clear hcc hc4 hgrow hown4 hown
      go_wp2_with fail
      go_meet
      have hl1 : L1 = [regN d, regN a] ++ [regN b] := by rw [← HL1.out, if_pos HCC.out]
      subst hl1
      exact ⟨by simpa using hown', hbw5, hk2, by omega, hk5, by simp⟩
    · have hcB : (OB == 32) = false := by simpa using hcc
      have HCC := Lib.hid hcc
      clear hcc
      go_wp2_with fail
      go_meet
      have hl1 : L1 = [regN d, regN a] := by rw [← HL1.out, if_neg HCC.out, List.append_nil]
      subst hl1
      exact ⟨hown, HBZ.out, HOP.out.c2, HLT.out, HK.out.2, by simp⟩
  case rest =>
  obtain ⟨hown1, hbw1, hk2, hsz1, hk5, hl10⟩ := hcut
  obtain ⟨wy, rfl⟩ : ∃ wy : World, wy = wc := ⟨_, rfl⟩
  have HB1 := Lib.hid hbw1
  clear hown hwz hgne hbne kB hbw1
  by_cases hcc : OC = 32
  · have hcB : (OC == 32) = true := by simpa using hcc
    have hl : L = L1 ++ [regN e] := by rw [← HL.out, ← HL1.out, if_pos hcc, List.append_assoc]
    subst hl
    have hsing : True := trivial
    have hrg := ref_reg e HF.out.2.1 HF.out.2.2
    have kk : wy.cell? ⟨w.heap.size, 5, none⟩ = some (.int .i64 e) := hk5
    obtain ⟨i0, hi, hz0, hz1, hz2⟩ := info_parts (show (Tryd.prog.info? 9).map (fun i => (i.zero, i.size, i.bytes)) = some (some (.string ⟨#[]⟩), 1, 16) by kernel_rfl)
    go_wp2_with (first
      | (go_at_call 39; refine (hrg _).mono ?_; rintro e1 w4 ⟨rfl, hb4⟩; have hown4 := own_below2 hown1 hb4)
      | (at_builtin; refine wpList_append_own _ rfl _ _ 58 rfl (w.heap.size + 1) 9 i0 (.string ⟨#[]⟩) 1 16 Tryd.underlying58 hi hz0 hz1 hz2 rfl (by decide) _ _ _ rfl (hown4.alloc _) ⟨w4.heap.size, 0, none⟩ 1 1 [.string (regN e)] rfl rfl ?c1 ?c2 ?c3 ?c4 ?c5 ?_))
    case c1 =>
      intro j u hj
      match j, hj with
      | 0, hj => simp at hj; subst hj; simp [Addr.add]
    case c2 => intro u hu; simp at hu; subst hu; rfl
    case c3 => unfold maxLen; omega
    case c4 => omega
    case c5 => have := hb4.size; simp; omega
    intro v' w5 hown' hgrow _
    have hsz5 : w4.heap.size ≤ w5.heap.size := by have := hgrow.size; simp at this; omega
    have hsz4 := hb4.size
    have hbw5 : Below w.heap.size w w5 := (((HB1.out.trans (hb4.mono HB1.out.size)).alloc (Nat.le_trans HB1.out.size hb4.size) _).grown hgrow (by simp; omega) (fun k hk => Nat.le_of_lt (hown4.lt k hk).1))
    clear hcc hgrow hown4 hown1
    go_wp2_with fail
    go_ret
    exact ⟨_, rfl, own_weaken (by simpa using hown'), hbw5⟩
  · have hcB : (OC == 32) = false := by simpa using hcc
    have hl : L = L1 := by rw [← HL.out, ← HL1.out, if_neg hcc, List.append_nil]
    subst hl
    clear hcc
    go_wp2_with fail
    go_ret
    exact ⟨_, rfl, own_weaken hown1, HB1.out⟩

end Go.Proofs.YthaooekohjmhdaaDoor
