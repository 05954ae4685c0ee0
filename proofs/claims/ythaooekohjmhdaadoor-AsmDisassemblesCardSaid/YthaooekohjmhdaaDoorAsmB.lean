/- Walks of layer 25: check, Encode, Decode. No condition. -/
import Derived.Test.YthaooekohjmhdaaDoorAsmA
import Derived.Test.YthaooekohjmhdaaDoorAsmL
set_option linter.unusedVariables false
set_option linter.unusedSimpArgs false
namespace Go.Proofs.YthaooekohjmhdaaDoor
open Go.RowKit

theorem cellsE (c f d a b e m : Int) : (Ins.mk c f d a b e m).cells = #[.int .i64 c, .int .i64 f, .int .i64 d, .int .i64 a, .int .i64 b, .int .i64 e, .int .i32 m] := rfl

set_option maxHeartbeats 1000000 in
theorem asm_check (i : Ins) (hi : i.Ok) (w : World) :
    Calls Tryd.prog 15 #[.agg i.cells] w fun e' w' => e' = .returned (.int .i64 (chk i)) ∧ Below w.heap.size w w' := by
  have hsh := asm_shape i hi.m1 hi.m2
  have hasc := Lib.hid (pShape_ascii i)
  have hln := pShape_len i
  generalize hj : i = j at hsh hasc hln ⊢
  have HI := Lib.hid hj
  clear hj
  generalize hps : pShape j = ps at *
  have HP := Lib.hid hps
  clear hps
  obtain ⟨s, ok⟩ := ps
  obtain ⟨c, f, d, a, b, e, m⟩ := j
  rw [cellsE] at *
  cases ok
  · have hfin : chk ⟨c, f, d, a, b, e, m⟩ = 250 := by unfold chk; rw [HP.out]; simp
    rw [hfin]
    clear hfin
    go_enter Tryd.func15, Tryd.ntmps15
    go_wp2_with (go_at_call 18; refine (hsh _).mono ?_; rintro e w1 ⟨rfl, hb1⟩)
    go_ret
    exact ⟨rfl, (((Below.refl _ _).alloc (Nat.le_refl _) _)).trans (hb1.mono (by simp))⟩
  · have hfin : chk ⟨c, f, d, a, b, e, m⟩ = chkEnd c (chkFrom ⟨c, f, d, a, b, e, m⟩ s) := by unfold chk; rw [HP.out]; simp
    rw [hfin]
    clear hfin
    have HOK : (Ins.mk c f d a b e m).Ok := HI.out ▸ hi
    generalize hgo : chkFrom ⟨c, f, d, a, b, e, m⟩ s = go
    have HGO := Lib.hid hgo
    clear hgo
    go_enter Tryd.func15, Tryd.ntmps15
    go_wp2_with (go_at_call 18; refine (hsh _).mono ?_; rintro e w1 ⟨rfl, hb1⟩; obtain ⟨hc1, hf1⟩ := bcell hb1; have hsz1 := hb1.size; simp at hsz1)
    have hbN : Below w.heap.size w w1 := ((Below.refl _ _).alloc (Nat.le_refl _) _).trans (hb1.mono (by simp))
    have hbox : w1.cell? ⟨w.heap.size, 0, none⟩ = some (.int .i64 c) := by rw [hc1 _ _ (by simp)]; simp
    have HBX := Lib.hid hbox
    clear hbox hc1 hf1
    go_loopw [] (fun wr => ∃ (pos : Nat) (cur : Ins), wr.heap[w1.heap.size]? = some (.cells cur.cells 25 (0, 0)) ∧ wr.heap[w1.heap.size + 1]? = some (.stringIter ⟨s.toArray⟩ pos) ∧ Below w1.heap.size w1 wr ∧ Hid (chkFrom cur (s.drop pos) = go) ∧ cur.Ok ∧ Hid (cur.c = c) ∧ pos ≤ s.length) (fun wr => s.length - wr.iterPos (w1.heap.size + 1))
    case atStart =>
      refine ⟨0, ⟨c, f, d, a, b, e, m⟩, ?_, ?_, ?_, HGO, HOK, Lib.hid rfl, Nat.zero_le _⟩
      · rw [World.iter, Below.heap_alloc _ _ _ (by simp)]; exact heap_alloc_new _ _
      · have := World.iter_heap (w1.alloc (.cells (Ins.mk c f d a b e m).cells 25)) ⟨s.toArray⟩ 0
        rw [World.size_alloc] at this
        exact this
      · exact ((Below.refl _ _).alloc (Nat.le_refl _) _).alloc (by simp) _
    case round =>
      obtain ⟨pos, cur, hcur, hit, hbw, hgo, hok, hcc, hpl⟩ := hrel
      have hsz : w1.heap.size + 1 < wr.heap.size := (Array.getElem?_eq_some_iff.1 hit).1
      by_cases hp : pos < s.length
      · have ha : s[pos].toNat < 128 := hasc.out s[pos] (List.getElem_mem hp)
        have hdr : s.drop pos = s[pos] :: s.drop (pos + 1) := List.drop_eq_getElem_cons hp
        have hnx : ∀ ty, (Instr.next (.pointer (some ⟨w1.heap.size + 1, 0, none⟩)) true ty).run Tryd.prog wr = .ok (.tuple #[.bool true, .int .i64 pos, .int .i32 (s[pos].toNat : Int)]) (wr.iterAt (w1.heap.size + 1) ⟨s.toArray⟩ (pos + 1)) :=
          fun ty => Lib.run_next_ascii_at wr (w1.heap.size + 1) ⟨s.toArray⟩ pos ty hit (by show pos < s.toArray.size; simpa using hp) ha
        have hit2 := Lib.iterAt_heap wr (w1.heap.size + 1) ⟨s.toArray⟩ pos (pos + 1) hit
        have hcur2 : (wr.iterAt (w1.heap.size + 1) ⟨s.toArray⟩ (pos + 1)).heap[w1.heap.size]? = some (.cells cur.cells 25 (0, 0)) := by rw [Lib.iterAt_other _ _ _ _ _ (by omega)]; exact hcur
        have hbw2 := Lib.below_iterAt hbw (k := w1.heap.size + 1) (by omega) ⟨s.toArray⟩ (pos + 1)
        have hsz2 : w1.heap.size + 1 < (wr.iterAt (w1.heap.size + 1) ⟨s.toArray⟩ (pos + 1)).heap.size := by rw [Lib.iterAt_size]; exact hsz
        have HST : ∀ l : Int, cur.fits (s[pos].toNat : Int) = true → Hid (chkFrom (cur.zap (s[pos].toNat : Int)) (s.drop (pos + 1)) = go) := by
          intro l hl
          have := hgo.out
          rw [hdr] at this
          simp only [chkFrom, hl, if_true] at this
          exact Lib.hid this
        have HSF : cur.fits (s[pos].toNat : Int) = false → go = none := by
          intro hl
          have := hgo.out
          rw [hdr] at this
          simp [chkFrom, hl] at this
          exact this.symm
        have HHIT := Lib.hid hit
        clear hdr hit hcur hgo
        generalize hx : (s[pos].toNat : Int) = x at *
        clear hx ha
        generalize hW2 : wr.iterAt (w1.heap.size + 1) ⟨s.toArray⟩ (pos + 1) = W2 at *
        clear hW2
        cases hft : cur.fits x
        · have HG := Lib.hid (HSF hft)
          have htk := fun hb => asm_take cur hok x w1.heap.size W2 hb
          rw [hft] at htk
          clear HST HSF hft
          have HC2 := Lib.hid hcur2
          clear hcur2
          go_wp2_with (go_at_call 29; refine (htk HC2.out).mono ?_; rintro e w2 ⟨rfl, hw2⟩)
          subst hw2
          go_wp2
          go_ret
          rw [HG.out]
          exact ⟨rfl, hbN.trans (setB_below (hbw2.mono (by have := hbN.size; omega)) (by have := hbN.size; omega) _)⟩
        · have HG := HST 0 hft
          have htk := fun hb => asm_take cur hok x w1.heap.size W2 hb
          rw [hft] at htk
          clear HST HSF hft
          have HC2 := Lib.hid hcur2
          have HI2 := Lib.hid hit2
          clear hcur2 hit2
          go_wp2_with (go_at_call 29; refine (htk HC2.out).mono ?_; rintro e w2 ⟨rfl, hw2⟩)
          subst hw2
          go_wp2
          go_roundw
          case rel =>
            refine ⟨pos + 1, cur.zap x, setB_get (by omega), ?_, setB_below hbw2 (Nat.le_refl _) _, HG, Ins.zap_ok hok _, Lib.hid (by rw [Ins.zap_c]; exact hcc.out), by omega⟩
            rw [setB_other (by omega)]
            exact HI2.out
          case measure =>
            have e1 : (setB W2 w1.heap.size (.cells (cur.zap x).cells 25 (0, 0))).iterPos (w1.heap.size + 1) = pos + 1 := iterPos_of (by rw [setB_other (by omega)]; exact HI2.out)
            rw [e1, iterPos_of HHIT.out]
            omega
      · have hnx : ∀ ty, (Instr.next (.pointer (some ⟨w1.heap.size + 1, 0, none⟩)) true ty).run Tryd.prog wr = .ok (.tuple #[.bool false]) wr :=
          fun ty => Lib.run_next_end_at wr (w1.heap.size + 1) ⟨s.toArray⟩ pos ty hit (by show ¬ pos < s.toArray.size; simpa using hp)
        have hfin : go = some cur := by
          have := hgo.out
          rw [List.drop_of_length_le (by omega)] at this
          exact this.symm
        subst hfin
        have hbox2 : wr.cell? ⟨w.heap.size, 0, none⟩ = some (.int .i64 c) := by
          rw [hbw.cell (p := ⟨w.heap.size, 0, none⟩) (by show w.heap.size < w1.heap.size; omega)]
          exact HBX.out
        obtain ⟨cc, cf, cd, ca, cb, ce, cm⟩ := cur
        rw [cellsE] at hcur
        have k0 : wr.cell? ⟨w1.heap.size, 0, none⟩ = some (.int .i64 cc) := by simp [World.cell?, hcur]
        have k1 : wr.cell? ⟨w1.heap.size, 1, none⟩ = some (.int .i64 cf) := by simp [World.cell?, hcur]
        have k2 : wr.cell? ⟨w1.heap.size, 2, none⟩ = some (.int .i64 cd) := by simp [World.cell?, hcur]
        have k3 : wr.cell? ⟨w1.heap.size, 3, none⟩ = some (.int .i64 ca) := by simp [World.cell?, hcur]
        have k4 : wr.cell? ⟨w1.heap.size, 4, none⟩ = some (.int .i64 cb) := by simp [World.cell?, hcur]
        have k5 : wr.cell? ⟨w1.heap.size, 5, none⟩ = some (.int .i64 ce) := by simp [World.cell?, hcur]
        have k6 : wr.cell? ⟨w1.heap.size, 6, none⟩ = some (.int .i32 cm) := by simp [World.cell?, hcur]
        clear hcur hit
        have HB := hbN.trans (hbw.mono (by have := hbN.size; omega))
        go_wp2
        all_goals
          go_ret
          refine ⟨ret1 (v_int ?_), HB⟩
          simp [chkEnd, *]

set_option maxHeartbeats 1000000 in
theorem asm_Encode_bad (i : Ins) (hi : i.Ok) (h : chk i ≠ 0) (w : World) :
    Calls Tryd.prog 5 #[.agg i.cells] w fun e' w' => e' = .returned (.tuple #[.int .u64 0, .int .i64 (chk i)]) ∧ Below w.heap.size w w' := by
  have hck := asm_check i hi
  have h0 : (chk i == 0) = false := by simpa using h
  generalize chk i = k at *
  clear h hi
  obtain ⟨c, f, d, a, b, e, m⟩ := i
  rw [cellsE] at *
  go_enter Tryd.func5, Tryd.ntmps5
  go_wp2_with (go_at_call 15; refine (hck _).mono ?_; rintro e w1 ⟨rfl, hb1⟩)
  go_ret2
  exact ⟨rfl, (((Below.refl _ _).alloc (Nat.le_refl _) _)).trans (hb1.mono (by simp))⟩

set_option maxHeartbeats 1000000 in
theorem asm_Encode_good (i : Ins) (hi : i.Ok) (h : chk i = 0) (w : World) :
    Calls Tryd.prog 5 #[.agg i.cells] w fun e' w' => e' = .returned (.tuple #[.int .u64 (wordOf i), .int .i64 0]) ∧ Below w.heap.size w w' := by
  have hck := asm_check i hi
  rw [h] at hck
  obtain ⟨c, f, d, a, b, e, m⟩ := i
  rw [cellsE] at *
  have hm1 := hi.m1
  have hm2 := hi.m2
  have HIN := refErr_in _ (chk_ref _ hi ▸ h)
  obtain ⟨c1, c2, f1, f2, d1, d2, a1, a2, b1, b2, e1, e2⟩ := HIN
  simp only at hm1 hm2 c1 c2 f1 f2 d1 d2 a1 a2 b1 b2 e1 e2
  clear h hi
  go_enter Tryd.func5, Tryd.ntmps5
  go_wp2_with (go_at_call 15; refine (hck _).mono ?_; rintro e w1 ⟨rfl, hb1⟩; obtain ⟨hc1, hf1⟩ := bcell hb1)
  go_ret2
  refine ⟨ret2 (v_int ?_) rfl, (((Below.refl _ _).alloc (Nat.le_refl _) _)).trans (hb1.mono (by simp))⟩
  rw [or_4 _ _ (by omega) (by omega) (by omega) (by omega), or_6 _ _ (by omega) (by omega) (by omega) (by omega), or_11 _ _ (by omega) (by omega) (by omega) (by omega),
    or_16 _ _ (by omega) (by omega) (by omega) (by omega), or_21 _ _ (by omega) (by omega) (by omega) (by omega), or_32 _ _ (by omega) (by omega) (by omega) (by omega)]
  rfl

theorem asm_bits_0 (wv : Int) (b : Nat) (w : World) (hc : w.cell? ⟨b, 0, none⟩ = some (.int .u64 wv)) (h0 : 0 ≤ wv) (h1 : wv < 18446744073709551616) :
    Calls Tryd.prog 43 #[.int .i64 0, .int .i64 4, .pointer (some ⟨b, 0, none⟩)] w fun e' w' => e' = .returned (.int .i64 (wv % 16)) ∧ ∃ m, w' = w.drewN m := by
  go_enter Tryd.func43, Tryd.ntmps43
  go_wp2
  go_quiet (fail)
  go_wp2
  go_ret
  refine ⟨ret1 (v_int ?_), _, rfl⟩
  rw [and_16 _ (by omega) (by omega)]
  unfold wrap64
  omega
theorem asm_bits_4 (wv : Int) (b : Nat) (w : World) (hc : w.cell? ⟨b, 0, none⟩ = some (.int .u64 wv)) (h0 : 0 ≤ wv) (h1 : wv < 18446744073709551616) :
    Calls Tryd.prog 43 #[.int .i64 4, .int .i64 2, .pointer (some ⟨b, 0, none⟩)] w fun e' w' => e' = .returned (.int .i64 (wv / 16 % 4)) ∧ ∃ m, w' = w.drewN m := by
  go_enter Tryd.func43, Tryd.ntmps43
  go_wp2
  go_quiet (fail)
  go_wp2
  go_ret
  refine ⟨ret1 (v_int ?_), _, rfl⟩
  rw [and_4 _ (by omega) (by omega)]
  unfold wrap64
  omega
theorem asm_bits_6 (wv : Int) (b : Nat) (w : World) (hc : w.cell? ⟨b, 0, none⟩ = some (.int .u64 wv)) (h0 : 0 ≤ wv) (h1 : wv < 18446744073709551616) :
    Calls Tryd.prog 43 #[.int .i64 6, .int .i64 5, .pointer (some ⟨b, 0, none⟩)] w fun e' w' => e' = .returned (.int .i64 (wv / 64 % 32)) ∧ ∃ m, w' = w.drewN m := by
  go_enter Tryd.func43, Tryd.ntmps43
  go_wp2
  go_quiet (fail)
  go_wp2
  go_ret
  refine ⟨ret1 (v_int ?_), _, rfl⟩
  rw [and_32 _ (by omega) (by omega)]
  unfold wrap64
  omega
theorem asm_bits_11 (wv : Int) (b : Nat) (w : World) (hc : w.cell? ⟨b, 0, none⟩ = some (.int .u64 wv)) (h0 : 0 ≤ wv) (h1 : wv < 18446744073709551616) :
    Calls Tryd.prog 43 #[.int .i64 11, .int .i64 5, .pointer (some ⟨b, 0, none⟩)] w fun e' w' => e' = .returned (.int .i64 (wv / 2048 % 32)) ∧ ∃ m, w' = w.drewN m := by
  go_enter Tryd.func43, Tryd.ntmps43
  go_wp2
  go_quiet (fail)
  go_wp2
  go_ret
  refine ⟨ret1 (v_int ?_), _, rfl⟩
  rw [and_32 _ (by omega) (by omega)]
  unfold wrap64
  omega
theorem asm_bits_16 (wv : Int) (b : Nat) (w : World) (hc : w.cell? ⟨b, 0, none⟩ = some (.int .u64 wv)) (h0 : 0 ≤ wv) (h1 : wv < 18446744073709551616) :
    Calls Tryd.prog 43 #[.int .i64 16, .int .i64 5, .pointer (some ⟨b, 0, none⟩)] w fun e' w' => e' = .returned (.int .i64 (wv / 65536 % 32)) ∧ ∃ m, w' = w.drewN m := by
  go_enter Tryd.func43, Tryd.ntmps43
  go_wp2
  go_quiet (fail)
  go_wp2
  go_ret
  refine ⟨ret1 (v_int ?_), _, rfl⟩
  rw [and_32 _ (by omega) (by omega)]
  unfold wrap64
  omega
theorem asm_bits_21 (wv : Int) (b : Nat) (w : World) (hc : w.cell? ⟨b, 0, none⟩ = some (.int .u64 wv)) (h0 : 0 ≤ wv) (h1 : wv < 18446744073709551616) :
    Calls Tryd.prog 43 #[.int .i64 21, .int .i64 5, .pointer (some ⟨b, 0, none⟩)] w fun e' w' => e' = .returned (.int .i64 (wv / 2097152 % 32)) ∧ ∃ m, w' = w.drewN m := by
  go_enter Tryd.func43, Tryd.ntmps43
  go_wp2
  go_quiet (fail)
  go_wp2
  go_ret
  refine ⟨ret1 (v_int ?_), _, rfl⟩
  rw [and_32 _ (by omega) (by omega)]
  unfold wrap64
  omega

end Go.Proofs.YthaooekohjmhdaaDoor
