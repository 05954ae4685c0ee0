/- The walk of the law AsmEncodes: it returns true. Condition: the library's tables hold what their text lays. -/
import Derived.Test.YthaooekohjmhdaaDoorPrnC
import Derived.Test.YthaooekohjmhdaaDoorPrnJ
import Derived.Test.YthaooekohjmhdaaDoorPrnK
import Derived.Test.YthaooekohjmhdaaDoorAsmY
set_option linter.unusedVariables false
set_option linter.unusedSimpArgs false
namespace Go.Proofs.YthaooekohjmhdaaDoor
open Go.RowKit

theorem ref_Mnemonic_all (i : Ins) (hin : i.In) (g : Good i) (w : World) :
    Calls Tryd.prog 23 #[.agg i.cellsR] w (MneE w (mnemR i)) := by
  obtain ⟨c, f, d, a, b, e, m⟩ := i
  have c0 := hin.c1
  have c1 := hin.c2
  have e0 := hin.e1
  simp only at c0 c1 e0
  by_cases h9 : c = 9
  · subst h9
    exact ref_Mnemonic_br f d a b e m e0 (g.e9 rfl) w
  · by_cases h1 : c = 1
    · subst h1
      obtain ⟨m0, m1, f0, f1, he⟩ := g.m1 rfl
      exact ref_Mnemonic_unit f d a b e m m0 m1 f0 f1 he w
    · have hm : mnemR ⟨c, f, d, a, b, e, m⟩ = nth plainN c := by
        unfold mnemR
        rw [if_neg (show ¬ c = 9 from h9), if_neg (show ¬ c = 1 from h1)]
      rw [hm]
      exact ref_Mnemonic_plain c f d a b e m c0 c1 h1 h9 w

theorem ref_Operands_all (i : Ins) (hin : i.In) (hm : -2147483648 ≤ i.m ∧ i.m ≤ 2147483647) (g : Good i) (w : World) :
    Calls Tryd.prog 24 #[.agg i.cellsR] w (OpsE w (opsR i)) := by
  obtain ⟨c, f, d, a, b, e, m⟩ := i
  have c0 := hin.c1
  have c1 := hin.c2
  have hd := And.intro hin.d1 hin.d2
  have ha := And.intro hin.a1 hin.a2
  have hb := And.intro hin.b1 hin.b2
  have he := And.intro hin.e1 hin.e2
  simp only at c0 c1 hd ha hb he hm
  have hc : c = 0 ∨ c = 1 ∨ c = 2 ∨ c = 3 ∨ c = 4 ∨ c = 5 ∨ c = 6 ∨ c = 7 ∨ c = 8 ∨ c = 9 ∨ c = 10 ∨ c = 11 ∨ c = 12 ∨ c = 13 ∨ c = 14 := by omega
  rcases hc with rfl | rfl | rfl | rfl | rfl | rfl | rfl | rfl | rfl | rfl | rfl | rfl | rfl | rfl | rfl
  · exact ref_Operands_0 f d a b e m w
  · obtain ⟨m0, m1, f0, f1, _⟩ := g.m1 rfl
    exact ref_Operands_1 f d a b e m m0 m1 hd ha hb he w
  · exact ref_Operands_2 f d a b e m hd ha hm w
  · exact ref_Operands_3 f d a b e m hb ha hm w
  · exact ref_Operands_4 f d a b e m hd hm w
  · exact ref_Operands_5 f d a b e m hd ha hm w
  · exact ref_Operands_6 f d a b e m hd ha hm w
  · exact ref_Operands_7 f d a b e m hd ha hm w
  · exact ref_Operands_8 f d a b e m hm w
  · exact ref_Operands_9 f d a b e m ha hm w
  · exact ref_Operands_10 f d a b e m he.1 (g.e10 rfl) w
  · exact ref_Operands_11 f d a b e m he w
  · exact ref_Operands_12 f d a b e m hd he hm w
  · exact ref_Operands_13 f d a b e m hm w
  · exact ref_Operands_14 f d a b e m w

theorem enc_both (i : Ins) (hok : i.Ok) : ∃ v : Int, (∀ w, Calls Tryd.prog 5 #[.agg i.cells] w fun e' w' => e' = .returned (.tuple #[.int .u64 v, .int .i64 (chk i)]) ∧ Below w.heap.size w w') ∧
      (∀ w, Calls Tryd.prog 6 #[.agg i.cellsR] w (EncE w v (chk i))) := by
  have hr := chk_ref _ hok
  by_cases hz : chk i = 0
  · refine ⟨wordOf i, ?_, ?_⟩
    · rw [hz]; exact asm_Encode_good _ hok hz
    rw [hz] at hr ⊢
    have hin := refErr_in _ hr.symm
    obtain ⟨hh, hn⟩ := hasF_of i hr.symm
    exact ref_Encode_good _ hin hok.m1 hok.m2 hh hn
  · refine ⟨0, asm_Encode_bad _ hok hz, ?_⟩
    rw [hr] at hz ⊢
    unfold refErr at hz ⊢
    by_cases hh : (hasF i).2 = true
    · rw [if_pos hh] at hz ⊢
      by_cases hn : inF i (hasF i).1 = true
      · rw [if_pos hn] at hz
        exact absurd rfl hz
      · rw [if_neg hn]
        exact ref_Encode_out _ hh (by simpa using hn)
    · rw [if_neg hh]
      exact ref_Encode_none _ (by simpa using hh)

theorem print_both (i : Ins) (hok : i.Ok) : ∃ s : ByteArray, s.size ≤ 400 ∧ (∀ w, Tb w → Calls Tryd.prog 9 #[.agg i.cells] w fun e' w' => e' = .returned (.tuple #[.string s, .int .i64 (chk i)]) ∧ Below w.heap.size w w') ∧
      (∀ w, Calls Tryd.prog 10 #[.agg i.cellsR] w fun e' w' => e' = .returned (.tuple #[.string s, .int .i64 (chk i)]) ∧ Below w.heap.size w w') := by
  obtain ⟨v, hA, hE⟩ := enc_both i hok
  by_cases hz : chk i = 0
  · have hr := chk_ref _ hok
    rw [hz] at hr
    have hin := refErr_in _ hr.symm
    have hg := good i hr.symm
    have hj := ops_join i hin hok.m1 hok.m2
    have hl := ops_len i
    refine ⟨lineOf (mnemR i) (opsR i), ?_, ?_, ?_⟩
    · have hs := mnem_sz i
      unfold lineOf
      split
      · omega
      · rw [ByteArray.size_append, ByteArray.size_append]
        have h1 : (⟨#[32]⟩ : ByteArray).size = 1 := rfl
        have h2 : (B (Lib.join ((opsR i).map (·.data.toList)) [44, 32])).size = (Lib.join ((opsR i).map (·.data.toList)) [44, 32]).length := B_size _
        omega
    · intro w ht
      rw [hz]
      exact asm_Print_ok i hok hz (mnemR i, opsR i) hg.fold hg.ok (fun hc => ⟨(hg.m1 hc).1, (hg.m1 hc).2.1⟩) (Nat.le_trans hl (by decide)) (Nat.le_trans hj (by decide)) hg.sh2 (head_sz i) w ht
    · intro w
      rw [hz] at hE ⊢
      have := ref_Print_ok i v hE (mnemR i) (ref_Mnemonic_all i hin hg) (opsR i) (ref_Operands_all i hin ⟨hok.m1, hok.m2⟩ hg) (mnem_sz i) (Nat.le_trans hl (by decide)) (ops_sz i hin hok.m1 hok.m2) w
      rw [refPre_line] at this
      exact this
  · exact ⟨⟨#[]⟩, Nat.zero_le _, fun w _ => asm_Print_bad i hok hz w, fun w => ref_Print_bad i v (chk i) hz hE w⟩

set_option maxRecDepth 100000 in
set_option maxHeartbeats 4000000 in
theorem law_AsmEncodes (i : Ins) (hok : i.Ok) (w : World) (ht : Tb w) :
    Calls Tryd.prog 3 #[.agg i.cells] w fun e w' => e = .returned (.bool true) ∧ Below w.heap.size w w' := by
  obtain ⟨v, hA, hR⟩ := enc_both i hok
  obtain ⟨s, _, hPA, hPR⟩ := print_both i hok
  have hP := asm_plain i hok.m1 hok.m2
  have hF := asm_fixed
  generalize chk i = k at *
  obtain ⟨c, f, d, a, b, e, m⟩ := i
  rw [cellsE] at hA hPA hP ⊢
  rw [cellsRE] at hR hPR hP
  unfold EncE at hR
  clear hok
  go_enter Tryd.func3, Tryd.ntmps3
  go_upto_region 1 with fail
  have hbx : Bx w (w.alloc (.cells #[.int .i64 c, .int .i64 f, .int .i64 d, .int .i64 a, .int .i64 b, .int .i64 e, .int .i32 m] 25)) #[.int .i64 c, .int .i64 f, .int .i64 d, .int .i64 a, .int .i64 b, .int .i64 e, .int .i32 m] := Bx.made w _ _
  generalize w.alloc (.cells #[.int .i64 c, .int .i64 f, .int .i64 d, .int .i64 a, .int .i64 b, .int .i64 e, .int .i32 m] 25) = W0 at *
  have k0 : W0.cell? ⟨w.heap.size, 0, none⟩ = some (.int .i64 c) := hbx.box 0
  have k1 : W0.cell? ⟨w.heap.size, 1, none⟩ = some (.int .i64 f) := hbx.box 1
  have k2 : W0.cell? ⟨w.heap.size, 2, none⟩ = some (.int .i64 d) := hbx.box 2
  have k3 : W0.cell? ⟨w.heap.size, 3, none⟩ = some (.int .i64 a) := hbx.box 3
  have k4 : W0.cell? ⟨w.heap.size, 4, none⟩ = some (.int .i64 b) := hbx.box 4
  have k5 : W0.cell? ⟨w.heap.size, 5, none⟩ = some (.int .i64 e) := hbx.box 5
  have k6 : W0.cell? ⟨w.heap.size, 6, none⟩ = some (.int .i32 m) := hbx.box 6
  have HB0 := Lib.hid hbx.bel
  have hlt := hbx.lt
  have HT := Lib.hid (ht.step hbx.bel)
  clear hbx ht
  go_wp2_with (first
    | (go_at_call 5; refine (hA _).mono ?_; rintro e1 w1 ⟨rfl, hb1⟩; have hB1 : Below W0.heap.size W0 w1 := hb1; have HB1 := Lib.hid hB1; have p10 : w1.cell? ⟨w.heap.size, 0, none⟩ = some (.int .i64 c) := (hB1.cell (p := ⟨w.heap.size, 0, none⟩) hlt).trans k0; have p11 : w1.cell? ⟨w.heap.size, 1, none⟩ = some (.int .i64 f) := (hB1.cell (p := ⟨w.heap.size, 1, none⟩) hlt).trans k1; have p12 : w1.cell? ⟨w.heap.size, 2, none⟩ = some (.int .i64 d) := (hB1.cell (p := ⟨w.heap.size, 2, none⟩) hlt).trans k2; have p13 : w1.cell? ⟨w.heap.size, 3, none⟩ = some (.int .i64 a) := (hB1.cell (p := ⟨w.heap.size, 3, none⟩) hlt).trans k3; have p14 : w1.cell? ⟨w.heap.size, 4, none⟩ = some (.int .i64 b) := (hB1.cell (p := ⟨w.heap.size, 4, none⟩) hlt).trans k4; have p15 : w1.cell? ⟨w.heap.size, 5, none⟩ = some (.int .i64 e) := (hB1.cell (p := ⟨w.heap.size, 5, none⟩) hlt).trans k5; have p16 : w1.cell? ⟨w.heap.size, 6, none⟩ = some (.int .i32 m) := (hB1.cell (p := ⟨w.heap.size, 6, none⟩) hlt).trans k6; clear hB1 hb1)
    | (go_at_call 7; have _ := HB5.out; refine (hP _).mono ?_; rintro e1 w6 ⟨rfl, hb6⟩; have HB6 := Lib.hid (HB5.out.trans (hb6.mono HB5.out.size)); clear hb6)
    | (go_at_call 7; refine (hP _).mono ?_; rintro e1 w2 ⟨rfl, hb2⟩; have HB2 := Lib.hid (HB1.out.trans (hb2.mono HB1.out.size)); clear hb2)
    | (go_at_call 6; refine (hR _).mono ?_; rintro e1 w3 ⟨rfl, hb3⟩; have HB3 := Lib.hid (HB2.out.trans (hb3.mono HB2.out.size)); clear hb3)
    | (go_at_call 8; refine (hF _).mono ?_; rintro e1 w4 ⟨rfl, hb4⟩; have hB4 : Below W0.heap.size W0 w4 := HB3.out.trans (hb4.mono HB3.out.size); have HB4 := Lib.hid hB4; have p40 : w4.cell? ⟨w.heap.size, 0, none⟩ = some (.int .i64 c) := (hB4.cell (p := ⟨w.heap.size, 0, none⟩) hlt).trans k0; have p41 : w4.cell? ⟨w.heap.size, 1, none⟩ = some (.int .i64 f) := (hB4.cell (p := ⟨w.heap.size, 1, none⟩) hlt).trans k1; have p42 : w4.cell? ⟨w.heap.size, 2, none⟩ = some (.int .i64 d) := (hB4.cell (p := ⟨w.heap.size, 2, none⟩) hlt).trans k2; have p43 : w4.cell? ⟨w.heap.size, 3, none⟩ = some (.int .i64 a) := (hB4.cell (p := ⟨w.heap.size, 3, none⟩) hlt).trans k3; have p44 : w4.cell? ⟨w.heap.size, 4, none⟩ = some (.int .i64 b) := (hB4.cell (p := ⟨w.heap.size, 4, none⟩) hlt).trans k4; have p45 : w4.cell? ⟨w.heap.size, 5, none⟩ = some (.int .i64 e) := (hB4.cell (p := ⟨w.heap.size, 5, none⟩) hlt).trans k5; have p46 : w4.cell? ⟨w.heap.size, 6, none⟩ = some (.int .i32 m) := (hB4.cell (p := ⟨w.heap.size, 6, none⟩) hlt).trans k6; clear hB4 hb4)
    | (go_at_call 9; refine (hPA _ (HT.out.step HB4.out)).mono ?_; rintro e1 w5 ⟨rfl, hb5⟩; have hB5 : Below W0.heap.size W0 w5 := HB4.out.trans (hb5.mono HB4.out.size); have HB5 := Lib.hid hB5; have p50 : w5.cell? ⟨w.heap.size, 0, none⟩ = some (.int .i64 c) := (hB5.cell (p := ⟨w.heap.size, 0, none⟩) hlt).trans k0; have p51 : w5.cell? ⟨w.heap.size, 1, none⟩ = some (.int .i64 f) := (hB5.cell (p := ⟨w.heap.size, 1, none⟩) hlt).trans k1; have p52 : w5.cell? ⟨w.heap.size, 2, none⟩ = some (.int .i64 d) := (hB5.cell (p := ⟨w.heap.size, 2, none⟩) hlt).trans k2; have p53 : w5.cell? ⟨w.heap.size, 3, none⟩ = some (.int .i64 a) := (hB5.cell (p := ⟨w.heap.size, 3, none⟩) hlt).trans k3; have p54 : w5.cell? ⟨w.heap.size, 4, none⟩ = some (.int .i64 b) := (hB5.cell (p := ⟨w.heap.size, 4, none⟩) hlt).trans k4; have p55 : w5.cell? ⟨w.heap.size, 5, none⟩ = some (.int .i64 e) := (hB5.cell (p := ⟨w.heap.size, 5, none⟩) hlt).trans k5; have p56 : w5.cell? ⟨w.heap.size, 6, none⟩ = some (.int .i32 m) := (hB5.cell (p := ⟨w.heap.size, 6, none⟩) hlt).trans k6; clear hB5 hb5)
    | (go_at_call 10; refine (hPR _).mono ?_; rintro e1 w7 ⟨rfl, hb7⟩; have HB7 := Lib.hid (HB6.out.trans (hb7.mono HB6.out.size)); clear hb7))
  go_ret
  exact ⟨rfl, HB0.out.trans (HB7.out.mono HB0.out.size)⟩

end Go.Proofs.YthaooekohjmhdaaDoor
