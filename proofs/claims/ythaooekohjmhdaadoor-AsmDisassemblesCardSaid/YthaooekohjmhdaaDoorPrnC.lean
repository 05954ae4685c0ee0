/- The walk of layer 25's Print. Condition: the library's tables hold what their text lays. -/
import Derived.Test.YthaooekohjmhdaaDoorPrnA
import Derived.Test.YthaooekohjmhdaaDoorAsmB
import Derived.Deep.RegionHeld3
import Derived.Deep.CutRange
set_option linter.unusedVariables false
set_option linter.unusedSimpArgs false
namespace Go.Proofs.YthaooekohjmhdaaDoor
open Go.RowKit

theorem flds_rel : Lib.fieldsB ⟨#[108, 116, 32, 101, 113, 32, 103, 116, 32, 117, 110]⟩ = relN := by decide +kernel
theorem flds_kinds : Lib.fieldsB ⟨#[105, 51, 50, 32, 105, 54, 52, 32, 117, 51, 50, 32, 117, 54, 52]⟩ = kindN := by decide +kernel
theorem flds_modes : Lib.fieldsB ⟨#[101, 118, 101, 110, 32, 97, 119, 97, 121, 32, 122, 101, 114, 111, 32, 117, 112, 32, 100, 111, 119, 110, 32, 111, 100, 100]⟩ = modeN := by decide +kernel
theorem flds_plain : Lib.fieldsB ⟨#[104, 97, 108, 116, 32, 45, 32, 108, 100, 32, 115, 116, 32, 115, 101, 116, 32, 115, 101, 116, 104, 32, 109, 111, 118, 32, 97, 100, 100, 105, 32, 106, 109, 112, 32, 98, 114, 32, 109, 111, 100, 101, 32, 116, 114, 97, 112, 115, 32, 102, 108, 97, 103, 115, 32, 118, 101, 99, 116, 111, 114, 32, 114, 101, 116]⟩ = plainN := by decide +kernel
theorem flds_unit : Lib.fieldsB ⟨#[45, 32, 97, 100, 100, 32, 115, 117, 98, 32, 109, 117, 108, 32, 100, 105, 118, 32, 115, 113, 114, 116, 32, 102, 109, 97, 32, 114, 101, 109, 32, 109, 111, 100, 32, 114, 105, 110, 116, 32, 99, 118, 116, 32, 116, 111, 105, 110, 116, 32, 102, 114, 111, 109, 105, 110, 116, 32, 109, 105, 110, 32, 109, 97, 120, 32, 99, 109, 112, 32, 115, 105, 103, 32, 110, 101, 120, 116, 32, 115, 99, 97, 108, 101, 32, 99, 108, 97, 115, 115, 32, 110, 101, 103, 32, 97, 98, 115, 32, 99, 111, 112, 121, 115, 105, 103, 110]⟩ = unitN := by decide +kernel
theorem ascii_of (l : List UInt8) (h : l.all (fun b => decide (b.toNat < 128)) = true) : ∀ (j : Nat) b, l[j]? = some b → b.toNat < 128 := by
  intro j b hj
  have := List.all_eq_true.1 h b (List.mem_of_getElem? hj)
  simpa using this
theorem own_below {W W' : World} {B e size n : Nat} {v : Value} {xs : List Value} (h : W.ownsRow B e size v n xs) (hb : Below W.heap.size W W') : W'.ownsRow B e size v n xs := by
  obtain ⟨h1, h2 | ⟨g, cap, cur, hv, hB, hg, h3⟩⟩ := h
  · exact ⟨h1, Or.inl h2⟩
  · exact ⟨h1, Or.inr ⟨g, cap, cur, hv, hB, at_below hg hb, h3⟩⟩
theorem own_iterAt {w : World} {B e size n : Nat} {v : Value} {xs : List Value} {k : Nat} {s : ByteArray} {pos : Nat} (h : w.ownsRow B e size v n xs) (hk : w.heap[k]? = some (.stringIter s pos)) (s' : ByteArray) (pos' : Nat) :
    (w.iterAt k s' pos').ownsRow B e size v n xs := by
  obtain ⟨h1, h2 | ⟨g, cap, cur, hv, hB, hg, h3⟩⟩ := h
  · exact ⟨h1, Or.inl h2⟩
  · refine ⟨h1, Or.inr ⟨g, cap, cur, hv, hB, ?_, h3⟩⟩
    rw [Lib.iterAt_other _ _ _ _ _ (by rintro rfl; rw [hk] at hg; cases hg)]
    exact hg
theorem own_ne_iter {w : World} {B e size n : Nat} {v : Value} {xs : List Value} {k : Nat} {s : ByteArray} {pos : Nat} (h : w.ownsRow B e size v n xs) (hk : w.heap[k]? = some (.stringIter s pos)) : some k ≠ v.ownBlock := by
  obtain ⟨h1, ⟨rfl, _⟩ | ⟨g, cap, cur, rfl, hB, hg, h3⟩⟩ := h
  · simp [Value.ownBlock]
  · intro hh
    simp only [Value.ownBlock, Option.some.injEq] at hh
    subst hh
    rw [hk] at hg
    cases hg

theorem nth_size (l : List ByteArray) (k : Nat) (h : ∀ x ∈ l, x.size ≤ k) (n : Int) : (nth l n).size ≤ k := by
  unfold nth
  rw [List.getD_eq_getElem?_getD]
  cases hg : l[n.toNat]? with
  | none => exact Nat.zero_le _
  | some x => exact h x (List.mem_of_getElem? hg)
theorem isEmpty_of {y : ByteArray} (h : y ≠ ⟨#[]⟩) : y.toList.isEmpty = false := by
  rw [ByteArray.toList_eq]
  cases hl : y.data.toList with
  | nil => exact absurd (B_ext hl) h
  | cons a l => rfl
theorem size_app (a b : ByteArray) : (a ++ b).size = a.size + b.size := ByteArray.size_append
theorem num_size (n : Int) (h0 : -9223372036854775808 ≤ n) (h1 : n ≤ 9223372036854775807) : (num n).size ≤ 21 := by
  have := Lib.itoa_length_le n h0 h1
  show (Lib.itoa n).toArray.size ≤ 21
  simpa using this
theorem fmt_size (n : Int) : (nth fmtN n).size ≤ 4 := nth_size _ _ (by decide) n
theorem rel_size (n : Int) : (nth relN n).size ≤ 4 := nth_size _ _ (by decide) n
theorem kind_size (n : Int) : (nth kindN n).size ≤ 4 := nth_size _ _ (by decide) n
theorem prLine_size (i : Ins) (x : Int) (s : ByteArray) : (prLine i x s).size ≤ s.size + 10 := by
  have h0 := fmt_size i.f
  have h1 := fmt_size i.e
  have h2 := rel_size i.e
  have h3 := kind_size i.e
  have h4 : (⟨#[46]⟩ : ByteArray).size = 1 := rfl
  unfold prLine
  repeat' split
  all_goals (try simp only [size_app, h4]) <;> omega

/-- an owned row of texts: of none, or one with an address. -/
theorem own_slice {w : World} {B : Nat} {v : Value} {ops : List ByteArray} (h : w.ownsRow B 9 1 v ops.length (ops.map Value.string)) :
    (ops = [] ∧ ∃ a c, v = .slice a 0 c) ∨ (ops ≠ [] ∧ ∃ g cap, v = .slice (some ⟨g, 0, none⟩) ops.length cap ∧ g < w.heap.size ∧ ops.length ≤ cap ∧
      ∀ (j : Nat) x, ops[j]? = some x → w.cell? ⟨g, 0 + j, none⟩ = some (.string x)) := by
  obtain ⟨h1, ⟨rfl, h2⟩ | ⟨g, cap, cur, rfl, hB, hg, hn, hm, hs, ht⟩⟩ := h
  · exact Or.inl ⟨List.length_eq_zero_iff.1 h2, none, 0, rfl⟩
  · cases ops with
    | nil => exact Or.inl ⟨rfl, _, _, rfl⟩
    | cons x r =>
      refine Or.inr ⟨by simp, g, cap, rfl, (Array.getElem?_eq_some_iff.1 hg).1, hn, ?_⟩
      intro j y hj
      have hj2 : ((x :: r).map Value.string)[j]? = some (.string y) := by rw [List.getElem?_map, hj]; rfl
      rw [← ht] at hj2
      have hj3 : cur.toList[j]? = some (.string y) := by
        rw [List.getElem?_take] at hj2
        split at hj2
        · exact hj2
        · cases hj2
      rw [World.cell?, Nat.zero_add, hg]
      simpa using hj3

set_option maxHeartbeats 4000000 in
theorem asm_Print_bad (i : Ins) (hi : i.Ok) (h : chk i ≠ 0) (w : World) :
    Calls Tryd.prog 9 #[.agg i.cells] w fun e w' => e = .returned (.tuple #[.string ⟨#[]⟩, .int .i64 (chk i)]) ∧ Below w.heap.size w w' := by
  have hck := asm_check i hi
  have h0 : (chk i == 0) = false := by simpa using h
  generalize chk i = k at *
  clear h hi
  obtain ⟨c, f, d, a, b, e, m⟩ := i
  rw [cellsE] at *
  go_enter Tryd.func9, Tryd.ntmps9
  go_wp2_with (go_at_call 15; refine (hck _).mono ?_; rintro e w1 ⟨rfl, hb1⟩)
  go_ret2
  exact ⟨rfl, (((Below.refl _ _).alloc (Nat.le_refl _) _)).trans (hb1.mono (by simp))⟩

set_option maxRecDepth 100000 in
set_option maxHeartbeats 8000000 in
theorem asm_Print_ok (i : Ins) (hi : i.Ok) (h : chk i = 0) (fin : ByteArray × List ByteArray) (hfold : prFold i (pShape i).1 (headN i, []) = fin) (hok : ∀ x ∈ (pShape i).1, okL i (x.toNat : Int))
    (hm1 : i.c = 1 → 1 ≤ i.m ∧ i.m < 23) (hln1 : fin.2.length ≤ 1000) (hln2 : (Lib.join (fin.2.map (·.data.toList)) [44, 32]).length ≤ 140737488355328) (hsh2 : (pShape i).2 = true) (hhs : (headN i).size ≤ 100) (w : World) (ht : Tb w) :
    Calls Tryd.prog 9 #[.agg i.cells] w fun e w' => e = .returned (.tuple #[.string (lineOf fin.1 fin.2), .int .i64 0]) ∧ Below w.heap.size w w' := by
  have hck := asm_check i hi
  rw [h] at hck
  have hsh := asm_shape i hi.m1 hi.m2
  rw [hsh2] at hsh
  have hasc := Lib.hid (pShape_ascii i)
  have hOK := Lib.hid hok
  have HM := Lib.hid hm1
  have HIN := Lib.hid (refErr_in _ (chk_ref _ hi ▸ h))
  have HH := Lib.hid (show headN i = if i.c = 1 then nth unitN i.m else nth plainN i.c from rfl)
  have HL1 := Lib.hid hln1
  have HL2 := Lib.hid hln2
  have HMB := Lib.hid (And.intro hi.m1 hi.m2)
  have hlen6 := Lib.hid (pShape_len i)
  have HHS := Lib.hid hhs
  clear hhs hsh2 hok hm1 hi hln1 hln2
  generalize hhead : headN i = hd at *
  generalize (pShape i).1 = sh at *
  have HF := Lib.hid hfold
  clear h hhead hfold
  obtain ⟨c, f, d, a, b, e, m⟩ := i
  rw [cellsE] at *
  have HC1 := Lib.hid (And.intro HIN.out.c1 HIN.out.c2)
  go_enter Tryd.func9, Tryd.ntmps9
  go_upto_if 27 with (first
    | (go_at_call 15; refine (hck _).mono ?_; rintro e1 w1 ⟨rfl, hb1⟩; obtain ⟨hc1, hf1⟩ := bcell hb1; have hbx1 : ∀ o, w1.cell? ⟨w.heap.size, o, none⟩ = (w.alloc (.cells #[.int .i64 c, .int .i64 f, .int .i64 d, .int .i64 a, .int .i64 b, .int .i64 e, .int .i32 m] 25)).cell? ⟨w.heap.size, o, none⟩ := fun o => hc1 _ _ (by simp))
    | (go_at_call 18; refine (hsh _).mono ?_; rintro e2 w2 ⟨rfl, hb2⟩; obtain ⟨hc2, hf2⟩ := bcell hb2; have hbx2 : ∀ o, w2.cell? ⟨w.heap.size, o, none⟩ = (w.alloc (.cells #[.int .i64 c, .int .i64 f, .int .i64 d, .int .i64 a, .int .i64 b, .int .i64 e, .int .i32 m] 25)).cell? ⟨w.heap.size, o, none⟩ := fun o => (hc2 _ _ (Nat.lt_of_lt_of_le (by simp) hb1.size)).trans (hbx1 o))
    | (go_at_call 19; refine (asm_name _ _ flds_plain (by decide) (ascii_of _ (by decide +kernel)) c HC1.out.1 (by have := HC1.out.2; show c < 15; omega) w2 (ht.step (((Below.refl _ _).alloc (Nat.le_refl _) _).trans ((hb1.trans (hb2.mono hb1.size)).mono (by simp))))).mono ?_; rintro e3 w3 ⟨rfl, hb3⟩; obtain ⟨hc3, hf3⟩ := bcell hb3; have hbx3 : ∀ o, w3.cell? ⟨w.heap.size, o, none⟩ = (w.alloc (.cells #[.int .i64 c, .int .i64 f, .int .i64 d, .int .i64 a, .int .i64 b, .int .i64 e, .int .i32 m] 25)).cell? ⟨w.heap.size, o, none⟩ := fun o => (hc3 _ _ (Nat.lt_of_lt_of_le (by simp) (Nat.le_trans hb1.size hb2.size))).trans (hbx2 o))
    | fail)
  have hB3 : Below w.heap.size w w3 := ((Below.refl _ _).alloc (Nat.le_refl _) _).trans ((hb1.trans ((hb2.trans (hb3.mono hb2.size)).mono hb1.size)).mono (by simp))
  have hg3 : w.heap.size < w3.heap.size := Nat.lt_of_lt_of_le (by simp) (Nat.le_trans hb1.size (Nat.le_trans hb2.size hb3.size))
  have k0 : w3.cell? ⟨w.heap.size, 0, none⟩ = some (.int .i64 c) := by rw [hbx3]; simp
  have k1 : w3.cell? ⟨w.heap.size, 1, none⟩ = some (.int .i64 f) := by rw [hbx3]; simp
  have k2 : w3.cell? ⟨w.heap.size, 2, none⟩ = some (.int .i64 d) := by rw [hbx3]; simp
  have k3 : w3.cell? ⟨w.heap.size, 3, none⟩ = some (.int .i64 a) := by rw [hbx3]; simp
  have k4 : w3.cell? ⟨w.heap.size, 4, none⟩ = some (.int .i64 b) := by rw [hbx3]; simp
  have k5 : w3.cell? ⟨w.heap.size, 5, none⟩ = some (.int .i64 e) := by rw [hbx3]; simp
  have k6 : w3.cell? ⟨w.heap.size, 6, none⟩ = some (.int .i32 m) := by rw [hbx3]; simp
  have ht3 : Tb w3 := ht.step hB3
  clear hbx1 hbx2 hbx3 hc1 hc2 hc3 hf1 hf2 hf3 hb1 hb2 hb3 hck hsh ht
  go_cut [7] from 28 to 31 (fun ln wx => ln = .string hd ∧ Below w3.heap.size w3 wx)
  case first =>
    by_cases hc : c = 1
    · have hmo := HM.out hc
      have hhd : hd = nth unitN m := by rw [HH.out, if_pos hc]
      subst hhd
      subst hc
      go_wp2_with (go_at_call 19; refine (asm_name _ _ flds_unit (by decide) (ascii_of _ (by decide +kernel)) m (by omega) (by have := hmo.2; show m < 23; omega) w3 ht3).mono ?_; rintro e4 w4 ⟨rfl, hb4⟩)
      go_meet
      exact ⟨rfl, hb4⟩
    · have hhd : hd = nth plainN c := by rw [HH.out, if_neg hc]
      subst hhd
      have hcB : (c == 1) = false := by simpa using hc
      go_wp2_with fail
      go_meet
      exact ⟨rfl, Below.refl _ _⟩
  case rest =>
  obtain ⟨rfl, hbc⟩ := hcut
  obtain ⟨wq, rfl⟩ : ∃ wq : World, wq = wc := ⟨_, rfl⟩
  have hgc : w.heap.size < wq.heap.size := Nat.lt_of_lt_of_le hg3 hbc.size
  have hBc : Below w.heap.size w wq := hB3.trans (hbc.mono (Nat.le_of_lt hg3))
  obtain ⟨hcc, hfc⟩ := bcell hbc
  have HK : Hid (wq.cell? ⟨w.heap.size, 1, none⟩ = some (.int .i64 f) ∧ wq.cell? ⟨w.heap.size, 2, none⟩ = some (.int .i64 d) ∧ wq.cell? ⟨w.heap.size, 3, none⟩ = some (.int .i64 a) ∧ wq.cell? ⟨w.heap.size, 4, none⟩ = some (.int .i64 b) ∧ wq.cell? ⟨w.heap.size, 5, none⟩ = some (.int .i64 e) ∧ wq.cell? ⟨w.heap.size, 6, none⟩ = some (.int .i32 m)) :=
    Lib.hid ⟨(hcc _ _ hg3).trans k1, (hcc _ _ hg3).trans k2, (hcc _ _ hg3).trans k3, (hcc _ _ hg3).trans k4, (hcc _ _ hg3).trans k5, (hcc _ _ hg3).trans k6⟩
  have htc : Tb wq := ht3.step hbc
  have HBC := Lib.hid hBc
  clear hcc hfc k0 k1 k2 k3 k4 k5 k6 hbc hB3 ht3 hg3 hBc HH
  go_wp2_with fail
  go_loopw [7, 8] (fun ln op wr => ∃ (pos : Nat) (s : ByteArray) (ops : List ByteArray), ln = .string s ∧ Hid (wr.ownsRow (wq.heap.size + 1) 9 1 op ops.length (ops.map Value.string)) ∧ wr.heap[wq.heap.size]? = some (.stringIter ⟨sh.toArray⟩ pos) ∧ Below wq.heap.size wq wr ∧ Hid (prFold ⟨c, f, d, a, b, e, m⟩ (sh.drop pos) (s, ops) = fin) ∧ Hid (s.size ≤ 100 + 10 * pos ∧ ops.length ≤ pos) ∧ pos ≤ sh.length) (fun _ _ wr => sh.length - wr.iterPos wq.heap.size)
  case atStart =>
    refine ⟨0, hd, [], rfl, Lib.hid (World.ownsRow_nil _ _ _ _), ?_, ?_, HF, Lib.hid ⟨HHS.out, Nat.le_refl _⟩, Nat.zero_le _⟩
    · exact World.iter_heap wq ⟨sh.toArray⟩ 0
    · exact (Below.refl _ _).alloc (Nat.le_refl _) _
  case round =>
    obtain ⟨pos, s, ops, rfl, hown, hit, hbw, hgo, hss, hpl⟩ := hrel
    have hsz : wq.heap.size < wr.heap.size := (Array.getElem?_eq_some_iff.1 hit).1
    by_cases hp : pos < sh.length
    · have ha : sh[pos].toNat < 128 := hasc.out sh[pos] (List.getElem_mem hp)
      have hol := hOK.out sh[pos] (List.getElem_mem hp)
      have hdr : sh.drop pos = sh[pos] :: sh.drop (pos + 1) := List.drop_eq_getElem_cons hp
      have hnx : ∀ ty, (Instr.next (.pointer (some ⟨wq.heap.size, 0, none⟩)) true ty).run Tryd.prog wr = .ok (.tuple #[.bool true, .int .i64 pos, .int .i32 (sh[pos].toNat : Int)]) (wr.iterAt wq.heap.size ⟨sh.toArray⟩ (pos + 1)) :=
        fun ty => Lib.run_next_ascii_at wr wq.heap.size ⟨sh.toArray⟩ pos ty hit (by show pos < sh.toArray.size; simpa using hp) ha
      have hit2 := Lib.iterAt_heap wr wq.heap.size ⟨sh.toArray⟩ pos (pos + 1) hit
      have hbw2 := Lib.below_iterAt hbw (k := wq.heap.size) (Nat.le_refl _) ⟨sh.toArray⟩ (pos + 1)
      have hown2 := own_iterAt hown.out hit ⟨sh.toArray⟩ (pos + 1)
      have hst := hgo.out
      rw [hdr] at hst
      simp only [prFold, prOp] at hst
      have HHIT := Lib.hid (iterPos_of hit)
      clear hdr hit hgo hown hbw
      generalize (sh[pos].toNat : Int) = x at *
      generalize wr.iterAt wq.heap.size ⟨sh.toArray⟩ (pos + 1) = W2 at *
      obtain ⟨hc2, hf2⟩ := bcell hbw2
      have k1 : W2.cell? ⟨w.heap.size, 1, none⟩ = some (.int .i64 f) := (hc2 _ _ hgc).trans HK.out.1
      have k2 : W2.cell? ⟨w.heap.size, 2, none⟩ = some (.int .i64 d) := (hc2 _ _ hgc).trans HK.out.2.1
      have k3 : W2.cell? ⟨w.heap.size, 3, none⟩ = some (.int .i64 a) := (hc2 _ _ hgc).trans HK.out.2.2.1
      have k4 : W2.cell? ⟨w.heap.size, 4, none⟩ = some (.int .i64 b) := (hc2 _ _ hgc).trans HK.out.2.2.2.1
      have k5 : W2.cell? ⟨w.heap.size, 5, none⟩ = some (.int .i64 e) := (hc2 _ _ hgc).trans HK.out.2.2.2.2.1
      have k6 : W2.cell? ⟨w.heap.size, 6, none⟩ = some (.int .i32 m) := (hc2 _ _ hgc).trans HK.out.2.2.2.2.2
      have ht2 : Tb W2 := htc.step hbw2
      have HS := Lib.hid hst
      have HOL := Lib.hid hol
      have HI2 := Lib.hid (And.intro hit2 (And.intro hbw2 hown2))
      clear hc2 hf2 hst hol hit2 hbw2 hown2 ha
      go_upto_block 2 with fail
      go_cut [7, 11] from 38 to 111 (fun ln x' wx => ln = .string (prLine ⟨c, f, d, a, b, e, m⟩ x s) ∧ x' = .string (prX ⟨c, f, d, a, b, e, m⟩ x) ∧ Below W2.heap.size W2 wx)
      case first =>
        have HX := Lib.hid HOL.out.2.2.2
        have hs200 : s.size ≤ 160 := by have := hss.out.1; have := hlen6.out; omega
        clear HS HI2 hp hnx hpl
        rcases HX.out with rfl | rfl | rfl | rfl | rfl | rfl | rfl | rfl | rfl | rfl | rfl | rfl | rfl | rfl
        · have hr := HOL.out.1 rfl
          have hz := fmt_size f
          have r1 : ∀ W, (Op.stringOp .add ⟨#[46]⟩ (nth fmtN f)).run Tryd.prog W = .ok (.string (⟨#[46]⟩ ++ nth fmtN f)) W := fun W => run_string_add_sum W _ _ (by have : (⟨#[46]⟩ : ByteArray).size = 1 := rfl; omega)
          have r2 : ∀ W, (Op.stringOp .add s (⟨#[46]⟩ ++ nth fmtN f)).run Tryd.prog W = .ok (.string (s ++ (⟨#[46]⟩ ++ nth fmtN f))) W := fun W => run_string_add_sum W _ _ (by have : (⟨#[46]⟩ : ByteArray).size = 1 := rfl; rw [size_app]; omega)
          clear hz
          clear HX HOL
          go_wp2_with (go_at_call 19; refine (asm_name _ _ flds_formats (by decide) (ascii_of _ (by decide +kernel)) f hr.1 hr.2 W2 ht2).mono ?_; rintro e4 w4 ⟨rfl, hb4⟩)
          go_meet
          exact ⟨by simp [prLine], by simp [prX], hb4⟩
        · clear HX HOL
          go_wp2_with fail
          go_meet
          exact ⟨by simp [prLine], by simp [prX], Below.refl _ _⟩
        · have hr := HOL.out.2.1 (by decide)
          have hz := rel_size e
          have r1 : ∀ W, (Op.stringOp .add ⟨#[46]⟩ (nth relN e)).run Tryd.prog W = .ok (.string (⟨#[46]⟩ ++ nth relN e)) W := fun W => run_string_add_sum W _ _ (by have : (⟨#[46]⟩ : ByteArray).size = 1 := rfl; omega)
          have r2 : ∀ W, (Op.stringOp .add s (⟨#[46]⟩ ++ nth relN e)).run Tryd.prog W = .ok (.string (s ++ (⟨#[46]⟩ ++ nth relN e))) W := fun W => run_string_add_sum W _ _ (by have : (⟨#[46]⟩ : ByteArray).size = 1 := rfl; rw [size_app]; omega)
          clear hz
          clear HX HOL
          go_wp2_with (go_at_call 19; refine (asm_name _ _ flds_rel (by decide) (ascii_of _ (by decide +kernel)) e hr.1 hr.2 W2 ht2).mono ?_; rintro e4 w4 ⟨rfl, hb4⟩)
          go_meet
          exact ⟨by simp [prLine], by simp [prX], hb4⟩
        · have hr := HOL.out.2.1 (by decide)
          have hz := fmt_size e
          have r1 : ∀ W, (Op.stringOp .add ⟨#[46]⟩ (nth fmtN e)).run Tryd.prog W = .ok (.string (⟨#[46]⟩ ++ nth fmtN e)) W := fun W => run_string_add_sum W _ _ (by have : (⟨#[46]⟩ : ByteArray).size = 1 := rfl; omega)
          have r2 : ∀ W, (Op.stringOp .add s (⟨#[46]⟩ ++ nth fmtN e)).run Tryd.prog W = .ok (.string (s ++ (⟨#[46]⟩ ++ nth fmtN e))) W := fun W => run_string_add_sum W _ _ (by have : (⟨#[46]⟩ : ByteArray).size = 1 := rfl; rw [size_app]; omega)
          clear hz
          clear HX HOL
          go_wp2_with (go_at_call 19; refine (asm_name _ _ flds_formats (by decide) (ascii_of _ (by decide +kernel)) e hr.1 hr.2 W2 ht2).mono ?_; rintro e4 w4 ⟨rfl, hb4⟩)
          go_meet
          exact ⟨by simp [prLine], by simp [prX], hb4⟩
        · have hr := HOL.out.2.1 (by decide)
          have hz := kind_size e
          have r1 : ∀ W, (Op.stringOp .add ⟨#[46]⟩ (nth kindN e)).run Tryd.prog W = .ok (.string (⟨#[46]⟩ ++ nth kindN e)) W := fun W => run_string_add_sum W _ _ (by have : (⟨#[46]⟩ : ByteArray).size = 1 := rfl; omega)
          have r2 : ∀ W, (Op.stringOp .add s (⟨#[46]⟩ ++ nth kindN e)).run Tryd.prog W = .ok (.string (s ++ (⟨#[46]⟩ ++ nth kindN e))) W := fun W => run_string_add_sum W _ _ (by have : (⟨#[46]⟩ : ByteArray).size = 1 := rfl; rw [size_app]; omega)
          clear hz
          clear HX HOL
          go_wp2_with (go_at_call 19; refine (asm_name _ _ flds_kinds (by decide) (ascii_of _ (by decide +kernel)) e hr.1 hr.2 W2 ht2).mono ?_; rintro e4 w4 ⟨rfl, hb4⟩)
          go_meet
          exact ⟨by simp [prLine], by simp [prX], hb4⟩
        · have hr1 := HIN.out.d1
          have hr2 := HIN.out.d2
          have hno := asm_Itoa d (Int.le_trans (by decide) hr1) (Int.le_trans hr2 (by decide)) W2 ht2
          have hz := num_size d (Int.le_trans (by decide) hr1) (Int.le_trans hr2 (by decide))
          have r1 : ∀ W, (Op.stringOp .add ⟨#[114]⟩ (num d)).run Tryd.prog W = .ok (.string (⟨#[114]⟩ ++ num d)) W := fun W => run_string_add_sum W _ _ (by have : (⟨#[114]⟩ : ByteArray).size = 1 := rfl; omega)
          clear HX HOL hr1 hr2 hz
          go_wp2_with (go_at_call 20; refine hno.mono ?_; rintro e4 w4 ⟨rfl, hb4⟩)
          go_meet
          exact ⟨by simp [prLine], by simp [prX], hb4⟩
        · have hr1 := HIN.out.a1
          have hr2 := HIN.out.a2
          have hno := asm_Itoa a (Int.le_trans (by decide) hr1) (Int.le_trans hr2 (by decide)) W2 ht2
          have hz := num_size a (Int.le_trans (by decide) hr1) (Int.le_trans hr2 (by decide))
          have r1 : ∀ W, (Op.stringOp .add ⟨#[114]⟩ (num a)).run Tryd.prog W = .ok (.string (⟨#[114]⟩ ++ num a)) W := fun W => run_string_add_sum W _ _ (by have : (⟨#[114]⟩ : ByteArray).size = 1 := rfl; omega)
          clear HX HOL hr1 hr2 hz
          go_wp2_with (go_at_call 20; refine hno.mono ?_; rintro e4 w4 ⟨rfl, hb4⟩)
          go_meet
          exact ⟨by simp [prLine], by simp [prX], hb4⟩
        · have hr1 := HIN.out.b1
          have hr2 := HIN.out.b2
          have hno := asm_Itoa b (Int.le_trans (by decide) hr1) (Int.le_trans hr2 (by decide)) W2 ht2
          have hz := num_size b (Int.le_trans (by decide) hr1) (Int.le_trans hr2 (by decide))
          have r1 : ∀ W, (Op.stringOp .add ⟨#[114]⟩ (num b)).run Tryd.prog W = .ok (.string (⟨#[114]⟩ ++ num b)) W := fun W => run_string_add_sum W _ _ (by have : (⟨#[114]⟩ : ByteArray).size = 1 := rfl; omega)
          clear HX HOL hr1 hr2 hz
          go_wp2_with (go_at_call 20; refine hno.mono ?_; rintro e4 w4 ⟨rfl, hb4⟩)
          go_meet
          exact ⟨by simp [prLine], by simp [prX], hb4⟩
        · have hr1 := HIN.out.e1
          have hr2 := HIN.out.e2
          have hno := asm_Itoa e (Int.le_trans (by decide) hr1) (Int.le_trans hr2 (by decide)) W2 ht2
          have hz := num_size e (Int.le_trans (by decide) hr1) (Int.le_trans hr2 (by decide))
          have r1 : ∀ W, (Op.stringOp .add ⟨#[114]⟩ (num e)).run Tryd.prog W = .ok (.string (⟨#[114]⟩ ++ num e)) W := fun W => run_string_add_sum W _ _ (by have : (⟨#[114]⟩ : ByteArray).size = 1 := rfl; omega)
          clear HX HOL hr1 hr2 hz
          go_wp2_with (go_at_call 20; refine hno.mono ?_; rintro e4 w4 ⟨rfl, hb4⟩)
          go_meet
          exact ⟨by simp [prLine], by simp [prX], hb4⟩
        · have hr1 := HMB.out.1
          have hr2 := HMB.out.2
          have hno := asm_Itoa m (Int.le_trans (by decide) hr1) (Int.le_trans hr2 (by decide)) W2 ht2
          have hz := num_size m (Int.le_trans (by decide) hr1) (Int.le_trans hr2 (by decide))
          have r1 : ∀ W, (Op.stringOp .add ⟨#[114]⟩ (num m)).run Tryd.prog W = .ok (.string (⟨#[114]⟩ ++ num m)) W := fun W => run_string_add_sum W _ _ (by have : (⟨#[114]⟩ : ByteArray).size = 1 := rfl; omega)
          have hwm : wrap64 m = m := Go.IntWalk.wrap64_in m ⟨Int.le_trans (by decide) hr1, Int.le_trans hr2 (by decide)⟩
          clear HX HOL hr1 hr2 hz
          go_wp2_with (go_at_call 20; refine hno.mono ?_; rintro e4 w4 ⟨rfl, hb4⟩)
          go_meet
          exact ⟨by simp [prLine], by simp [prX], hb4⟩
        · have hr1 := HMB.out.1
          have hr2 := HMB.out.2
          have hno := asm_Itoa m (Int.le_trans (by decide) hr1) (Int.le_trans hr2 (by decide)) W2 ht2
          have hz := num_size m (Int.le_trans (by decide) hr1) (Int.le_trans hr2 (by decide))
          have r1 : ∀ W, (Op.stringOp .add ⟨#[114]⟩ (num m)).run Tryd.prog W = .ok (.string (⟨#[114]⟩ ++ num m)) W := fun W => run_string_add_sum W _ _ (by have : (⟨#[114]⟩ : ByteArray).size = 1 := rfl; omega)
          have hwm : wrap64 m = m := Go.IntWalk.wrap64_in m ⟨Int.le_trans (by decide) hr1, Int.le_trans hr2 (by decide)⟩
          clear HX HOL hr1 hr2 hz
          go_wp2_with (go_at_call 20; refine hno.mono ?_; rintro e4 w4 ⟨rfl, hb4⟩)
          go_meet
          exact ⟨by simp [prLine], by simp [prX], hb4⟩
        · have hr1 := HMB.out.1
          have hr2 := HMB.out.2
          have hno := asm_Itoa m (Int.le_trans (by decide) hr1) (Int.le_trans hr2 (by decide)) W2 ht2
          have hz := num_size m (Int.le_trans (by decide) hr1) (Int.le_trans hr2 (by decide))
          have r1 : ∀ W, (Op.stringOp .add ⟨#[114]⟩ (num m)).run Tryd.prog W = .ok (.string (⟨#[114]⟩ ++ num m)) W := fun W => run_string_add_sum W _ _ (by have : (⟨#[114]⟩ : ByteArray).size = 1 := rfl; omega)
          have hwm : wrap64 m = m := Go.IntWalk.wrap64_in m ⟨Int.le_trans (by decide) hr1, Int.le_trans hr2 (by decide)⟩
          clear HX HOL hr1 hr2 hz
          go_wp2_with (go_at_call 20; refine hno.mono ?_; rintro e4 w4 ⟨rfl, hb4⟩)
          go_meet
          exact ⟨by simp [prLine], by simp [prX], hb4⟩
        · have hr := HOL.out.2.2.1 rfl
          clear HX HOL
          go_wp2_with (go_at_call 19; refine (asm_name _ _ flds_modes (by decide) (ascii_of _ (by decide +kernel)) e hr.1 hr.2 W2 ht2).mono ?_; rintro e4 w4 ⟨rfl, hb4⟩)
          go_meet
          exact ⟨by simp [prLine], by simp [prX], hb4⟩
        · have hr1 := HIN.out.e1
          have hr2 := HIN.out.e2
          clear HX HOL
          go_wp2_with (go_at_call 21; refine (asm_setName e hr1 (Int.lt_of_le_of_lt hr2 (by decide)) W2).mono ?_; rintro e4 w4 ⟨rfl, hb4⟩)
          go_meet
          exact ⟨by simp [prLine], by simp [prX], hb4⟩
      case rest =>
        obtain ⟨rfl, rfl, hbx⟩ := hcut
        obtain ⟨hit2, hbw2, hown2⟩ := HI2.out
        have hown3 := own_below hown2 hbx
        have hit3 := at_below hit2 hbx
        have hbw3 := hbw2.trans (hbx.mono hbw2.size)
        have hHS := HS.out
        have hl2 := prLine_size ⟨c, f, d, a, b, e, m⟩ x s
        generalize prLine ⟨c, f, d, a, b, e, m⟩ x s = l2 at *
        generalize prX ⟨c, f, d, a, b, e, m⟩ x = y at *
        have HE := Lib.hid (And.intro hHS (show l2.size ≤ 100 + 10 * (pos + 1) by have := hss.out.1; omega))
        clear hHS HS hl2 hnx HI2 hit2 hbw2 hown2 k1 k2 k3 k4 k5 k6
        have HIT3 := Lib.hid (And.intro hit3 hbw3)
        by_cases hy : y = ⟨#[]⟩
        · subst hy
          clear hit3 hbw3
          have HOW := Lib.hid hown3
          clear hown3
          go_wp2_with fail
          go_roundw
          case rel => exact ⟨pos + 1, l2, ops, rfl, HOW, HIT3.out.1, HIT3.out.2, Lib.hid (by have := HE.out.1; simpa using this), Lib.hid ⟨HE.out.2, Nat.le_succ_of_le hss.out.2⟩, by omega⟩
          case measure => rw [iterPos_of HIT3.out.1, HHIT.out]; omega
        · have hyB : y.toList.isEmpty = false := isEmpty_of hy
          obtain ⟨i0, hi, hz0, hz1, hz2⟩ := info_parts (show (Tryd.prog.info? 9).map (fun i => (i.zero, i.size, i.bytes)) = some (some (.string ⟨#[]⟩), 1, 16) by kernel_rfl)
          have hwx : wq.heap.size + 1 ≤ wc.heap.size := (Array.getElem?_eq_some_iff.1 hit3).1
          have hopl : ops.length ≤ 2000 := by have := hss.out.2; have := hlen6.out; omega
          go_wp2_with (at_builtin; refine wpList_append_own _ rfl _ _ 58 rfl (wq.heap.size + 1) 9 i0 (.string ⟨#[]⟩) 1 16 Tryd.underlying58 hi hz0 hz1 hz2 rfl (by decide) _ _ _ rfl (hown3.alloc _) ⟨wc.heap.size, 0, none⟩ 1 1 [.string y] rfl rfl ?c1 ?c2 ?c3 ?c4 ?c5 ?_)
          case c1 =>
            intro j u hj
            match j, hj with
            | 0, hj => simp at hj; subst hj; simp [Addr.add]
          case c2 => intro u hu; simp at hu; subst hu; rfl
          case c3 => unfold maxLen; omega
          case c4 => omega
          case c5 => simp; omega
          intro v' w5 hown' hgrow _
          have hit5 : w5.heap[wq.heap.size]? = some (.stringIter ⟨sh.toArray⟩ (pos + 1)) :=
            (hgrow.block _ (by simp; omega) (own_ne_iter hown3 hit3)).trans (at_old hit3 _)
          have hbw5 : Below wq.heap.size wq w5 := (hbw3.alloc hbw3.size _).grown hgrow (by have := hbw3.size; simp; omega) (fun k hk => Nat.le_trans (Nat.le_succ _) (hown3.lt k hk).1)
          have HOW : Hid (w5.ownsRow (wq.heap.size + 1) 9 1 v' (ops ++ [y]).length ((ops ++ [y]).map Value.string)) := Lib.hid (by simpa using hown')
          clear hit3 hbw3 hown3 hown' hgrow
          go_wp2_with fail
          go_roundw
          case rel => exact ⟨pos + 1, l2, ops ++ [y], rfl, HOW, hit5, hbw5, Lib.hid (by have := HE.out.1; rw [if_neg hy] at this; exact this), Lib.hid ⟨HE.out.2, by have := hss.out.2; simp; omega⟩, by omega⟩
          case measure => rw [iterPos_of hit5, HHIT.out]; omega
    · have hnx : ∀ ty, (Instr.next (.pointer (some ⟨wq.heap.size, 0, none⟩)) true ty).run Tryd.prog wr = .ok (.tuple #[.bool false]) wr :=
        fun ty => Lib.run_next_end_at wr wq.heap.size ⟨sh.toArray⟩ pos ty hit (by show ¬ pos < sh.toArray.size; simpa using hp)
      have hfin : (s, ops) = fin := by
        have := hgo.out
        rw [List.drop_of_length_le (by omega)] at this
        exact this
      subst hfin
      have hbw' : Below w.heap.size w wr := HBC.out.trans (hbw.mono (Nat.le_of_lt hgc))
      have hs200 : s.size ≤ 160 := by have := hss.out.1; have := hlen6.out; omega
      have hops : ops.length ≤ 6 := by have := hss.out.2; have := hlen6.out; omega
      have HB := Lib.hid hbw'
      have HOWN := Lib.hid (own_slice hown.out)
      clear hit hbw hgo hown hbw' hss
      obtain ⟨rfl, ao, cap, rfl⟩ | ⟨hz, g, cap, rfl, hg, hcap, hcells⟩ := HOWN.out
      · go_wp2_with fail
        go_ret2
        exact ⟨ret2 (v_str (by simp [lineOf])) rfl, HB.out⟩
      · have hJ := Tryd.strings_Join g 0 cap ops ⟨#[44, 32]⟩ wr hcells hg (by omega) hcap HL2.out
        have hpos : (0 : Int) < (ops.length : Int) := by have := List.length_pos_iff.2 hz; omega
        have hjl := HL2.out
        clear hcells HL2
        simp only at hjl
        have r1 : ∀ W, (Op.stringOp .add ⟨#[32]⟩ ⟨(Lib.join (ops.map (·.data.toList)) [44, 32]).toArray⟩).run Tryd.prog W = .ok (.string (⟨#[32]⟩ ++ ⟨(Lib.join (ops.map (·.data.toList)) [44, 32]).toArray⟩)) W :=
          fun W => run_string_add_sum W _ _ (by have : (⟨#[32]⟩ : ByteArray).size = 1 := rfl; have : (⟨(Lib.join (ops.map (·.data.toList)) [44, 32]).toArray⟩ : ByteArray).size = (Lib.join (ops.map (·.data.toList)) [44, 32]).length := by simp [ByteArray.size]
                                                omega)
        have r2 : ∀ W, (Op.stringOp .add s (⟨#[32]⟩ ++ ⟨(Lib.join (ops.map (·.data.toList)) [44, 32]).toArray⟩)).run Tryd.prog W = .ok (.string (s ++ (⟨#[32]⟩ ++ ⟨(Lib.join (ops.map (·.data.toList)) [44, 32]).toArray⟩))) W :=
          fun W => run_string_add_sum W _ _ (by have : (⟨#[32]⟩ : ByteArray).size = 1 := rfl; have : (⟨(Lib.join (ops.map (·.data.toList)) [44, 32]).toArray⟩ : ByteArray).size = (Lib.join (ops.map (·.data.toList)) [44, 32]).length := by simp [ByteArray.size]
                                                rw [size_app]; omega)
        have HL := Lib.hid (show lineOf s ops = s ++ (⟨#[32]⟩ ++ ⟨(Lib.join (ops.map (·.data.toList)) [44, 32]).toArray⟩) by unfold lineOf; rw [if_neg hz]; rfl)
        clear hjl hz
        change ∀ W, _ at r1
        generalize (⟨(Lib.join (ops.map (·.data.toList)) [44, 32]).toArray⟩ : ByteArray) = JJ at *
        go_wp2_with (go_at_call 22; refine hJ.mono ?_; rintro e6 w6 ⟨rfl, hb6⟩)
        go_ret2
        exact ⟨ret2 (v_str HL.out.symm) rfl, HB.out.trans (hb6.mono HB.out.size)⟩

end Go.Proofs.YthaooekohjmhdaaDoor
