/- The plain law of layer 25's lines: the letters of an instruction lead to the document's first word and operands. -/
import Derived.Test.YthaooekohjmhdaaDoorPrnS
set_option linter.unusedVariables false
set_option linter.unusedSimpArgs false
namespace Go.Proofs.YthaooekohjmhdaaDoor
open Go.RowKit

theorem app_assoc (a b c : ByteArray) : (a ++ b) ++ c = a ++ (b ++ c) := B_ext (by simp only [append_list, List.append_assoc])

theorem regN_ne (n : Int) : regN n ≠ ⟨#[]⟩ := reg_ne n
theorem fold_D (i : Ins) (ls : List UInt8) (s : ByteArray) (ops : List ByteArray) : prFold i (68 :: ls) (s, ops) = prFold i ls (s, ops ++ [regN i.d]) := by
  show prFold i ls (prLine i 68 s, if regN i.d = ⟨#[]⟩ then ops else ops ++ [regN i.d]) = _
  rw [if_neg (regN_ne i.d)]; rfl
theorem fold_A (i : Ins) (ls : List UInt8) (s : ByteArray) (ops : List ByteArray) : prFold i (65 :: ls) (s, ops) = prFold i ls (s, ops ++ [regN i.a]) := by
  show prFold i ls (prLine i 65 s, if regN i.a = ⟨#[]⟩ then ops else ops ++ [regN i.a]) = _
  rw [if_neg (regN_ne i.a)]; rfl
theorem fold_B (i : Ins) (ls : List UInt8) (s : ByteArray) (ops : List ByteArray) : prFold i (66 :: ls) (s, ops) = prFold i ls (s, ops ++ [regN i.b]) := by
  show prFold i ls (prLine i 66 s, if regN i.b = ⟨#[]⟩ then ops else ops ++ [regN i.b]) = _
  rw [if_neg (regN_ne i.b)]; rfl
theorem fold_C (i : Ins) (ls : List UInt8) (s : ByteArray) (ops : List ByteArray) : prFold i (67 :: ls) (s, ops) = prFold i ls (s, ops ++ [regN i.e]) := by
  show prFold i ls (prLine i 67 s, if regN i.e = ⟨#[]⟩ then ops else ops ++ [regN i.e]) = _
  rw [if_neg (regN_ne i.e)]; rfl
theorem fold_i (i : Ins) (ls : List UInt8) (s : ByteArray) (ops : List ByteArray) : prFold i (105 :: ls) (s, ops) = prFold i ls (s, ops ++ [num i.m]) := by
  show prFold i ls (prLine i 105 s, if num i.m = ⟨#[]⟩ then ops else ops ++ [num i.m]) = _
  rw [if_neg (num_ne i.m)]; rfl
theorem fold_t (i : Ins) (ls : List UInt8) (s : ByteArray) (ops : List ByteArray) : prFold i (116 :: ls) (s, ops) = prFold i ls (s, ops ++ [num i.m]) := by
  show prFold i ls (prLine i 116 s, if num i.m = ⟨#[]⟩ then ops else ops ++ [num i.m]) = _
  rw [if_neg (num_ne i.m)]; rfl
theorem fold_v (i : Ins) (ls : List UInt8) (s : ByteArray) (ops : List ByteArray) : prFold i (118 :: ls) (s, ops) = prFold i ls (s, ops ++ [num i.m]) := by
  show prFold i ls (prLine i 118 s, if num i.m = ⟨#[]⟩ then ops else ops ++ [num i.m]) = _
  rw [if_neg (num_ne i.m)]; rfl
theorem fold_m (i : Ins) (h0 : 0 ≤ i.e) (h1 : i.e < 6) (ls : List UInt8) (s : ByteArray) (ops : List ByteArray) : prFold i (109 :: ls) (s, ops) = prFold i ls (s, ops ++ [nth modeN i.e]) := by
  show prFold i ls (prLine i 109 s, if nth modeN i.e = ⟨#[]⟩ then ops else ops ++ [nth modeN i.e]) = _
  rw [if_neg (mode_ne i.e h0 h1)]; rfl
theorem fold_s (i : Ins) (h0 : 0 ≤ i.e) (h1 : i.e < 32) (ls : List UInt8) (s : ByteArray) (ops : List ByteArray) : prFold i (115 :: ls) (s, ops) = prFold i ls (s, ops ++ [setN i.e]) := by
  show prFold i ls (prLine i 115 s, if setN i.e = ⟨#[]⟩ then ops else ops ++ [setN i.e]) = _
  rw [if_neg (set_ne i.e h0 h1)]; rfl
theorem fold_f (i : Ins) (ls : List UInt8) (s : ByteArray) (ops : List ByteArray) : prFold i (102 :: ls) (s, ops) = prFold i ls (s ++ (⟨#[46]⟩ ++ nth fmtN i.f), ops) := rfl
theorem fold_u (i : Ins) (ls : List UInt8) (s : ByteArray) (ops : List ByteArray) : prFold i (117 :: ls) (s, ops) = prFold i ls (s, ops) := rfl
theorem fold_r (i : Ins) (ls : List UInt8) (s : ByteArray) (ops : List ByteArray) : prFold i (114 :: ls) (s, ops) = prFold i ls (s ++ (⟨#[46]⟩ ++ nth relN i.e), ops) := rfl
theorem fold_g (i : Ins) (ls : List UInt8) (s : ByteArray) (ops : List ByteArray) : prFold i (103 :: ls) (s, ops) = prFold i ls (s ++ (⟨#[46]⟩ ++ nth fmtN i.e), ops) := rfl
theorem fold_k (i : Ins) (ls : List UInt8) (s : ByteArray) (ops : List ByteArray) : prFold i (107 :: ls) (s, ops) = prFold i ls (s ++ (⟨#[46]⟩ ++ nth kindN i.e), ops) := rfl
theorem fold_nil (i : Ins) (st : ByteArray × List ByteArray) : prFold i [] st = st := rfl

/-- what an instruction that is right is like. -/
structure Good (i : Ins) : Prop where
  sh2 : (pShape i).2 = true
  fold : prFold i (pShape i).1 (headN i, []) = (mnemR i, opsR i)
  ok : ∀ x ∈ (pShape i).1, okL i (x.toNat : Int)
  m1 : i.c = 1 → 1 ≤ i.m ∧ i.m < 23 ∧ 0 ≤ i.f ∧ i.f < 4 ∧ (i.m = 10 ∨ i.m = 11 ∨ i.m = 12 → 0 ≤ i.e ∧ i.e < 4)
  e9 : i.c = 9 → i.e < 4
  e10 : i.c = 10 → i.e < 6

theorem hasF_of (i : Ins) (h : refErr i = 0) : (hasF i).2 = true ∧ inF i (hasF i).1 = true := by
  unfold refErr at h
  by_cases hh : (hasF i).2 = true
  · rw [if_pos hh] at h
    by_cases hn : inF i (hasF i).1 = true
    · exact ⟨hh, hn⟩
    · rw [if_neg hn] at h; omega
  · rw [if_neg hh] at h; omega

theorem okL_reg (i : Ins) {x : Int} (h : x = 68 ∨ x = 65 ∨ x = 66 ∨ x = 67 ∨ x = 105 ∨ x = 116 ∨ x = 118 ∨ x = 117 ∨ x = 115) : okL i x := by
  refine ⟨fun h' => by omega, fun h' => by omega, fun h' => by omega, by omega⟩

theorem good_plain (c f d a b e m : Int) (h : refErr ⟨c, f, d, a, b, e, m⟩ = 0) (hn : c ≠ 1) : Good ⟨c, f, d, a, b, e, m⟩ := by
  have hin := refErr_in _ h
  obtain ⟨h1, h2⟩ := hasF_of _ h
  have e0 := hin.e1
  have e1 := hin.e2
  have c0 := hin.c1
  have c1 := hin.c2
  simp only at e0 e1 c0 c1
  have hc : c = 0 ∨ c = 2 ∨ c = 3 ∨ c = 4 ∨ c = 5 ∨ c = 6 ∨ c = 7 ∨ c = 8 ∨ c = 9 ∨ c = 10 ∨ c = 11 ∨ c = 12 ∨ c = 13 ∨ c = 14 := by omega
  clear h hin
  rcases hc with rfl | rfl | rfl | rfl | rfl | rfl | rfl | rfl | rfl | rfl | rfl | rfl | rfl | rfl
  case inl => exact ⟨rfl, rfl, (by intro x hx; cases hx), fun h => by simp at h, fun h => by simp at h, fun h => by simp at h⟩
  case inr.inr.inr.inr.inr.inr.inr.inr.inl =>
    have h4 : e < 4 := by simp [hasF, inF] at h2; omega
    refine ⟨rfl, ?_, ?_, fun h => by simp at h, fun _ => h4, fun h => by simp at h⟩
    · show prFold _ [114, 65, 116] (nth plainN 9, []) = _
      rw [fold_r, fold_A, fold_t, fold_nil]
      show (_, _) = (⟨#[98, 114, 46]⟩ ++ nth relN e, _)
      refine Prod.ext (B_ext ?_) rfl
      simp only [append_list]
      rfl
    · intro x hx
      have : x = 114 ∨ x = 65 ∨ x = 116 := by simpa [pShape] using hx
      rcases this with rfl | rfl | rfl
      · exact ⟨fun h' => absurd h' (by decide), fun _ => ⟨e0, h4⟩, fun h' => absurd h' (by decide), by decide⟩
      · exact okL_reg _ (by decide)
      · exact okL_reg _ (by decide)
  case inr.inr.inr.inr.inr.inr.inr.inr.inr.inl =>
    have h4 : e < 6 := by simp [hasF, inF] at h2; omega
    refine ⟨rfl, ?_, ?_, fun h => by simp at h, fun h => by simp at h, fun _ => h4⟩
    · show prFold _ [109] (nth plainN 10, []) = _
      rw [fold_m _ e0 h4, fold_nil]
      rfl
    · intro x hx
      have : x = 109 := by simpa [pShape] using hx
      subst this
      exact ⟨fun h' => absurd h' (by decide), fun h' => absurd h' (by decide), fun _ => ⟨e0, h4⟩, by decide⟩
  case inr.inr.inr.inr.inr.inr.inr.inr.inr.inr.inl =>
    refine ⟨rfl, ?_, ?_, fun h => by simp at h, fun h => by simp at h, fun h => by simp at h⟩
    · show prFold _ [115] (nth plainN 11, []) = _
      rw [fold_s _ e0 (by show e < 32; omega), fold_nil]
      rfl
    · intro x hx
      have : x = 115 := by simpa [pShape] using hx
      subst this
      exact okL_reg _ (by decide)
  case inr.inr.inr.inr.inr.inr.inr.inr.inr.inr.inr.inl =>
    refine ⟨rfl, ?_, ?_, fun h => by simp at h, fun h => by simp at h, fun h => by simp at h⟩
    · show prFold _ [68, 115] (nth plainN 12, []) = _
      rw [fold_D, fold_s _ e0 (by show e < 32; omega), fold_nil]
      rfl
    · intro x hx
      have : x = 68 ∨ x = 115 := by simpa [pShape] using hx
      rcases this with rfl | rfl <;> exact okL_reg _ (by decide)
  all_goals
    refine ⟨rfl, ?_, ?_, fun h => by simp at h, fun h => by simp at h, fun h => by simp at h⟩
    · first
        | rfl
        | (show prFold _ [68, 65, 105] _ = _; rw [fold_D, fold_A, fold_i, fold_nil]; rfl)
        | (show prFold _ [66, 65, 105] _ = _; rw [fold_B, fold_A, fold_i, fold_nil]; rfl)
        | (show prFold _ [68, 105] _ = _; rw [fold_D, fold_i, fold_nil]; rfl)
        | (show prFold _ [68, 65] _ = _; rw [fold_D, fold_A, fold_nil]; rfl)
        | (show prFold _ [116] _ = _; rw [fold_t, fold_nil]; rfl)
        | (show prFold _ [118] _ = _; rw [fold_v, fold_nil]; rfl)
    · intro x hx
      simp [pShape] at hx
      try (rcases hx with rfl | rfl | rfl <;> exact okL_reg _ (by decide))
      try (rcases hx with rfl | rfl <;> exact okL_reg _ (by decide))
      try (subst hx; exact okL_reg _ (by decide))

theorem good_unit (f d a b e m : Int) (h : refErr ⟨1, f, d, a, b, e, m⟩ = 0) : Good ⟨1, f, d, a, b, e, m⟩ := by
  have hin := refErr_in _ h
  obtain ⟨h1, h2⟩ := hasF_of _ h
  have e0 := hin.e1
  have e1 := hin.e2
  simp only at e0 e1
  have hb : 0 ≤ f ∧ f < 4 ∧ 1 ≤ m ∧ m < 23 := by
    by_cases hh : f < 0 ∨ 3 < f ∨ m < 1 ∨ 23 ≤ m
    · simp [hasF, hh] at h1
    · omega
  obtain ⟨hf0, hf1, hm0, hm1⟩ := hb
  have he4 : m = 10 ∨ m = 11 ∨ m = 12 → 0 ≤ e ∧ e < 4 := by
    intro hm
    have hh : ¬ (f < 0 ∨ 3 < f ∨ m < 1 ∨ 23 ≤ m) := by omega
    have h3 : e < (hasF ⟨1, f, d, a, b, e, m⟩).1.e := by
      simp only [inF, Bool.and_eq_true, decide_eq_true_eq] at h2
      exact h2.1.1.1.2
    have h4 : (hasF ⟨1, f, d, a, b, e, m⟩).1.e = (opBC m).2 := by simp [hasF, hh]
    rw [h4] at h3
    have h5 : (opBC m).2 = 4 := by rcases hm with rfl | rfl | rfl <;> rfl
    omega
  have hdf : (decide (0 ≤ f) && decide (f ≤ 3)) = true := by simp; omega
  have okf : okL ⟨1, f, d, a, b, e, m⟩ 102 := ⟨fun _ => ⟨hf0, hf1⟩, fun h' => absurd h' (by decide), fun h' => absurd h' (by decide), by decide⟩
  have hmm : (m = 1 ∨ m = 2 ∨ m = 3 ∨ m = 4 ∨ m = 7 ∨ m = 8 ∨ m = 13 ∨ m = 14 ∨ m = 15 ∨ m = 16 ∨ m = 18 ∨ m = 22) ∨ (m = 5 ∨ m = 9 ∨ m = 17 ∨ m = 19 ∨ m = 20 ∨ m = 21) ∨ m = 6 ∨ m = 10 ∨ (m = 11 ∨ m = 12) := by omega
  clear h hin h1 h2
  rcases hmm with hc | hc | hc | hc | hc
  · have hu : uShape m = ([68, 65, 66], true) := by unfold uShape; rw [if_pos hc]
    have hbc : opBC m = (32, 1) := by unfold opBC; rw [if_pos hc]
    have hs : pShape ⟨1, f, d, a, b, e, m⟩ = ([102, 117] ++ [68, 65, 66], true && decide (0 ≤ f) && decide (f ≤ 3)) := by
      show (([102, 117] ++ (uShape m).1, (uShape m).2 && decide (0 ≤ f) && decide (f ≤ 3)) : List UInt8 × Bool) = _
      rw [hu]
    have hmn : mnemR ⟨1, f, d, a, b, e, m⟩ = ((nth unitN m ++ ⟨#[46]⟩) ++ nth fmtN f) := by
      unfold mnemR
      rw [if_neg (show ¬ (1 : Int) = 9 by decide), if_pos (show (1 : Int) = 1 from rfl), if_neg (show ¬ m = 10 by omega), if_neg (show ¬ (m = 11 ∨ m = 12) by omega)]
    have hop : opsR ⟨1, f, d, a, b, e, m⟩ = [regN d, regN a, regN b] := by
      show [regN d, regN a] ++ ((if (opBC m).1 = 32 then [regN b] else []) ++ (if (opBC m).2 = 32 then [regN e] else [])) = _
      rw [hbc]
      rfl
    refine ⟨?_, ?_, ?_, fun _ => ⟨hm0, hm1, hf0, hf1, he4⟩, fun h => by simp at h, fun h => by simp at h⟩
    · rw [hs]
      show (true && decide (0 ≤ f) && decide (f ≤ 3)) = true
      simpa using hdf
    · rw [hs, hmn, hop]
      show prFold _ [102, 117, 68, 65, 66] (nth unitN m, []) = _
      rw [fold_f, fold_u, fold_D, fold_A, fold_B, fold_nil]
      exact Prod.ext (app_assoc _ _ _).symm rfl
    · rw [hs]
      intro x hx
      have hx2 : x ∈ ([102, 117, 68, 65, 66] : List UInt8) := hx
      have hcs : x = 102 ∨ (x = 117 ∨ x = 68 ∨ x = 65 ∨ x = 66 ∨ x = 67) := by
        clear hx
        revert x
        decide
      rcases hcs with rfl | hr
      · exact okf
      · exact okL_reg _ (by rcases hr with rfl | rfl | rfl | rfl | rfl <;> decide)
  · have hu : uShape m = ([68, 65], true) := by unfold uShape; rw [if_neg (by omega), if_pos hc]
    have hbc : opBC m = (1, 1) := by unfold opBC; rw [if_neg (by omega), if_neg (by omega), if_neg (by omega)]
    have hs : pShape ⟨1, f, d, a, b, e, m⟩ = ([102, 117] ++ [68, 65], true && decide (0 ≤ f) && decide (f ≤ 3)) := by
      show (([102, 117] ++ (uShape m).1, (uShape m).2 && decide (0 ≤ f) && decide (f ≤ 3)) : List UInt8 × Bool) = _
      rw [hu]
    have hmn : mnemR ⟨1, f, d, a, b, e, m⟩ = ((nth unitN m ++ ⟨#[46]⟩) ++ nth fmtN f) := by
      unfold mnemR
      rw [if_neg (show ¬ (1 : Int) = 9 by decide), if_pos (show (1 : Int) = 1 from rfl), if_neg (show ¬ m = 10 by omega), if_neg (show ¬ (m = 11 ∨ m = 12) by omega)]
    have hop : opsR ⟨1, f, d, a, b, e, m⟩ = [regN d, regN a] := by
      show [regN d, regN a] ++ ((if (opBC m).1 = 32 then [regN b] else []) ++ (if (opBC m).2 = 32 then [regN e] else [])) = _
      rw [hbc]
      rfl
    refine ⟨?_, ?_, ?_, fun _ => ⟨hm0, hm1, hf0, hf1, he4⟩, fun h => by simp at h, fun h => by simp at h⟩
    · rw [hs]
      show (true && decide (0 ≤ f) && decide (f ≤ 3)) = true
      simpa using hdf
    · rw [hs, hmn, hop]
      show prFold _ [102, 117, 68, 65] (nth unitN m, []) = _
      rw [fold_f, fold_u, fold_D, fold_A, fold_nil]
      exact Prod.ext (app_assoc _ _ _).symm rfl
    · rw [hs]
      intro x hx
      have hx2 : x ∈ ([102, 117, 68, 65] : List UInt8) := hx
      have hcs : x = 102 ∨ (x = 117 ∨ x = 68 ∨ x = 65 ∨ x = 66 ∨ x = 67) := by
        clear hx
        revert x
        decide
      rcases hcs with rfl | hr
      · exact okf
      · exact okL_reg _ (by rcases hr with rfl | rfl | rfl | rfl | rfl <;> decide)
  · have hu : uShape m = ([68, 65, 66, 67], true) := by unfold uShape; rw [if_neg (by omega), if_neg (by omega), if_pos hc]
    have hbc : opBC m = (32, 32) := by unfold opBC; rw [if_neg (by omega), if_pos hc]
    have hs : pShape ⟨1, f, d, a, b, e, m⟩ = ([102, 117] ++ [68, 65, 66, 67], true && decide (0 ≤ f) && decide (f ≤ 3)) := by
      show (([102, 117] ++ (uShape m).1, (uShape m).2 && decide (0 ≤ f) && decide (f ≤ 3)) : List UInt8 × Bool) = _
      rw [hu]
    have hmn : mnemR ⟨1, f, d, a, b, e, m⟩ = ((nth unitN m ++ ⟨#[46]⟩) ++ nth fmtN f) := by
      unfold mnemR
      rw [if_neg (show ¬ (1 : Int) = 9 by decide), if_pos (show (1 : Int) = 1 from rfl), if_neg (show ¬ m = 10 by omega), if_neg (show ¬ (m = 11 ∨ m = 12) by omega)]
    have hop : opsR ⟨1, f, d, a, b, e, m⟩ = [regN d, regN a, regN b, regN e] := by
      show [regN d, regN a] ++ ((if (opBC m).1 = 32 then [regN b] else []) ++ (if (opBC m).2 = 32 then [regN e] else [])) = _
      rw [hbc]
      rfl
    refine ⟨?_, ?_, ?_, fun _ => ⟨hm0, hm1, hf0, hf1, he4⟩, fun h => by simp at h, fun h => by simp at h⟩
    · rw [hs]
      show (true && decide (0 ≤ f) && decide (f ≤ 3)) = true
      simpa using hdf
    · rw [hs, hmn, hop]
      show prFold _ [102, 117, 68, 65, 66, 67] (nth unitN m, []) = _
      rw [fold_f, fold_u, fold_D, fold_A, fold_B, fold_C, fold_nil]
      exact Prod.ext (app_assoc _ _ _).symm rfl
    · rw [hs]
      intro x hx
      have hx2 : x ∈ ([102, 117, 68, 65, 66, 67] : List UInt8) := hx
      have hcs : x = 102 ∨ (x = 117 ∨ x = 68 ∨ x = 65 ∨ x = 66 ∨ x = 67) := by
        clear hx
        revert x
        decide
      rcases hcs with rfl | hr
      · exact okf
      · exact okL_reg _ (by rcases hr with rfl | rfl | rfl | rfl | rfl <;> decide)
  · have hu : uShape m = ([103, 68, 65], true) := by unfold uShape; rw [if_neg (by omega), if_neg (by omega), if_neg (by omega), if_pos hc]
    have hbc : opBC m = (1, 4) := by unfold opBC; rw [if_neg (by omega), if_neg (by omega), if_pos (Or.inl hc)]
    have hs : pShape ⟨1, f, d, a, b, e, m⟩ = ([102, 117] ++ [103, 68, 65], true && decide (0 ≤ f) && decide (f ≤ 3)) := by
      show (([102, 117] ++ (uShape m).1, (uShape m).2 && decide (0 ≤ f) && decide (f ≤ 3)) : List UInt8 × Bool) = _
      rw [hu]
    have hmn : mnemR ⟨1, f, d, a, b, e, m⟩ = (((nth unitN m ++ ⟨#[46]⟩) ++ nth fmtN f) ++ (⟨#[46]⟩ ++ nth fmtN e)) := by
      unfold mnemR
      rw [if_neg (show ¬ (1 : Int) = 9 by decide), if_pos (show (1 : Int) = 1 from rfl), if_pos (show m = 10 from hc)]
    have hop : opsR ⟨1, f, d, a, b, e, m⟩ = [regN d, regN a] := by
      show [regN d, regN a] ++ ((if (opBC m).1 = 32 then [regN b] else []) ++ (if (opBC m).2 = 32 then [regN e] else [])) = _
      rw [hbc]
      rfl
    refine ⟨?_, ?_, ?_, fun _ => ⟨hm0, hm1, hf0, hf1, he4⟩, fun h => by simp at h, fun h => by simp at h⟩
    · rw [hs]
      show (true && decide (0 ≤ f) && decide (f ≤ 3)) = true
      simpa using hdf
    · rw [hs, hmn, hop]
      show prFold _ [102, 117, 103, 68, 65] (nth unitN m, []) = _
      rw [fold_f, fold_u, fold_g, fold_D, fold_A, fold_nil]
      rw [← app_assoc (nth unitN m)]
      rfl
    · rw [hs]
      intro x hx
      have hx2 : x ∈ ([102, 117, 103, 68, 65] : List UInt8) := hx
      have hcs : x = 102 ∨ x = 103 ∨ (x = 117 ∨ x = 68 ∨ x = 65 ∨ x = 66 ∨ x = 67) := by
        clear hx
        revert x
        decide
      rcases hcs with rfl | rfl | hr
      · exact okf
      · exact ⟨fun h' => absurd h' (by decide), fun _ => he4 (by omega), fun h' => absurd h' (by decide), by decide⟩
      · exact okL_reg _ (by rcases hr with rfl | rfl | rfl | rfl | rfl <;> decide)
  · have hu : uShape m = ([107, 68, 65], true) := by unfold uShape; rw [if_neg (by omega), if_neg (by omega), if_neg (by omega), if_neg (by omega), if_pos hc]
    have hbc : opBC m = (1, 4) := by unfold opBC; rw [if_neg (by omega), if_neg (by omega), if_pos (Or.inr hc)]
    have hs : pShape ⟨1, f, d, a, b, e, m⟩ = ([102, 117] ++ [107, 68, 65], true && decide (0 ≤ f) && decide (f ≤ 3)) := by
      show (([102, 117] ++ (uShape m).1, (uShape m).2 && decide (0 ≤ f) && decide (f ≤ 3)) : List UInt8 × Bool) = _
      rw [hu]
    have hmn : mnemR ⟨1, f, d, a, b, e, m⟩ = (((nth unitN m ++ ⟨#[46]⟩) ++ nth fmtN f) ++ (⟨#[46]⟩ ++ nth kindN e)) := by
      unfold mnemR
      rw [if_neg (show ¬ (1 : Int) = 9 by decide), if_pos (show (1 : Int) = 1 from rfl), if_neg (show ¬ m = 10 by omega), if_pos (show m = 11 ∨ m = 12 from hc)]
    have hop : opsR ⟨1, f, d, a, b, e, m⟩ = [regN d, regN a] := by
      show [regN d, regN a] ++ ((if (opBC m).1 = 32 then [regN b] else []) ++ (if (opBC m).2 = 32 then [regN e] else [])) = _
      rw [hbc]
      rfl
    refine ⟨?_, ?_, ?_, fun _ => ⟨hm0, hm1, hf0, hf1, he4⟩, fun h => by simp at h, fun h => by simp at h⟩
    · rw [hs]
      show (true && decide (0 ≤ f) && decide (f ≤ 3)) = true
      simpa using hdf
    · rw [hs, hmn, hop]
      show prFold _ [102, 117, 107, 68, 65] (nth unitN m, []) = _
      rw [fold_f, fold_u, fold_k, fold_D, fold_A, fold_nil]
      rw [← app_assoc (nth unitN m)]
      rfl
    · rw [hs]
      intro x hx
      have hx2 : x ∈ ([102, 117, 107, 68, 65] : List UInt8) := hx
      have hcs : x = 102 ∨ x = 107 ∨ (x = 117 ∨ x = 68 ∨ x = 65 ∨ x = 66 ∨ x = 67) := by
        clear hx
        revert x
        decide
      rcases hcs with rfl | rfl | hr
      · exact okf
      · exact ⟨fun h' => absurd h' (by decide), fun _ => he4 (by omega), fun h' => absurd h' (by decide), by decide⟩
      · exact okL_reg _ (by rcases hr with rfl | rfl | rfl | rfl | rfl <;> decide)

theorem good (i : Ins) (h : refErr i = 0) : Good i := by
  obtain ⟨c, f, d, a, b, e, m⟩ := i
  by_cases hc : c = 1
  · subst hc; exact good_unit f d a b e m h
  · exact good_plain c f d a b e m h hc

/-- the sizes. -/
theorem reg_sz (n : Int) (h0 : 0 ≤ n) (h1 : n ≤ 31) : (regN n).size ≤ 40 := by
  have := Lib.itoa_length_le n (by omega) (by omega)
  have h2 : (regN n).size = 1 + (num n).size := by unfold regN; rw [ByteArray.size_append]; rfl
  have h3 : (num n).size = (Lib.itoa n).length := by show (Lib.itoa n).toArray.size = _; simp
  omega
theorem num_s (n : Int) (h0 : -2147483648 ≤ n) (h1 : n ≤ 2147483647) : (num n).size ≤ 40 := by
  have := Lib.itoa_length_le n (by omega) (by omega)
  have h3 : (num n).size = (Lib.itoa n).length := by show (Lib.itoa n).toArray.size = _; simp
  omega
theorem set_sz (n : Int) : (setN n).size ≤ 40 := by
  unfold setN
  split
  · decide
  · have := setPre_len n.toNat 5
    show (setPre n.toNat 5).toArray.size ≤ 40
    simp; omega
theorem nth_sz (l : List ByteArray) (k : Nat) (h : ∀ x ∈ l, x.size ≤ k) (n : Int) : (nth l n).size ≤ k := by
  unfold nth
  rw [List.getD_eq_getElem?_getD]
  cases hg : l[n.toNat]? with
  | none => exact Nat.zero_le _
  | some x => exact h x (List.mem_of_getElem? hg)
theorem head_sz (i : Ins) : (headN i).size ≤ 100 := by
  unfold headN
  split
  · exact nth_sz _ _ (by decide) _
  · exact nth_sz _ _ (by decide) _
theorem mnem_sz (i : Ins) : (mnemR i).size ≤ 160 := by
  have h1 := nth_sz unitN 10 (by decide) i.m
  have h2 := nth_sz fmtN 4 (by decide) i.f
  have h3 := nth_sz fmtN 4 (by decide) i.e
  have h4 := nth_sz kindN 4 (by decide) i.e
  have h5 := nth_sz relN 4 (by decide) i.e
  have h6 := nth_sz plainN 10 (by decide) i.c
  have d1 : (⟨#[46]⟩ : ByteArray).size = 1 := rfl
  have d2 : (⟨#[98, 114, 46]⟩ : ByteArray).size = 3 := rfl
  unfold mnemR
  repeat' split
  all_goals (try simp only [ByteArray.size_append, d1, d2]) <;> omega
theorem ops_len (i : Ins) : (opsR i).length ≤ 4 := by
  unfold opsR
  repeat' split
  all_goals simp
theorem ops_sz (i : Ins) (hin : i.In) (h0 : -2147483648 ≤ i.m) (h1 : i.m ≤ 2147483647) : ∀ x ∈ opsR i, x.size ≤ 40 := by
  have r1 := reg_sz i.d hin.d1 hin.d2
  have r2 := reg_sz i.a hin.a1 hin.a2
  have r3 := reg_sz i.b hin.b1 hin.b2
  have r4 := reg_sz i.e hin.e1 hin.e2
  have r5 := num_s i.m h0 h1
  have r6 := set_sz i.e
  have r7 := nth_sz modeN 40 (by decide) i.e
  intro x hx
  have : x = regN i.d ∨ x = regN i.a ∨ x = regN i.b ∨ x = regN i.e ∨ x = num i.m ∨ x = setN i.e ∨ x = nth modeN i.e := by
    revert hx
    unfold opsR
    repeat' split
    all_goals
      intro hx
      simp at hx
      repeat (first | (rcases hx with rfl | hx; · simp) | (subst hx; simp; done) | (cases hx; done))
  rcases this with rfl | rfl | rfl | rfl | rfl | rfl | rfl <;> assumption
theorem lens_le (l : List (List UInt8)) (k : Nat) (h : ∀ x ∈ l, x.length ≤ k) : Lib.lens l ≤ k * l.length := by
  induction l with
  | nil => simp [Lib.lens]
  | cons a r ih =>
    have h1 := ih (fun x hx => h x (List.mem_cons_of_mem _ hx))
    have h2 := h a (List.mem_cons_self ..)
    have h3 : Lib.lens (a :: r) = a.length + Lib.lens r := by simp [Lib.lens]
    rw [h3, List.length_cons, Nat.mul_succ]
    omega
theorem ops_join (i : Ins) (hin : i.In) (h0 : -2147483648 ≤ i.m) (h1 : i.m ≤ 2147483647) : (Lib.join ((opsR i).map (·.data.toList)) [44, 32]).length ≤ 200 := by
  have hl := ops_len i
  have hs := ops_sz i hin h0 h1
  clear h0 h1 hin
  generalize opsR i = L at *
  cases L with
  | nil => simp [Lib.join]
  | cons a r =>
    rw [List.map_cons, Lib.join_length]
    have := lens_le ((a :: r).map (·.data.toList)) 40 (by
      intro x hx
      obtain ⟨y, hy, rfl⟩ := List.mem_map.1 hx
      have := hs y hy
      rw [Array.length_toList]
      exact this)
    rw [List.map_cons] at this
    simp only [List.length_map, List.length_cons, List.length_nil] at this hl ⊢
    omega

end Go.Proofs.YthaooekohjmhdaaDoor
