/- The plain law of layer 25's words: the document's fields say what the letters say; an instruction's word. -/
import Derived.Test.YthaooekohjmhdaaDoorAsmS
set_option linter.unusedVariables false
set_option linter.unusedSimpArgs false
namespace Go.Proofs.YthaooekohjmhdaaDoor
open Go.RowKit

/-- The document's fields: so many values of D, A, B, C, the least and the greatest Imm; is there such a code? -/
structure Fld where
  d : Int
  a : Int
  b : Int
  e : Int
  lo : Int
  hi : Int

/-- an operation's B and C. -/
def opBC (m : Int) : Int × Int :=
  if m = 1 ∨ m = 2 ∨ m = 3 ∨ m = 4 ∨ m = 7 ∨ m = 8 ∨ m = 13 ∨ m = 14 ∨ m = 15 ∨ m = 16 ∨ m = 18 ∨ m = 22 then (32, 1)
  else if m = 6 then (32, 32)
  else if m = 10 ∨ m = 11 ∨ m = 12 then (1, 4)
  else (1, 1)

def hasF (i : Ins) : Fld × Bool :=
  if i.c = 0 ∨ i.c = 14 then (⟨1, 1, 1, 1, 0, 0⟩, true)
  else if i.c = 1 then (if i.f < 0 ∨ 3 < i.f ∨ i.m < 1 ∨ 23 ≤ i.m then (⟨1, 1, 1, 1, 0, 0⟩, false) else (⟨32, 32, (opBC i.m).1, (opBC i.m).2, 1, 22⟩, true))
  else if i.c = 2 ∨ i.c = 5 ∨ i.c = 7 then (⟨32, 32, 1, 1, -2147483648, 2147483647⟩, true)
  else if i.c = 3 then (⟨1, 32, 32, 1, -2147483648, 2147483647⟩, true)
  else if i.c = 4 then (⟨32, 1, 1, 1, -2147483648, 2147483647⟩, true)
  else if i.c = 6 then (⟨32, 32, 1, 1, 0, 0⟩, true)
  else if i.c = 8 then (⟨1, 1, 1, 1, 0, 1024⟩, true)
  else if i.c = 13 then (⟨1, 1, 1, 1, -1, 1024⟩, true)
  else if i.c = 9 then (⟨1, 32, 1, 4, 0, 1024⟩, true)
  else if i.c = 10 then (⟨1, 1, 1, 6, 0, 0⟩, true)
  else if i.c = 11 then (⟨1, 1, 1, 32, 0, 0⟩, true)
  else if i.c = 12 then (⟨32, 1, 1, 32, 0, 0⟩, true)
  else (⟨1, 1, 1, 1, 0, 0⟩, false)

def inF (i : Ins) (h : Fld) : Bool :=
  decide (0 ≤ i.d) && decide (i.d < h.d) && decide (0 ≤ i.a) && decide (i.a < h.a) && decide (0 ≤ i.b) && decide (i.b < h.b) && decide (0 ≤ i.e) && decide (i.e < h.e) &&
    (decide (i.c = 1) || decide (i.f = 0)) && decide (h.lo ≤ i.m) && decide (i.m ≤ h.hi)
/-- the document's error of an instruction. -/
def refErr (i : Ins) : Int := if (hasF i).2 = true then (if inF i (hasF i).1 = true then 0 else 7) else 250

theorem chk_none (i : Ins) (h : (pShape i).2 = false) : chk i = 250 := by unfold chk; rw [h]; simp
theorem chk_some (i : Ins) (s : List UInt8) (h : pShape i = (s, true)) : chk i = chkEnd i.c (chkFrom i s) := by unfold chk; rw [h]; simp

theorem refErr_none (i : Ins) (h : (hasF i).2 = false) : refErr i = 250 := by unfold refErr; rw [h]; simp
theorem refErr_some (i : Ins) (f : Fld) (h : hasF i = (f, true)) : refErr i = if inF i f = true then 0 else 7 := by unfold refErr; rw [h]; simp

theorem chk_ref_case (i : Ins) (s : List UInt8) (g : Fld) (h1 : pShape i = (s, true)) (h2 : hasF i = (g, true))
    (h3 : chkEnd i.c (chkFrom i s) = if inF i g = true then 0 else 7) : chk i = refErr i := by
  rw [chk_some i s h1, refErr_some i g h2, h3]

theorem chkEnd_ite (c : Int) (p : Prop) [Decidable p] (x : Option Ins) : chkEnd c (if p then x else none) = if p then chkEnd c x else 7 := by split <;> rfl
theorem ite_and7 (p q : Prop) [Decidable p] [Decidable q] : (if p then (if q then (0 : Int) else 7) else 7) = if p ∧ q then 0 else 7 := by
  by_cases h1 : p <;> by_cases h2 : q <;> simp [h1, h2]
theorem ite_iff7 {p q : Prop} [Decidable p] [Decidable q] (h : p ↔ q) : (if p then (0 : Int) else 7) = if q then 0 else 7 := by
  by_cases h1 : p
  · rw [if_pos h1, if_pos (h.1 h1)]
  · rw [if_neg h1, if_neg (fun e => h1 (h.2 e))]
theorem chkEnd_some (c : Int) (j : Ins) : chkEnd c (some j) = if j = ⟨c, 0, 0, 0, 0, 0, 0⟩ then 0 else 7 := rfl

theorem chk_ref_0 (c f d a b e m : Int) (h0 : c = 0 ∨ c = 14) (m1 : -2147483648 ≤ m) (m2 : m ≤ 2147483647) : chk ⟨c, f, d, a, b, e, m⟩ = refErr ⟨c, f, d, a, b, e, m⟩ := by
  refine chk_ref_case _ [] ⟨1, 1, 1, 1, 0, 0⟩ ?_ ?_ ?_
  · simp only [pShape]
    repeat (first | rw [if_pos (by omega)] | rw [if_neg (by omega)])
  · simp only [hasF]
    repeat (first | rw [if_pos (by omega)] | rw [if_neg (by omega)])
  · have hc1 : ¬ c = 1 := by omega
    simp [chkFrom, Ins.fits, Ins.zap, chkEnd_ite, chkEnd_some, ite_and7, inF]
    try (apply ite_iff7; omega)
theorem chk_ref_1 (c f d a b e m : Int) (h0 : c = 2 ∨ c = 5 ∨ c = 7) (m1 : -2147483648 ≤ m) (m2 : m ≤ 2147483647) : chk ⟨c, f, d, a, b, e, m⟩ = refErr ⟨c, f, d, a, b, e, m⟩ := by
  refine chk_ref_case _ [68, 65, 105] ⟨32, 32, 1, 1, -2147483648, 2147483647⟩ ?_ ?_ ?_
  · simp only [pShape]
    repeat (first | rw [if_pos (by omega)] | rw [if_neg (by omega)])
  · simp only [hasF]
    repeat (first | rw [if_pos (by omega)] | rw [if_neg (by omega)])
  · have hc1 : ¬ c = 1 := by omega
    simp [chkFrom, Ins.fits, Ins.zap, chkEnd_ite, chkEnd_some, ite_and7, inF]
    try (apply ite_iff7; omega)
theorem chk_ref_2 (c f d a b e m : Int) (h0 : c = 3) (m1 : -2147483648 ≤ m) (m2 : m ≤ 2147483647) : chk ⟨c, f, d, a, b, e, m⟩ = refErr ⟨c, f, d, a, b, e, m⟩ := by
  refine chk_ref_case _ [66, 65, 105] ⟨1, 32, 32, 1, -2147483648, 2147483647⟩ ?_ ?_ ?_
  · simp only [pShape]
    repeat (first | rw [if_pos (by omega)] | rw [if_neg (by omega)])
  · simp only [hasF]
    repeat (first | rw [if_pos (by omega)] | rw [if_neg (by omega)])
  · have hc1 : ¬ c = 1 := by omega
    simp [chkFrom, Ins.fits, Ins.zap, chkEnd_ite, chkEnd_some, ite_and7, inF]
    try (apply ite_iff7; omega)
theorem chk_ref_3 (c f d a b e m : Int) (h0 : c = 4) (m1 : -2147483648 ≤ m) (m2 : m ≤ 2147483647) : chk ⟨c, f, d, a, b, e, m⟩ = refErr ⟨c, f, d, a, b, e, m⟩ := by
  refine chk_ref_case _ [68, 105] ⟨32, 1, 1, 1, -2147483648, 2147483647⟩ ?_ ?_ ?_
  · simp only [pShape]
    repeat (first | rw [if_pos (by omega)] | rw [if_neg (by omega)])
  · simp only [hasF]
    repeat (first | rw [if_pos (by omega)] | rw [if_neg (by omega)])
  · have hc1 : ¬ c = 1 := by omega
    simp [chkFrom, Ins.fits, Ins.zap, chkEnd_ite, chkEnd_some, ite_and7, inF]
    try (apply ite_iff7; omega)
theorem chk_ref_4 (c f d a b e m : Int) (h0 : c = 6) (m1 : -2147483648 ≤ m) (m2 : m ≤ 2147483647) : chk ⟨c, f, d, a, b, e, m⟩ = refErr ⟨c, f, d, a, b, e, m⟩ := by
  refine chk_ref_case _ [68, 65] ⟨32, 32, 1, 1, 0, 0⟩ ?_ ?_ ?_
  · simp only [pShape]
    repeat (first | rw [if_pos (by omega)] | rw [if_neg (by omega)])
  · simp only [hasF]
    repeat (first | rw [if_pos (by omega)] | rw [if_neg (by omega)])
  · have hc1 : ¬ c = 1 := by omega
    simp [chkFrom, Ins.fits, Ins.zap, chkEnd_ite, chkEnd_some, ite_and7, inF]
    try (apply ite_iff7; omega)
theorem chk_ref_5 (c f d a b e m : Int) (h0 : c = 8) (m1 : -2147483648 ≤ m) (m2 : m ≤ 2147483647) : chk ⟨c, f, d, a, b, e, m⟩ = refErr ⟨c, f, d, a, b, e, m⟩ := by
  refine chk_ref_case _ [116] ⟨1, 1, 1, 1, 0, 1024⟩ ?_ ?_ ?_
  · simp only [pShape]
    repeat (first | rw [if_pos (by omega)] | rw [if_neg (by omega)])
  · simp only [hasF]
    repeat (first | rw [if_pos (by omega)] | rw [if_neg (by omega)])
  · have hc1 : ¬ c = 1 := by omega
    simp [chkFrom, Ins.fits, Ins.zap, chkEnd_ite, chkEnd_some, ite_and7, inF]
    try (apply ite_iff7; omega)
theorem chk_ref_6 (c f d a b e m : Int) (h0 : c = 13) (m1 : -2147483648 ≤ m) (m2 : m ≤ 2147483647) : chk ⟨c, f, d, a, b, e, m⟩ = refErr ⟨c, f, d, a, b, e, m⟩ := by
  refine chk_ref_case _ [118] ⟨1, 1, 1, 1, -1, 1024⟩ ?_ ?_ ?_
  · simp only [pShape]
    repeat (first | rw [if_pos (by omega)] | rw [if_neg (by omega)])
  · simp only [hasF]
    repeat (first | rw [if_pos (by omega)] | rw [if_neg (by omega)])
  · have hc1 : ¬ c = 1 := by omega
    simp [chkFrom, Ins.fits, Ins.zap, chkEnd_ite, chkEnd_some, ite_and7, inF]
    try (apply ite_iff7; omega)
theorem chk_ref_7 (c f d a b e m : Int) (h0 : c = 9) (m1 : -2147483648 ≤ m) (m2 : m ≤ 2147483647) : chk ⟨c, f, d, a, b, e, m⟩ = refErr ⟨c, f, d, a, b, e, m⟩ := by
  refine chk_ref_case _ [114, 65, 116] ⟨1, 32, 1, 4, 0, 1024⟩ ?_ ?_ ?_
  · simp only [pShape]
    repeat (first | rw [if_pos (by omega)] | rw [if_neg (by omega)])
  · simp only [hasF]
    repeat (first | rw [if_pos (by omega)] | rw [if_neg (by omega)])
  · have hc1 : ¬ c = 1 := by omega
    simp [chkFrom, Ins.fits, Ins.zap, chkEnd_ite, chkEnd_some, ite_and7, inF]
    try (apply ite_iff7; omega)
theorem chk_ref_8 (c f d a b e m : Int) (h0 : c = 10) (m1 : -2147483648 ≤ m) (m2 : m ≤ 2147483647) : chk ⟨c, f, d, a, b, e, m⟩ = refErr ⟨c, f, d, a, b, e, m⟩ := by
  refine chk_ref_case _ [109] ⟨1, 1, 1, 6, 0, 0⟩ ?_ ?_ ?_
  · simp only [pShape]
    repeat (first | rw [if_pos (by omega)] | rw [if_neg (by omega)])
  · simp only [hasF]
    repeat (first | rw [if_pos (by omega)] | rw [if_neg (by omega)])
  · have hc1 : ¬ c = 1 := by omega
    simp [chkFrom, Ins.fits, Ins.zap, chkEnd_ite, chkEnd_some, ite_and7, inF]
    try (apply ite_iff7; omega)
theorem chk_ref_9 (c f d a b e m : Int) (h0 : c = 11) (m1 : -2147483648 ≤ m) (m2 : m ≤ 2147483647) : chk ⟨c, f, d, a, b, e, m⟩ = refErr ⟨c, f, d, a, b, e, m⟩ := by
  refine chk_ref_case _ [115] ⟨1, 1, 1, 32, 0, 0⟩ ?_ ?_ ?_
  · simp only [pShape]
    repeat (first | rw [if_pos (by omega)] | rw [if_neg (by omega)])
  · simp only [hasF]
    repeat (first | rw [if_pos (by omega)] | rw [if_neg (by omega)])
  · have hc1 : ¬ c = 1 := by omega
    simp [chkFrom, Ins.fits, Ins.zap, chkEnd_ite, chkEnd_some, ite_and7, inF]
    try (apply ite_iff7; omega)
theorem chk_ref_10 (c f d a b e m : Int) (h0 : c = 12) (m1 : -2147483648 ≤ m) (m2 : m ≤ 2147483647) : chk ⟨c, f, d, a, b, e, m⟩ = refErr ⟨c, f, d, a, b, e, m⟩ := by
  refine chk_ref_case _ [68, 115] ⟨32, 1, 1, 32, 0, 0⟩ ?_ ?_ ?_
  · simp only [pShape]
    repeat (first | rw [if_pos (by omega)] | rw [if_neg (by omega)])
  · simp only [hasF]
    repeat (first | rw [if_pos (by omega)] | rw [if_neg (by omega)])
  · have hc1 : ¬ c = 1 := by omega
    simp [chkFrom, Ins.fits, Ins.zap, chkEnd_ite, chkEnd_some, ite_and7, inF]
    try (apply ite_iff7; omega)
theorem chk_ref_11 (f d a b e m : Int) (hf0 : 0 ≤ f) (hf3 : f ≤ 3) (h0 : m = 1 ∨ m = 2 ∨ m = 3 ∨ m = 4 ∨ m = 7 ∨ m = 8 ∨ m = 13 ∨ m = 14 ∨ m = 15 ∨ m = 16 ∨ m = 18 ∨ m = 22) (m1 : -2147483648 ≤ m) (m2 : m ≤ 2147483647) : chk ⟨1, f, d, a, b, e, m⟩ = refErr ⟨1, f, d, a, b, e, m⟩ := by
  have hu : uShape m = ([68, 65, 66], true) := by
    unfold uShape
    repeat (first | rw [if_pos (by omega)] | rw [if_neg (by omega)])
  have hbc : opBC m = (32, 1) := by
    unfold opBC
    repeat (first | rw [if_pos (by omega)] | rw [if_neg (by omega)])
  refine chk_ref_case _ [102, 117, 68, 65, 66] ⟨32, 32, 32, 1, 1, 22⟩ ?_ ?_ ?_
  · simp [pShape, hu, hf0, hf3]
  · simp only [hasF, hbc, if_true]
    repeat (first | rw [if_pos (by omega)] | rw [if_neg (by omega)])
  · simp [chkFrom, Ins.fits, Ins.zap, chkEnd_ite, chkEnd_some, ite_and7, inF]
    try (apply ite_iff7; omega)
theorem chk_ref_12 (f d a b e m : Int) (hf0 : 0 ≤ f) (hf3 : f ≤ 3) (h0 : m = 5 ∨ m = 9 ∨ m = 17 ∨ m = 19 ∨ m = 20 ∨ m = 21) (m1 : -2147483648 ≤ m) (m2 : m ≤ 2147483647) : chk ⟨1, f, d, a, b, e, m⟩ = refErr ⟨1, f, d, a, b, e, m⟩ := by
  have hu : uShape m = ([68, 65], true) := by
    unfold uShape
    repeat (first | rw [if_pos (by omega)] | rw [if_neg (by omega)])
  have hbc : opBC m = (1, 1) := by
    unfold opBC
    repeat (first | rw [if_pos (by omega)] | rw [if_neg (by omega)])
  refine chk_ref_case _ [102, 117, 68, 65] ⟨32, 32, 1, 1, 1, 22⟩ ?_ ?_ ?_
  · simp [pShape, hu, hf0, hf3]
  · simp only [hasF, hbc, if_true]
    repeat (first | rw [if_pos (by omega)] | rw [if_neg (by omega)])
  · simp [chkFrom, Ins.fits, Ins.zap, chkEnd_ite, chkEnd_some, ite_and7, inF]
    try (apply ite_iff7; omega)
theorem chk_ref_13 (f d a b e m : Int) (hf0 : 0 ≤ f) (hf3 : f ≤ 3) (h0 : m = 6) (m1 : -2147483648 ≤ m) (m2 : m ≤ 2147483647) : chk ⟨1, f, d, a, b, e, m⟩ = refErr ⟨1, f, d, a, b, e, m⟩ := by
  have hu : uShape m = ([68, 65, 66, 67], true) := by
    unfold uShape
    repeat (first | rw [if_pos (by omega)] | rw [if_neg (by omega)])
  have hbc : opBC m = (32, 32) := by
    unfold opBC
    repeat (first | rw [if_pos (by omega)] | rw [if_neg (by omega)])
  refine chk_ref_case _ [102, 117, 68, 65, 66, 67] ⟨32, 32, 32, 32, 1, 22⟩ ?_ ?_ ?_
  · simp [pShape, hu, hf0, hf3]
  · simp only [hasF, hbc, if_true]
    repeat (first | rw [if_pos (by omega)] | rw [if_neg (by omega)])
  · simp [chkFrom, Ins.fits, Ins.zap, chkEnd_ite, chkEnd_some, ite_and7, inF]
    try (apply ite_iff7; omega)
theorem chk_ref_14 (f d a b e m : Int) (hf0 : 0 ≤ f) (hf3 : f ≤ 3) (h0 : m = 10) (m1 : -2147483648 ≤ m) (m2 : m ≤ 2147483647) : chk ⟨1, f, d, a, b, e, m⟩ = refErr ⟨1, f, d, a, b, e, m⟩ := by
  have hu : uShape m = ([103, 68, 65], true) := by
    unfold uShape
    repeat (first | rw [if_pos (by omega)] | rw [if_neg (by omega)])
  have hbc : opBC m = (1, 4) := by
    unfold opBC
    repeat (first | rw [if_pos (by omega)] | rw [if_neg (by omega)])
  refine chk_ref_case _ [102, 117, 103, 68, 65] ⟨32, 32, 1, 4, 1, 22⟩ ?_ ?_ ?_
  · simp [pShape, hu, hf0, hf3]
  · simp only [hasF, hbc, if_true]
    repeat (first | rw [if_pos (by omega)] | rw [if_neg (by omega)])
  · simp [chkFrom, Ins.fits, Ins.zap, chkEnd_ite, chkEnd_some, ite_and7, inF]
    try (apply ite_iff7; omega)
theorem chk_ref_15 (f d a b e m : Int) (hf0 : 0 ≤ f) (hf3 : f ≤ 3) (h0 : m = 11 ∨ m = 12) (m1 : -2147483648 ≤ m) (m2 : m ≤ 2147483647) : chk ⟨1, f, d, a, b, e, m⟩ = refErr ⟨1, f, d, a, b, e, m⟩ := by
  have hu : uShape m = ([107, 68, 65], true) := by
    unfold uShape
    repeat (first | rw [if_pos (by omega)] | rw [if_neg (by omega)])
  have hbc : opBC m = (1, 4) := by
    unfold opBC
    repeat (first | rw [if_pos (by omega)] | rw [if_neg (by omega)])
  refine chk_ref_case _ [102, 117, 107, 68, 65] ⟨32, 32, 1, 4, 1, 22⟩ ?_ ?_ ?_
  · simp [pShape, hu, hf0, hf3]
  · simp only [hasF, hbc, if_true]
    repeat (first | rw [if_pos (by omega)] | rw [if_neg (by omega)])
  · simp [chkFrom, Ins.fits, Ins.zap, chkEnd_ite, chkEnd_some, ite_and7, inF]
    try (apply ite_iff7; omega)
theorem chk_ref (i : Ins) (hi : i.Ok) : chk i = refErr i := by
  have m1 := hi.m1
  have m2 := hi.m2
  obtain ⟨c, f, d, a, b, e, m⟩ := i
  simp only at m1 m2
  by_cases h0 : c = 0 ∨ c = 14
  · exact chk_ref_0 c f d a b e m h0 m1 m2
  by_cases h1 : c = 2 ∨ c = 5 ∨ c = 7
  · exact chk_ref_1 c f d a b e m h1 m1 m2
  by_cases h2 : c = 3
  · exact chk_ref_2 c f d a b e m h2 m1 m2
  by_cases h3 : c = 4
  · exact chk_ref_3 c f d a b e m h3 m1 m2
  by_cases h4 : c = 6
  · exact chk_ref_4 c f d a b e m h4 m1 m2
  by_cases h5 : c = 8
  · exact chk_ref_5 c f d a b e m h5 m1 m2
  by_cases h6 : c = 13
  · exact chk_ref_6 c f d a b e m h6 m1 m2
  by_cases h7 : c = 9
  · exact chk_ref_7 c f d a b e m h7 m1 m2
  by_cases h8 : c = 10
  · exact chk_ref_8 c f d a b e m h8 m1 m2
  by_cases h9 : c = 11
  · exact chk_ref_9 c f d a b e m h9 m1 m2
  by_cases h10 : c = 12
  · exact chk_ref_10 c f d a b e m h10 m1 m2
  by_cases hc : c = 1
  · subst hc
    by_cases hf : f < 0 ∨ 3 < f
    · rw [chk_none, refErr_none]
      · simp only [hasF, if_true]
        repeat (first | rw [if_pos (by omega)] | rw [if_neg (by omega)])
      · simp only [pShape, if_true]
        rcases hf with hf | hf
        · simp [show ¬ 0 ≤ f from by omega]
        · simp [show ¬ f ≤ 3 from by omega]
    by_cases u0 : m = 1 ∨ m = 2 ∨ m = 3 ∨ m = 4 ∨ m = 7 ∨ m = 8 ∨ m = 13 ∨ m = 14 ∨ m = 15 ∨ m = 16 ∨ m = 18 ∨ m = 22
    · exact chk_ref_11 f d a b e m (by omega) (by omega) u0 m1 m2
    by_cases u1 : m = 5 ∨ m = 9 ∨ m = 17 ∨ m = 19 ∨ m = 20 ∨ m = 21
    · exact chk_ref_12 f d a b e m (by omega) (by omega) u1 m1 m2
    by_cases u2 : m = 6
    · exact chk_ref_13 f d a b e m (by omega) (by omega) u2 m1 m2
    by_cases u3 : m = 10
    · exact chk_ref_14 f d a b e m (by omega) (by omega) u3 m1 m2
    by_cases u4 : m = 11 ∨ m = 12
    · exact chk_ref_15 f d a b e m (by omega) (by omega) u4 m1 m2
    have hu : uShape m = ([], false) := by
      unfold uShape
      repeat (first | rw [if_pos (by omega)] | rw [if_neg (by omega)])
    rw [chk_none, refErr_none]
    · simp only [hasF, if_true]
      repeat (first | rw [if_pos (by omega)] | rw [if_neg (by omega)])
    · simp [pShape, hu]
  rw [chk_none, refErr_none]
  · simp only [hasF]
    repeat (first | rw [if_pos (by omega)] | rw [if_neg (by omega)])
  · simp only [pShape]
    repeat (first | rw [if_pos (by omega)] | rw [if_neg (by omega)])

/-- Encode's word, of an instruction that it takes. -/
def wordOf (i : Ins) : Int := i.c + i.f * 16 + i.d * 64 + i.a * 2048 + i.b * 65536 + i.e * 2097152 + (i.m % 4294967296) * 4294967296

structure Ins.In (i : Ins) : Prop where
  c1 : 0 ≤ i.c
  c2 : i.c ≤ 14
  f1 : 0 ≤ i.f
  f2 : i.f ≤ 3
  d1 : 0 ≤ i.d
  d2 : i.d ≤ 31
  a1 : 0 ≤ i.a
  a2 : i.a ≤ 31
  b1 : 0 ≤ i.b
  b2 : i.b ≤ 31
  e1 : 0 ≤ i.e
  e2 : i.e ≤ 31

theorem opBC_le (m : Int) : (opBC m).1 ≤ 32 ∧ (opBC m).2 ≤ 32 := by
  unfold opBC
  repeat' split
  all_goals simp
def leF (x : Fld × Bool) : Prop := x.1.d ≤ 32 ∧ x.1.a ≤ 32 ∧ x.1.b ≤ 32 ∧ x.1.e ≤ 32
theorem leF_ite {c : Prop} [Decidable c] {a b : Fld × Bool} (h1 : leF a) (h2 : leF b) : leF (if c then a else b) := by split <;> assumption
theorem hasF_le (i : Ins) : (hasF i).1.d ≤ 32 ∧ (hasF i).1.a ≤ 32 ∧ (hasF i).1.b ≤ 32 ∧ (hasF i).1.e ≤ 32 := by
  have hbc := opBC_le i.m
  show leF (hasF i)
  unfold hasF
  repeat' (refine leF_ite ?_ ?_)
  all_goals first | (exact ⟨by decide, by decide, by decide, by decide⟩) | (exact ⟨Int.le_refl 32, Int.le_refl 32, hbc.1, hbc.2⟩)
theorem hasF_c (i : Ins) (h : (hasF i).2 = true) : 0 ≤ i.c ∧ i.c ≤ 14 := by
  by_cases hc : i.c < 0 ∨ 14 < i.c
  · exfalso
    unfold hasF at h
    repeat rw [if_neg (by omega)] at h
    simp at h
  · omega
theorem hasF_f (i : Ins) (h : (hasF i).2 = true) (hc : i.c = 1) : 0 ≤ i.f ∧ i.f ≤ 3 := by
  by_cases hf : i.f < 0 ∨ 3 < i.f
  · exfalso
    unfold hasF at h
    rw [if_neg (by omega), if_pos hc, if_pos (by omega)] at h
    simp at h
  · omega

theorem refErr_in (i : Ins) (h : refErr i = 0) : i.In := by
  unfold refErr at h
  by_cases hh : (hasF i).2 = true
  · rw [if_pos hh] at h
    by_cases hn : inF i (hasF i).1 = true
    · obtain ⟨h1, h2⟩ := hasF_c i hh
      obtain ⟨h3, h4, h5, h6⟩ := hasF_le i
      have h7 := hasF_f i hh
      simp only [inF, Bool.and_eq_true, Bool.or_eq_true, decide_eq_true_eq] at hn
      constructor <;> omega
    · rw [if_neg hn] at h; omega
  · rw [if_neg hh] at h; omega

theorem and_4 (x : Int) (h0 : 0 ≤ x) (h1 : x < 18446744073709551616) : bits .and .u64 x 3 = x % 4 := by
  rw [u64_and _ _ h0 h1 (by omega) (by omega)]
  obtain ⟨a, rfl⟩ := Int.eq_ofNat_of_zero_le h0
  have := Nat.and_two_pow_sub_one_eq_mod a 2
  simp only [Int.toNat_natCast]
  rw [show (3 : Int).toNat = 2 ^ 2 - 1 from rfl, this]
  omega
theorem and_16 (x : Int) (h0 : 0 ≤ x) (h1 : x < 18446744073709551616) : bits .and .u64 x 15 = x % 16 := by
  rw [u64_and _ _ h0 h1 (by omega) (by omega)]
  obtain ⟨a, rfl⟩ := Int.eq_ofNat_of_zero_le h0
  have := Nat.and_two_pow_sub_one_eq_mod a 4
  simp only [Int.toNat_natCast]
  rw [show (15 : Int).toNat = 2 ^ 4 - 1 from rfl, this]
  omega
theorem and_32 (x : Int) (h0 : 0 ≤ x) (h1 : x < 18446744073709551616) : bits .and .u64 x 31 = x % 32 := by
  rw [u64_and _ _ h0 h1 (by omega) (by omega)]
  obtain ⟨a, rfl⟩ := Int.eq_ofNat_of_zero_le h0
  have := Nat.and_two_pow_sub_one_eq_mod a 5
  simp only [Int.toNat_natCast]
  rw [show (31 : Int).toNat = 2 ^ 5 - 1 from rfl, this]
  omega
theorem nat_or_add (n a b : Nat) (h : a < 2 ^ n) : a ||| (b * 2 ^ n) = a + b * 2 ^ n := by
  have := Nat.two_pow_add_eq_or_of_lt h b
  rw [Nat.or_comm, Nat.mul_comm, ← this, Nat.add_comm]
theorem or_4 (x y : Int) (hx0 : 0 ≤ x) (hx : x < 16) (hy0 : 0 ≤ y) (hy : y < 1152921504606846976) : bits .or .u64 x (y * 16) = x + y * 16 := by
  rw [u64_or _ _ hx0 (by omega) (by omega) (by omega)]
  obtain ⟨a, rfl⟩ := Int.eq_ofNat_of_zero_le hx0
  obtain ⟨b, rfl⟩ := Int.eq_ofNat_of_zero_le hy0
  have e1 : ((b : Int) * 16).toNat = b * 2 ^ 4 := by omega
  have e2 := nat_or_add 4 a b (by omega)
  rw [e1, Int.toNat_natCast, e2]
  omega
theorem or_6 (x y : Int) (hx0 : 0 ≤ x) (hx : x < 64) (hy0 : 0 ≤ y) (hy : y < 288230376151711744) : bits .or .u64 x (y * 64) = x + y * 64 := by
  rw [u64_or _ _ hx0 (by omega) (by omega) (by omega)]
  obtain ⟨a, rfl⟩ := Int.eq_ofNat_of_zero_le hx0
  obtain ⟨b, rfl⟩ := Int.eq_ofNat_of_zero_le hy0
  have e1 : ((b : Int) * 64).toNat = b * 2 ^ 6 := by omega
  have e2 := nat_or_add 6 a b (by omega)
  rw [e1, Int.toNat_natCast, e2]
  omega
theorem or_11 (x y : Int) (hx0 : 0 ≤ x) (hx : x < 2048) (hy0 : 0 ≤ y) (hy : y < 9007199254740992) : bits .or .u64 x (y * 2048) = x + y * 2048 := by
  rw [u64_or _ _ hx0 (by omega) (by omega) (by omega)]
  obtain ⟨a, rfl⟩ := Int.eq_ofNat_of_zero_le hx0
  obtain ⟨b, rfl⟩ := Int.eq_ofNat_of_zero_le hy0
  have e1 : ((b : Int) * 2048).toNat = b * 2 ^ 11 := by omega
  have e2 := nat_or_add 11 a b (by omega)
  rw [e1, Int.toNat_natCast, e2]
  omega
theorem or_16 (x y : Int) (hx0 : 0 ≤ x) (hx : x < 65536) (hy0 : 0 ≤ y) (hy : y < 281474976710656) : bits .or .u64 x (y * 65536) = x + y * 65536 := by
  rw [u64_or _ _ hx0 (by omega) (by omega) (by omega)]
  obtain ⟨a, rfl⟩ := Int.eq_ofNat_of_zero_le hx0
  obtain ⟨b, rfl⟩ := Int.eq_ofNat_of_zero_le hy0
  have e1 : ((b : Int) * 65536).toNat = b * 2 ^ 16 := by omega
  have e2 := nat_or_add 16 a b (by omega)
  rw [e1, Int.toNat_natCast, e2]
  omega
theorem or_21 (x y : Int) (hx0 : 0 ≤ x) (hx : x < 2097152) (hy0 : 0 ≤ y) (hy : y < 8796093022208) : bits .or .u64 x (y * 2097152) = x + y * 2097152 := by
  rw [u64_or _ _ hx0 (by omega) (by omega) (by omega)]
  obtain ⟨a, rfl⟩ := Int.eq_ofNat_of_zero_le hx0
  obtain ⟨b, rfl⟩ := Int.eq_ofNat_of_zero_le hy0
  have e1 : ((b : Int) * 2097152).toNat = b * 2 ^ 21 := by omega
  have e2 := nat_or_add 21 a b (by omega)
  rw [e1, Int.toNat_natCast, e2]
  omega
theorem or_32 (x y : Int) (hx0 : 0 ≤ x) (hx : x < 4294967296) (hy0 : 0 ≤ y) (hy : y < 4294967296) : bits .or .u64 x (y * 4294967296) = x + y * 4294967296 := by
  rw [u64_or _ _ hx0 (by omega) (by omega) (by omega)]
  obtain ⟨a, rfl⟩ := Int.eq_ofNat_of_zero_le hx0
  obtain ⟨b, rfl⟩ := Int.eq_ofNat_of_zero_le hy0
  have e1 : ((b : Int) * 4294967296).toNat = b * 2 ^ 32 := by omega
  have e2 := nat_or_add 32 a b (by omega)
  rw [e1, Int.toNat_natCast, e2]
  omega

/-- n bits of wv from place a on. -/
def bitsF (wv a n : Int) : Int := wv / ((2 ^ a.toNat : Nat) : Int) % ((2 ^ n.toNat : Nat) : Int)
theorem bitsF0 (wv : Int) : bitsF wv 0 4 = wv % 16 := by unfold bitsF; simp
theorem bitsF4 (wv : Int) : bitsF wv 4 2 = wv / 16 % 4 := rfl
theorem bitsF6 (wv : Int) : bitsF wv 6 5 = wv / 64 % 32 := rfl
theorem bitsF11 (wv : Int) : bitsF wv 11 5 = wv / 2048 % 32 := rfl
theorem bitsF16 (wv : Int) : bitsF wv 16 5 = wv / 65536 % 32 := rfl
theorem bitsF21 (wv : Int) : bitsF wv 21 5 = wv / 2097152 % 32 := rfl
/-- The fields that lie in a word. -/
def decIns (wv : Int) : Ins := ⟨bitsF wv 0 4, bitsF wv 4 2, bitsF wv 6 5, bitsF wv 11 5, bitsF wv 16 5, bitsF wv 21 5, wrap32 (wv / 4294967296)⟩
theorem decIns_ok (wv : Int) : (decIns wv).Ok := by
  unfold decIns
  rw [bitsF0, bitsF4, bitsF6, bitsF11, bitsF16, bitsF21]
  constructor <;> simp only [wrap32] <;> omega

end Go.Proofs.YthaooekohjmhdaaDoor
