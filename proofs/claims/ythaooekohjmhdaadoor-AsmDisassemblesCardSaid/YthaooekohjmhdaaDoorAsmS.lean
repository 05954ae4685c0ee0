/- The plain law of layer 25's instruction words: fields, checks and words as functions on numbers. -/
import Derived.Test.YthaooekohjmhdaaDoorProg
import Derived.WalkKit
set_option linter.unusedVariables false
set_option linter.unusedSimpArgs false
namespace Go.Proofs.YthaooekohjmhdaaDoor
open Go.RowKit

/-- An instruction's fields: code, format, D, A, B, C, Imm. -/
structure Ins where
  c : Int
  f : Int
  d : Int
  a : Int
  b : Int
  e : Int
  m : Int
  deriving DecidableEq

def Ins.cells (i : Ins) : Array Value := #[.int .i64 i.c, .int .i64 i.f, .int .i64 i.d, .int .i64 i.a, .int .i64 i.b, .int .i64 i.e, .int .i32 i.m]
def Ins.cellsR (i : Ins) : Array Value := #[.int .i64 i.c, .int .i64 i.f, .int .i64 i.d, .int .i64 i.a, .int .i64 i.b, .int .i64 i.e, .int .i64 i.m]
structure Ins.Ok (i : Ins) : Prop where
  c1 : -9223372036854775808 ≤ i.c
  c2 : i.c ≤ 9223372036854775807
  f1 : -9223372036854775808 ≤ i.f
  f2 : i.f ≤ 9223372036854775807
  d1 : -9223372036854775808 ≤ i.d
  d2 : i.d ≤ 9223372036854775807
  a1 : -9223372036854775808 ≤ i.a
  a2 : i.a ≤ 9223372036854775807
  b1 : -9223372036854775808 ≤ i.b
  b2 : i.b ≤ 9223372036854775807
  e1 : -9223372036854775808 ≤ i.e
  e2 : i.e ≤ 9223372036854775807
  m1 : -2147483648 ≤ i.m
  m2 : i.m ≤ 2147483647

/-- unitShape, as a function. -/
def uShape (op : Int) : List UInt8 × Bool :=
  if op = 1 ∨ op = 2 ∨ op = 3 ∨ op = 4 ∨ op = 7 ∨ op = 8 ∨ op = 13 ∨ op = 14 ∨ op = 15 ∨ op = 16 ∨ op = 18 ∨ op = 22 then ([68, 65, 66], true)
  else if op = 5 ∨ op = 9 ∨ op = 17 ∨ op = 19 ∨ op = 20 ∨ op = 21 then ([68, 65], true)
  else if op = 6 then ([68, 65, 66, 67], true)
  else if op = 10 then ([103, 68, 65], true)
  else if op = 11 ∨ op = 12 then ([107, 68, 65], true)
  else ([], false)

/-- shape, as a function. -/
def pShape (i : Ins) : List UInt8 × Bool :=
  if i.c = 1 then ([102, 117] ++ (uShape i.m).1, (uShape i.m).2 && decide (0 ≤ i.f) && decide (i.f ≤ 3))
  else if i.c = 0 ∨ i.c = 14 then ([], true)
  else if i.c = 2 ∨ i.c = 5 ∨ i.c = 7 then ([68, 65, 105], true)
  else if i.c = 3 then ([66, 65, 105], true)
  else if i.c = 4 then ([68, 105], true)
  else if i.c = 6 then ([68, 65], true)
  else if i.c = 8 then ([116], true)
  else if i.c = 9 then ([114, 65, 116], true)
  else if i.c = 10 then ([109], true)
  else if i.c = 11 then ([115], true)
  else if i.c = 12 then ([68, 115], true)
  else if i.c = 13 then ([118], true)
  else ([], false)

/-- which field a letter says. -/
def tSlot (l : Int) : Nat := if l = 102 then 1 else if l = 117 ∨ l = 105 ∨ l = 116 ∨ l = 118 then 6 else if l = 68 then 2 else if l = 65 then 3 else if l = 66 then 4 else 5
def Ins.zap (i : Ins) (l : Int) : Ins :=
  if l = 102 then { i with f := 0 } else if l = 117 ∨ l = 105 ∨ l = 116 ∨ l = 118 then { i with m := 0 } else if l = 68 then { i with d := 0 }
  else if l = 65 then { i with a := 0 } else if l = 66 then { i with b := 0 } else { i with e := 0 }
def Ins.fits (i : Ins) (l : Int) : Bool :=
  if l = 102 then true else if l = 117 ∨ l = 105 then true else if l = 116 then decide (0 ≤ i.m) && decide (i.m ≤ 1024) else if l = 118 then decide (-1 ≤ i.m) && decide (i.m ≤ 1024)
  else if l = 68 then decide (0 ≤ i.d) && decide (i.d ≤ 31) else if l = 65 then decide (0 ≤ i.a) && decide (i.a ≤ 31) else if l = 66 then decide (0 ≤ i.b) && decide (i.b ≤ 31)
  else if l = 114 ∨ l = 103 ∨ l = 107 then decide (0 ≤ i.e) && decide (i.e ≤ 3) else if l = 109 then decide (0 ≤ i.e) && decide (i.e ≤ 5) else decide (0 ≤ i.e) && decide (i.e ≤ 31)

/-- what is left behind the letters; none: a field is not as it may be. -/
def chkFrom : Ins → List UInt8 → Option Ins
  | i, [] => some i
  | i, l :: ls => if i.fits (l.toNat : Int) = true then chkFrom (i.zap (l.toNat : Int)) ls else none
def chkEnd (c : Int) : Option Ins → Int
  | none => 7
  | some j => if j = ⟨c, 0, 0, 0, 0, 0, 0⟩ then 0 else 7
/-- check, as a function. -/
def chk (i : Ins) : Int := if (pShape i).2 = true then chkEnd i.c (chkFrom i (pShape i).1) else 250
theorem Ins.zap_c (i : Ins) (l : Int) : (i.zap l).c = i.c := by
  unfold Ins.zap
  repeat' split
  all_goals rfl
theorem Ins.zap_ok {i : Ins} (h : i.Ok) (l : Int) : (i.zap l).Ok := by
  obtain ⟨h1, h2, h3, h4, h5, h6, h7, h8, h9, h10, h11, h12, h13, h14⟩ := h
  unfold Ins.zap
  repeat' split
  all_goals constructor <;> first | assumption | (simp; done)
theorem uShape_len (m : Int) : (uShape m).1.length ≤ 4 := by
  unfold uShape
  repeat' split
  all_goals simp
theorem uShape_ascii (m : Int) : ∀ x ∈ (uShape m).1, x.toNat < 128 := by
  unfold uShape
  repeat' split
  all_goals decide
theorem pShape_ascii (i : Ins) : ∀ x ∈ (pShape i).1, x.toNat < 128 := by
  unfold pShape
  by_cases hc : i.c = 1
  · rw [if_pos hc]
    intro x hx
    simp only [List.mem_append] at hx
    rcases hx with hx | hx
    · revert x; decide
    · exact uShape_ascii _ x hx
  · rw [if_neg hc]
    repeat' split
    all_goals decide
theorem pShape_len (i : Ins) : (pShape i).1.length ≤ 6 := by
  unfold pShape
  by_cases hc : i.c = 1
  · rw [if_pos hc]
    have := uShape_len i.m
    simp only [List.length_append, List.length_cons, List.length_nil]
    omega
  · rw [if_neg hc]
    repeat' split
    all_goals simp

end Go.Proofs.YthaooekohjmhdaaDoor
