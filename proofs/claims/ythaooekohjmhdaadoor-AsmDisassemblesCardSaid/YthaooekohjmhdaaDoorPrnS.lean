/- The plain law of layer 25's lines: names, numerals and operands as functions; the program's way and the document's lead to one text. -/
import Derived.Test.YthaooekohjmhdaaDoorAsmL
import Derived.Lib.ItoaNum
import Derived.Lib.ItoaLen
import Derived.Lib.Join
set_option linter.unusedVariables false
set_option linter.unusedSimpArgs false
namespace Go.Proofs.YthaooekohjmhdaaDoor
open Go.RowKit

def fmtN : List ByteArray := [⟨#[104]⟩, ⟨#[98]⟩, ⟨#[115]⟩, ⟨#[100]⟩]
def relN : List ByteArray := [⟨#[108, 116]⟩, ⟨#[101, 113]⟩, ⟨#[103, 116]⟩, ⟨#[117, 110]⟩]
def kindN : List ByteArray := [⟨#[105, 51, 50]⟩, ⟨#[105, 54, 52]⟩, ⟨#[117, 51, 50]⟩, ⟨#[117, 54, 52]⟩]
def modeN : List ByteArray := [⟨#[101, 118, 101, 110]⟩, ⟨#[97, 119, 97, 121]⟩, ⟨#[122, 101, 114, 111]⟩, ⟨#[117, 112]⟩, ⟨#[100, 111, 119, 110]⟩, ⟨#[111, 100, 100]⟩]
def nth (l : List ByteArray) (n : Int) : ByteArray := l.getD n.toNat ⟨#[]⟩
theorem nth_some {l : List ByteArray} {n : Int} (h0 : 0 ≤ n) (h1 : n < l.length) : l[n.toNat]? = some (nth l n) := by
  unfold nth
  rw [List.getD_eq_getElem?_getD, List.getElem?_eq_getElem (show n.toNat < l.length by omega)]
  rfl
/-- a text of these bytes. -/
def B (l : List UInt8) : ByteArray := ⟨l.toArray⟩
theorem B_ext {a b : ByteArray} (h : a.data.toList = b.data.toList) : a = b := by
  cases a; cases b; simp at h; simp [h]
theorem B_list (a : ByteArray) : B a.data.toList = a := by cases a; rfl
theorem B_data (l : List UInt8) : (B l).data.toList = l := rfl
theorem append_list (a b : ByteArray) : (a ++ b).data.toList = a.data.toList ++ b.data.toList := by
  simp
/-- a numeral. -/
def num (n : Int) : ByteArray := B (Lib.itoa n)
/-- the letters of the first n flags of a set. -/
def setPre (s : Nat) : Nat → List UInt8
  | 0 => []
  | n + 1 => setPre s n ++ (if s / 2 ^ n % 2 = 1 then [([105, 122, 111, 117, 120] : List UInt8).getD n 0] else [])
def setN (s : Int) : ByteArray := if s = 0 then ⟨#[110, 111, 110, 101]⟩ else B (setPre s.toNat 5)
theorem setPre_len (s : Nat) : ∀ n, (setPre s n).length ≤ n
  | 0 => Nat.le_refl _
  | n + 1 => by
    have := setPre_len s n
    unfold setPre
    rw [List.length_append]
    split <;> simp <;> omega

/-- the program's line, a letter on. -/
def prLine (i : Ins) (l : Int) (s : ByteArray) : ByteArray :=
  if l = 102 then s ++ (⟨#[46]⟩ ++ nth fmtN i.f) else if l = 114 then s ++ (⟨#[46]⟩ ++ nth relN i.e)
  else if l = 103 then s ++ (⟨#[46]⟩ ++ nth fmtN i.e) else if l = 107 then s ++ (⟨#[46]⟩ ++ nth kindN i.e) else s
/-- the operand of a letter. -/
def prX (i : Ins) (l : Int) : ByteArray :=
  if l = 68 then ⟨#[114]⟩ ++ num i.d else if l = 65 then ⟨#[114]⟩ ++ num i.a else if l = 66 then ⟨#[114]⟩ ++ num i.b
  else if l = 67 then ⟨#[114]⟩ ++ num i.e else if l = 105 ∨ l = 116 ∨ l = 118 then num i.m
  else if l = 109 then nth modeN i.e else if l = 115 then setN i.e else ⟨#[]⟩
def prOp (i : Ins) (l : UInt8) (ops : List ByteArray) : List ByteArray := if prX i (l.toNat : Int) = ⟨#[]⟩ then ops else ops ++ [prX i (l.toNat : Int)]
def prFold (i : Ins) : List UInt8 → ByteArray × List ByteArray → ByteArray × List ByteArray
  | [], st => st
  | l :: ls, st => prFold i ls (prLine i (l.toNat : Int) st.1, prOp i l st.2)
/-- the field of a letter is as it may be. -/
def okL (i : Ins) (l : Int) : Prop :=
  (l = 102 → 0 ≤ i.f ∧ i.f < 4) ∧ (l = 114 ∨ l = 103 ∨ l = 107 → 0 ≤ i.e ∧ i.e < 4) ∧ (l = 109 → 0 ≤ i.e ∧ i.e < 6) ∧
  (l = 102 ∨ l = 117 ∨ l = 114 ∨ l = 103 ∨ l = 107 ∨ l = 68 ∨ l = 65 ∨ l = 66 ∨ l = 67 ∨ l = 105 ∨ l = 116 ∨ l = 118 ∨ l = 109 ∨ l = 115)

def plainN : List ByteArray := [⟨#[104, 97, 108, 116]⟩, ⟨#[45]⟩, ⟨#[108, 100]⟩, ⟨#[115, 116]⟩, ⟨#[115, 101, 116]⟩, ⟨#[115, 101, 116, 104]⟩, ⟨#[109, 111, 118]⟩, ⟨#[97, 100, 100, 105]⟩, ⟨#[106, 109, 112]⟩, ⟨#[98, 114]⟩, ⟨#[109, 111, 100, 101]⟩, ⟨#[116, 114, 97, 112, 115]⟩, ⟨#[102, 108, 97, 103, 115]⟩, ⟨#[118, 101, 99, 116, 111, 114]⟩, ⟨#[114, 101, 116]⟩]
def unitN : List ByteArray := [⟨#[45]⟩, ⟨#[97, 100, 100]⟩, ⟨#[115, 117, 98]⟩, ⟨#[109, 117, 108]⟩, ⟨#[100, 105, 118]⟩, ⟨#[115, 113, 114, 116]⟩, ⟨#[102, 109, 97]⟩, ⟨#[114, 101, 109]⟩, ⟨#[109, 111, 100]⟩, ⟨#[114, 105, 110, 116]⟩, ⟨#[99, 118, 116]⟩, ⟨#[116, 111, 105, 110, 116]⟩, ⟨#[102, 114, 111, 109, 105, 110, 116]⟩, ⟨#[109, 105, 110]⟩, ⟨#[109, 97, 120]⟩, ⟨#[99, 109, 112]⟩, ⟨#[115, 105, 103]⟩, ⟨#[110, 101, 120, 116]⟩, ⟨#[115, 99, 97, 108, 101]⟩, ⟨#[99, 108, 97, 115, 115]⟩, ⟨#[110, 101, 103]⟩, ⟨#[97, 98, 115]⟩, ⟨#[99, 111, 112, 121, 115, 105, 103, 110]⟩]
def headN (i : Ins) : ByteArray := if i.c = 1 then nth unitN i.m else nth plainN i.c

/-- the document's first word. -/
def mnemR (i : Ins) : ByteArray :=
  if i.c = 9 then (⟨#[98, 114, 46]⟩ ++ nth relN i.e)
  else if i.c = 1 then
    (if i.m = 10 then ((nth unitN i.m ++ ⟨#[46]⟩) ++ nth fmtN i.f) ++ (⟨#[46]⟩ ++ nth fmtN i.e)
     else if i.m = 11 ∨ i.m = 12 then ((nth unitN i.m ++ ⟨#[46]⟩) ++ nth fmtN i.f) ++ (⟨#[46]⟩ ++ nth kindN i.e)
     else (nth unitN i.m ++ ⟨#[46]⟩) ++ nth fmtN i.f)
  else nth plainN i.c
def regN (n : Int) : ByteArray := ⟨#[114]⟩ ++ num n
/-- the document's operands. -/
def opsR (i : Ins) : List ByteArray :=
  if i.c = 1 then [regN i.d, regN i.a] ++ ((if (opBC i.m).1 = 32 then [regN i.b] else []) ++ (if (opBC i.m).2 = 32 then [regN i.e] else []))
  else if i.c = 2 ∨ i.c = 5 ∨ i.c = 7 then [regN i.d, regN i.a, num i.m]
  else if i.c = 3 then [regN i.b, regN i.a, num i.m]
  else if i.c = 4 then [regN i.d, num i.m]
  else if i.c = 6 then [regN i.d, regN i.a]
  else if i.c = 8 ∨ i.c = 13 then [num i.m]
  else if i.c = 9 then [regN i.a, num i.m]
  else if i.c = 10 then [nth modeN i.e]
  else if i.c = 11 then [setN i.e]
  else if i.c = 12 then [regN i.d, setN i.e]
  else []
/-- the document's line behind n operands. -/
def refPre (s : ByteArray) (ops : List ByteArray) : Nat → ByteArray
  | 0 => s
  | n + 1 => if n = 0 then refPre s ops n ++ (⟨#[32]⟩ ++ ops.getD n ⟨#[]⟩) else refPre s ops n ++ (⟨#[44, 32]⟩ ++ ops.getD n ⟨#[]⟩)
/-- the line. -/
def lineOf (s : ByteArray) (ops : List ByteArray) : ByteArray := if ops = [] then s else s ++ (⟨#[32]⟩ ++ B (Lib.join (ops.map (·.data.toList)) [44, 32]))

theorem refPre_join (s x : ByteArray) (r : List ByteArray) : ∀ n, n ≤ r.length →
    refPre s (x :: r) (n + 1) = s ++ (⟨#[32]⟩ ++ B (Lib.join ((x :: r.take n).map (·.data.toList)) [44, 32]))
  | 0, _ => by
    apply B_ext
    simp [refPre, append_list, Lib.join_one, B_list, B]
  | n + 1, h => by
    have ih := refPre_join s x r n (by omega)
    rw [refPre, if_neg (by omega), ih]
    have hg : r[n]? = some r[n] := List.getElem?_eq_getElem (by omega)
    have hg2 : (r.map (·.data.toList))[n]? = some r[n].data.toList := by rw [List.getElem?_map, hg]; rfl
    have ht := Lib.joinTail_take_succ [44, 32] (r.map (·.data.toList)) n _ hg2
    have hd : (x :: r).getD (n + 1) (⟨#[]⟩ : ByteArray) = r[n] := by
      rw [List.getD_eq_getElem?_getD, List.getElem?_cons_succ, hg]; rfl
    rw [hd]
    apply B_ext
    simp only [append_list, List.map_cons, Lib.join_cons, B_data, List.map_take, ht, List.append_assoc]
theorem refPre_line (s : ByteArray) (ops : List ByteArray) : refPre s ops ops.length = lineOf s ops := by
  unfold lineOf
  cases ops with
  | nil => rfl
  | cons x r =>
    rw [if_neg (by simp)]
    have := refPre_join s x r r.length (Nat.le_refl _)
    rw [List.take_length] at this
    exact this

theorem num_ne (n : Int) : num n ≠ ⟨#[]⟩ := by
  intro h
  have h2 : (Lib.itoa n) = [] := by
    have := congrArg (fun b : ByteArray => b.data.toList) h
    simpa [num, B] using this
  have h3 : ∀ u, Lib.decDigits u ≠ [] := by
    intro u hu
    rw [Lib.decDigits] at hu
    split at hu <;> simp at hu
  unfold Lib.itoa at h2
  split at h2
  · simp at h2
  · exact h3 _ h2
theorem reg_ne (n : Int) : (⟨#[114]⟩ : ByteArray) ++ num n ≠ ⟨#[]⟩ := by
  intro h
  have := congrArg (fun b : ByteArray => b.data.toList) h
  simp [append_list] at this
theorem set_ne (s : Int) (h0 : 0 ≤ s) (h1 : s < 32) : setN s ≠ ⟨#[]⟩ := by
  have : s = 0 ∨ s = 1 ∨ s = 2 ∨ s = 3 ∨ s = 4 ∨ s = 5 ∨ s = 6 ∨ s = 7 ∨ s = 8 ∨ s = 9 ∨ s = 10 ∨ s = 11 ∨ s = 12 ∨ s = 13 ∨ s = 14 ∨ s = 15 ∨ s = 16 ∨ s = 17 ∨ s = 18 ∨ s = 19 ∨ s = 20 ∨ s = 21 ∨ s = 22 ∨ s = 23 ∨ s = 24 ∨ s = 25 ∨ s = 26 ∨ s = 27 ∨ s = 28 ∨ s = 29 ∨ s = 30 ∨ s = 31 := by omega
  rcases this with rfl | rfl | rfl | rfl | rfl | rfl | rfl | rfl | rfl | rfl | rfl | rfl | rfl | rfl | rfl | rfl | rfl | rfl | rfl | rfl | rfl | rfl | rfl | rfl | rfl | rfl | rfl | rfl | rfl | rfl | rfl | rfl <;> decide
theorem mode_ne (s : Int) (h0 : 0 ≤ s) (h1 : s < 6) : nth modeN s ≠ ⟨#[]⟩ := by
  have : s = 0 ∨ s = 1 ∨ s = 2 ∨ s = 3 ∨ s = 4 ∨ s = 5 := by omega
  rcases this with rfl | rfl | rfl | rfl | rfl | rfl <;> decide

end Go.Proofs.YthaooekohjmhdaaDoor
