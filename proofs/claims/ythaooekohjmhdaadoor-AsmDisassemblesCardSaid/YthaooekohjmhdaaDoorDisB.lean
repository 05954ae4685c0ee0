/- Walks of layer 25's Disassemble, the program's and the document's. Condition: the library's tables hold what their text lays. -/
import Derived.Test.YthaooekohjmhdaaDoorDisA
import Derived.Test.YthaooekohjmhdaaDoorPrnL
import Derived.Test.YthaooekohjmhdaaDoorAsmD
import Derived.Test.YthaooekohjmhdaaDoorAsmE
set_option linter.unusedVariables false
set_option linter.unusedSimpArgs false
namespace Go.Proofs.YthaooekohjmhdaaDoor
open Go.RowKit

/-- what is proved of one word: the instruction, the error, the line. -/
structure WordP (wv : Nat) (j : Ins) (r : Int) (s : ByteArray) : Prop where
  r01 : r = 0 ∨ r = 250
  sz : s.size ≤ 400
  dA : ∀ w, Calls Tryd.prog 25 #[.int .u64 (wv : Int)] w fun e w' => e = .returned (.tuple #[.agg j.cells, .int .i64 r]) ∧ Below w.heap.size w w'
  dR : ∀ w, Calls Tryd.prog 28 #[.int .u64 (wv : Int)] w fun e w' => e = .returned (.tuple #[.agg j.cellsR, .int .i64 r]) ∧ Below w.heap.size w w'
  pA : ∀ w, Tb w → Calls Tryd.prog 9 #[.agg j.cells] w fun e w' => e = .returned (.tuple #[.string s, .int .i64 (chk j)]) ∧ Below w.heap.size w w'
  pR : ∀ w, Calls Tryd.prog 10 #[.agg j.cellsR] w fun e w' => e = .returned (.tuple #[.string s, .int .i64 (chk j)]) ∧ Below w.heap.size w w'

theorem word_of (wv : Nat) (h : wv < 18446744073709551616) : ∃ (j : Ins) (r : Int) (s : ByteArray), WordP wv j r s := by
  have h0 : (0 : Int) ≤ (wv : Int) := by omega
  have h1 : (wv : Int) < 18446744073709551616 := by omega
  have hok := decIns_ok (wv : Int)
  obtain ⟨v, hA, hR⟩ := enc_both (decIns wv) hok
  have hDA := asm_Decode wv v (chk (decIns wv)) h0 h1 hA
  have hDR := ref_Decode wv v (chk (decIns wv)) h0 h1 hR
  unfold DecE at hDA
  unfold DecRE at hDR
  unfold decRes at hDA
  unfold decResR at hDR
  by_cases hg : chk (decIns wv) = 0 ∧ v = (wv : Int)
  · rw [if_pos hg] at hDA hDR
    obtain ⟨s, hs, pA, pR⟩ := print_both (decIns wv) hok
    exact ⟨decIns wv, 0, s, Or.inl rfl, hs, hDA, hDR, pA, pR⟩
  · rw [if_neg hg] at hDA hDR
    obtain ⟨s, hs, pA, pR⟩ := print_both ⟨0, 0, 0, 0, 0, 0, 0⟩ (by constructor <;> decide)
    exact ⟨⟨0, 0, 0, 0, 0, 0, 0⟩, 250, s, Or.inr rfl, hs, hDA, hDR, pA, pR⟩

theorem word_all : ∃ (J : Nat → Ins) (R : Nat → Int) (S : Nat → ByteArray), ∀ wv, wv < 18446744073709551616 → WordP wv (J wv) (R wv) (S wv) := by
  have hx : ∀ wv : Nat, ∃ t : Ins × Int × ByteArray, wv < 18446744073709551616 → WordP wv t.1 t.2.1 t.2.2 := fun wv => by
    by_cases h : wv < 18446744073709551616
    · obtain ⟨j, r, s, hp⟩ := word_of wv h
      exact ⟨(j, r, s), fun _ => hp⟩
    · exact ⟨(⟨0, 0, 0, 0, 0, 0, 0⟩, 0, ⟨#[]⟩), fun hh => absurd hh h⟩
  obtain ⟨F, hF⟩ := Classical.axiomOfChoice hx
  exact ⟨fun n => (F n).1, fun n => (F n).2.1, fun n => (F n).2.2, hF⟩

/-- the text of the first k words. -/
def txt (S : Nat → ByteArray) (xs : List Nat) (k : Nat) : List UInt8 := (xs.take k).flatMap fun x => (S x).data.toList ++ [10]
theorem txt_succ (S : Nat → ByteArray) (xs : List Nat) (k : Nat) (h : k < xs.length) : txt S xs (k + 1) = txt S xs k ++ ((S (xs.getD k 0)).data.toList ++ [10]) := by
  unfold txt
  rw [List.take_add_one, List.getElem?_eq_getElem h, List.flatMap_append, List.getD_eq_getElem?_getD, List.getElem?_eq_getElem h]
  simp
theorem txt_len (S : Nat → ByteArray) (xs : List Nat) (hs : ∀ x ∈ xs, (S x).size ≤ 400) : ∀ k, k ≤ xs.length → (txt S xs k).length ≤ 401 * k
  | 0, _ => by simp [txt]
  | k + 1, h => by
    have ih := txt_len S xs hs k (by omega)
    rw [txt_succ S xs k (by omega), List.length_append, List.length_append]
    have hm : xs.getD k 0 ∈ xs := by
      rw [List.getD_eq_getElem?_getD, List.getElem?_eq_getElem (show k < xs.length by omega)]
      exact List.getElem_mem _
    have h2 := hs _ hm
    have h3 : (S (xs.getD k 0)).data.toList.length = (S (xs.getD k 0)).size := by rw [Array.length_toList]; rfl
    rw [h3]
    simp only [List.length_cons, List.length_nil]
    omega
/-- Disassemble, as a function. -/
noncomputable def disR (R : Nat → Int) (S : Nat → ByteArray) (xs : List Nat) : ByteArray × Int :=
  if 1024 < xs.length then (⟨#[]⟩, 5) else if xs.all (fun x => decide (R x = 0)) = true then (B (txt S xs xs.length), 0) else (⟨#[]⟩, 250)

theorem isBuilder_below {T e : TypeId} {B b : Nat} {bs : List Value} {w w' : World} (h : Lib.IsBuilder T e B b bs w) (hb : Below w.heap.size w w') : Lib.IsBuilder T e B b bs w' := by
  have key : ∀ p, Lib.BuilderAt T e B b p bs w → Lib.BuilderAt T e B b p bs w' := fun p ⟨h1, v, hv, ho, hn⟩ => ⟨h1, v, at_below hv hb, own_below ho hb, hn⟩
  rcases h with h | h
  · exact Or.inl (key _ h)
  · exact Or.inr (key _ h)

theorem strCells_txt (S : Nat → ByteArray) (xs : List Nat) (k : Nat) (h : k < xs.length) : Lib.byteCells (txt S xs (k + 1)) = Lib.byteCells (txt S xs k) ++ Lib.strCells (S (xs.getD k 0) ++ ⟨#[10]⟩) := by
  rw [txt_succ S xs k h]
  simp [Lib.byteCells, Lib.strCells]

theorem all_not {R : Nat → Int} {xs : List Nat} {k : Nat} (hk : k < xs.length) (h : R (xs.getD k 0) ≠ 0) : xs.all (fun x => decide (R x = 0)) = false := by
  have hm : xs.getD k 0 ∈ xs := by
    rw [List.getD_eq_getElem?_getD, List.getElem?_eq_getElem hk]
    exact List.getElem_mem _
  cases hx : xs.all (fun x => decide (R x = 0)) with
  | false => rfl
  | true => exact absurd (by simpa using List.all_eq_true.1 hx _ hm) h
theorem all_yes {R : Nat → Int} {xs : List Nat} (h : ∀ j, j < xs.length → R (xs.getD j 0) = 0) : xs.all (fun x => decide (R x = 0)) = true := by
  rw [List.all_eq_true]
  intro x hx
  obtain ⟨j, hj, rfl⟩ := List.mem_iff_getElem.1 hx
  have := h j hj
  rw [List.getD_eq_getElem?_getD, List.getElem?_eq_getElem hj] at this
  simpa using this

end Go.Proofs.YthaooekohjmhdaaDoor
