/- Small lemmas that the walks share: endings, worlds, blocks. No condition. -/
import Derived.Test.YthaooekohjmhdaaDoorProg
import Derived.WalkKit
import Derived.Laws.ResultCell
import Derived.Laws.Rows
import Derived.Laws.Tables
import Derived.WalkLawsBesides
import Derived.WalkSmall
import Derived.Lib.Hide
import Derived.Lib.OthersKept
import Derived.BigQuiet
import Derived.Deep.QuietTactic
import Derived.KernelRfl
set_option linter.unusedVariables false
set_option linter.unusedSimpArgs false
namespace Go.Proofs.YthaooekohjmhdaaDoor
open Go.RowKit

theorem ret1 {a a' : Value} (h : a = a') : Ending.returned a = .returned a' := by rw [h]
theorem ret2 {a b a' b' : Value} (h1 : a = a') (h2 : b = b') : Ending.returned (.tuple #[a, b]) = .returned (.tuple #[a', b']) := by rw [h1, h2]
theorem ret3 {a b c a' b' c' : Value} (h1 : a = a') (h2 : b = b') (h3 : c = c') : Ending.returned (.tuple #[a, b, c]) = .returned (.tuple #[a', b', c']) := by rw [h1, h2, h3]
theorem v_int {k : IntKind} {a b : Int} (h : a = b) : Value.int k a = Value.int k b := by rw [h]
theorem v_slice {A : Option Addr} {n n' c : Nat} (h : n = n') : Value.slice A n c = Value.slice A n' c := by rw [h]
theorem v_bool {a b : Bool} (h : a = b) : Value.bool a = Value.bool b := by rw [h]
theorem v_str {a b : ByteArray} (h : a = b) : Value.string a = Value.string b := by rw [h]

/-- The world with block b replaced. -/
def setB (w : World) (b : Nat) (o : Obj) : World := { w with heap := w.heap.setIfInBounds b o }
theorem setB_get {w : World} {b : Nat} {o : Obj} (h : b < w.heap.size) : (setB w b o).heap[b]? = some o := by simp [setB, h]
theorem setB_other {w : World} {b k : Nat} {o : Obj} (h : k ≠ b) : (setB w b o).heap[k]? = w.heap[k]? := by
  simp only [setB]
  rw [Array.getElem?_setIfInBounds]
  rw [if_neg (fun e => h e.symm)]
theorem setB_size {w : World} {b : Nat} {o : Obj} : (setB w b o).heap.size = w.heap.size := by simp [setB]
theorem setB_below {B : Nat} {a w : World} (h : Below B a w) {b : Nat} (hb : B ≤ b) (o : Obj) : Below B a (setB w b o) :=
  h.trans ⟨rfl, rfl, rfl, by rw [setB_size]; exact Nat.le_refl _, fun k hk => setB_other (by omega)⟩

/-- A store into a block that is known whole. -/
theorem setCell_block {w : World} {b : Nat} {cs : Array Value} {t : TypeId} {fz : Nat × Nat} (h : w.heap[b]? = some (.cells cs t fz)) (k : Nat) (v : Value) :
    w.setCell ⟨b, k, none⟩ v = setB w b (.cells (cs.setIfInBounds k v) t fz) := by
  have hlt : b < w.heap.size := (Array.getElem?_eq_some_iff.1 h).1
  have he : w.heap[b] = .cells cs t fz := (Array.getElem?_eq_some_iff.1 h).2
  simp only [World.setCell, setB]
  congr 1
  apply Array.ext
  · simp
  · intro i h1 h2
    have h3 : i < w.heap.size := by simpa using h2
    simp only [Array.getElem_modify, Array.getElem_setIfInBounds h3]
    split
    · rename_i hbi
      subst hbi
      simp [he]
    · rfl

theorem setB_setB (w : World) (b : Nat) (o o' : Obj) : setB (setB w b o) b o' = setB w b o' := by simp [setB]
theorem setB_self {w : World} {b : Nat} {o : Obj} (h : w.heap[b]? = some o) : setB w b o = w := by
  have hlt : b < w.heap.size := (Array.getElem?_eq_some_iff.1 h).1
  have he : w.heap[b] = o := (Array.getElem?_eq_some_iff.1 h).2
  simp only [setB]
  have : w.heap.setIfInBounds b o = w.heap := by
    rw [← he, Array.setIfInBounds, dif_pos hlt, Array.set_getElem_self]
  rw [this]

/-- Behind a callee that made blocks of its own: what was there reads as it did. -/
theorem bcell {W w1 : World} (hb : Below W.heap.size W w1) : (∀ b o, b < W.heap.size → w1.cell? ⟨b, o, none⟩ = W.cell? ⟨b, o, none⟩) ∧ (∀ b o, b < W.heap.size → w1.frozen? ⟨b, o, none⟩ = W.frozen? ⟨b, o, none⟩) :=
  ⟨fun b o h => hb.cell (p := ⟨b, o, none⟩) h, fun b o h => hb.frozen (p := ⟨b, o, none⟩) h⟩

theorem heap_alloc_new (w : World) (o : Obj) : (w.alloc o).heap[w.heap.size]? = some o := by
  show (w.heap.push o)[w.heap.size]? = _
  simp

theorem heap_alloc (w : World) (o : Obj) (k : Nat) : (w.alloc o).heap[k]? = if k = w.heap.size then some o else w.heap[k]? := by
  show (w.heap.push o)[k]? = _
  rw [Array.getElem?_push]

section
variable {P : Program}
/-- A return whose first result lies in memory, whole, and whose second is a temporary. -/
theorem results_ct {fn : Func} {p u : Tmp} {ty : TypeId} (h : fn.results = #[.cell p ty, .tmp u]) (tmps : Array Value) (w : World) (g : Nat) (t : TypeId) (cs : Array Value) (fr : Nat × Nat) (d : TypeDesc)
    (hp : tmps.getD p undef = .pointer (some ⟨g, 0, none⟩)) (hg : w.heap[g]? = some (.cells cs t fr))
    (hu : P.underlying ty = some d) (hd : (match d with | .struct _ | .array _ _ => true | _ => false) = true) (hi : (P.info? ty).map (·.size) = some cs.size) :
    (results fn tmps).run P w = .ok (.tuple #[.agg cs, tmps.getD u undef]) w := by
  rw [results_cell_tmp h, hp]
  simp [asAddr, Result.andThen, run_loadVar_row w g t ty cs fr d hg hu hd hi]
theorem setRow_setB {w : World} {g : Nat} {cs cs' : Array Value} {t : TypeId} {fz : Nat × Nat} (h : w.heap[g]? = some (.cells cs t fz)) : w.setRow g cs' = setB w g (.cells cs' t fz) := by
  have h1 := h
  simp only [World.setRow, setB]
  congr 1
  apply Array.ext_getElem?
  intro i
  rw [Array.getElem?_modify, Array.getElem?_setIfInBounds]
  have hg : g < w.heap.size := (Array.getElem?_eq_some_iff.1 h).1
  by_cases e : g = i
  · subst e
    have h2 : w.heap[g] = .cells cs t fz := (Array.getElem?_eq_some_iff.1 h).2
    simp [hg, h2]
  · simp [e]
/-- A struct laid whole into its block. -/
theorem wpList_store_rowB {ops : Array Oper} {rest : List Oper} {o : Oper} {a : Act} {w : World} {Q : Exit → Act → World → Prop} (hgd : o.guard = none) (ty : TypeId) (x y : Operand) (ho : o.op = .store ty x y)
    (g : Nat) (cells : Array Value) (hx : a.eval x = .pointer (some ⟨g, 0, none⟩)) (hy : a.eval y = .agg cells)
    (t : TypeId) (old : Array Value) (hg : w.heap[g]? = some (.cells old t (0, 0))) (hi : (P.info? ty).map (·.size) = some cells.size)
    (hold : old.size = cells.size) (h1 : cells.all (·.oneCell') = true)
    (h : wpList P ops Q rest (a.put o.dst undef) (setB w g (.cells cells t (0, 0)))) : wpList P ops Q (o :: rest) a w :=
  wpList_store_row hgd ty x y ho g cells hx hy t old hg hi hold h1 (by rw [setRow_setB hg]; exact h)
end
/-- A block's object, through what is made and laid behind it. -/
theorem at_new {w : World} {o : Obj} {k : Nat} (h : k = w.heap.size) : (w.alloc o).heap[k]? = some o := by subst h; exact heap_alloc_new w o
theorem at_old {w : World} {g : Nat} {o : Obj} (h : w.heap[g]? = some o) (o' : Obj) : (w.alloc o').heap[g]? = some o := by
  rw [heap_alloc, if_neg (by have := (Array.getElem?_eq_some_iff.1 h).1; omega)]; exact h
theorem at_drewN {w : World} {g : Nat} {o : Obj} (h : w.heap[g]? = some o) (n : Nat) : (w.drewN n).heap[g]? = some o := h
theorem at_setB {w : World} {g : Nat} {o o' : Obj} (h : w.heap[g]? = some o) (k : Nat) (hk : g ≠ k) : (setB w k o').heap[g]? = some o := by rw [setB_other hk]; exact h
theorem at_below {w w1 : World} {g : Nat} {o : Obj} (h : w.heap[g]? = some o) (hb : Below w.heap.size w w1) : w1.heap[g]? = some o := (hb.block g (Array.getElem?_eq_some_iff.1 h).1).trans h

end Go.Proofs.YthaooekohjmhdaaDoor
