/- The walk of the document's Mnemonic of layer 25. No condition. -/
import Derived.Test.YthaooekohjmhdaaDoorPrnE
import Derived.Test.YthaooekohjmhdaaDoorAsmR
import Derived.Shelf.Strings.PiecesUse
set_option linter.unusedVariables false
set_option linter.unusedSimpArgs false
namespace Go.Proofs.YthaooekohjmhdaaDoor
open Go.RowKit

/-- a list's row, and what one asks of it. -/
theorem pick_row (fid : Nat) (L : List ByteArray) (N : Nat) (hN : L.length = N)
    (h : ∀ w, Calls Tryd.prog fid #[] w fun e w' => e = .returned (.slice (some ⟨w.heap.size, 0, none⟩) N N) ∧ w' = w.alloc (.cells (L.map Value.string).toArray 9))
    (f : Int) (h0 : 0 ≤ f) (h1 : f < N) (w : World) :
    Calls Tryd.prog fid #[] w fun e w' => e = .returned (.slice (some ⟨w.heap.size, 0, none⟩) N N) ∧ Below w.heap.size w w' ∧ w.heap.size < w'.heap.size ∧ w'.cell? ⟨w.heap.size, f.toNat, none⟩ = some (.string (nth L f)) := by
  refine (h w).mono ?_
  rintro e w' ⟨rfl, rfl⟩
  exact ⟨rfl, (Below.refl _ _).alloc (Nat.le_refl _) _, by simp, Lib.pieces_cell_at w L 9 f.toNat _ (nth_some h0 (by omega))⟩

theorem nth_size' (l : List ByteArray) (k : Nat) (h : ∀ x ∈ l, x.size ≤ k) (n : Int) : (nth l n).size ≤ k := by
  unfold nth
  rw [List.getD_eq_getElem?_getD]
  cases hg : l[n.toNat]? with
  | none => exact Nat.zero_le _
  | some x => exact h x (List.mem_of_getElem? hg)

def MneE (w : World) (s : ByteArray) (e : Ending) (w' : World) : Prop := e = .returned (.string s) ∧ Below w.heap.size w w'

set_option maxHeartbeats 2000000 in
theorem ref_Mnemonic_br (f d a b e m : Int) (h0 : 0 ≤ e) (h1 : e < 4) (w : World) :
    Calls Tryd.prog 23 #[.agg (Ins.mk 9 f d a b e m).cellsR] w (MneE w (⟨#[98, 114, 46]⟩ ++ nth relN e)) := by
  have hp := pick_row 36 relN 4 rfl ref_relations e h0 (by omega)
  have hz := nth_size' relN 4 (by decide) e
  have hsum : ¬ 9223372036854775807 < 3 + (nth relN e).size := by omega
  have hlt : e < 4 := h1
  generalize nth relN e = y at *
  clear hz
  unfold Ins.cellsR
  go_enter Tryd.func23, Tryd.ntmps23
  go_upto_region 3 with fail
  go_region_with (first
      | (go_at_call 36; refine (hp _).mono ?_; rintro e' w3 ⟨rfl, hb3, hs3, hk3⟩; obtain ⟨hc3, hf3⟩ := bcell hb3; have HBW := Lib.hid (show Below w.heap.size w w3 from Below.trans (by repeat' (first | (with_reducible exact Below.refl _ _) | (with_reducible assumption) | (with_reducible refine below_drewN ?_ _) | (with_reducible refine Below.drew ?_) | (with_reducible refine setB_below ?_ (by simp <;> omega) _) | (with_reducible refine Below.alloc ?_ (by simp <;> omega) _))) (hb3.mono (by simp <;> omega))); simp at hk3; clear hb3))
  all_goals
    go_wp2_with fail
    go_ret
    exact ⟨rfl, HBW.out⟩

set_option maxHeartbeats 4000000 in
theorem ref_Mnemonic_plain (c f d a b e m : Int) (h0 : 0 ≤ c) (h1 : c ≤ 14) (hn1 : c ≠ 1) (hn2 : c ≠ 9) (w : World) :
    Calls Tryd.prog 23 #[.agg (Ins.mk c f d a b e m).cellsR] w (MneE w (nth plainN c)) := by
  unfold Ins.cellsR
  have hc : c = 0 ∨ c = 2 ∨ c = 3 ∨ c = 4 ∨ c = 5 ∨ c = 6 ∨ c = 7 ∨ c = 8 ∨ c = 10 ∨ c = 11 ∨ c = 12 ∨ c = 13 ∨ c = 14 := by omega
  clear h0 h1 hn1 hn2
  rcases hc with rfl | rfl | rfl | rfl | rfl | rfl | rfl | rfl | rfl | rfl | rfl | rfl | rfl
  all_goals
    go_enter Tryd.func23, Tryd.ntmps23
    go_wp2_with fail
    go_ret
    exact ⟨rfl, ((Below.refl _ _).alloc (Nat.le_refl _) _).alloc (by simp) _⟩

theorem set3 {W : World} {g : Nat} {a0 a1 a2 : Value} {t : TypeId} {fz : Nat × Nat} (h : W.heap[g]? = some (.cells #[a0, a1, a2] t fz)) (v0 v1 v2 : Value) :
    (((W.setCell ⟨g, 0, none⟩ v0).setCell ⟨g, 1, none⟩ v1).setCell ⟨g, 2, none⟩ v2) = setB W g (.cells #[v0, v1, v2] t fz) := by
  have hg : g < W.heap.size := (Array.getElem?_eq_some_iff.1 h).1
  rw [setCell_block h, setCell_block (setB_get hg), setB_setB, setCell_block (setB_get hg), setB_setB]
  rfl

theorem at_drew {w : World} {g : Nat} {o : Obj} (h : w.heap[g]? = some o) : w.drew.heap[g]? = some o := h
theorem box_of {w : World} {g : Nat} {cs : Array Value} {t : TypeId} {fz : Nat × Nat} (h : w.heap[g]? = some (.cells cs t fz)) : ∀ o, w.cell? ⟨g, o, none⟩ = cs[o]? := fun o => by rw [World.cell?, h]; rfl

/-- an operation's copy in a variable of its own, beside the instruction's. -/
structure OpIn (w wx : World) (box : Array Value) (g : Nat) (nm : ByteArray) (OB OC : Int) : Prop where
  c0 : wx.cell? ⟨g, 0, none⟩ = some (.string nm)
  c1 : wx.cell? ⟨g, 1, none⟩ = some (.int .i64 OB)
  c2 : wx.cell? ⟨g, 2, none⟩ = some (.int .i64 OC)
  lt : g < wx.heap.size
  gt : w.heap.size < g
  bel : Below w.heap.size w wx
  box : ∀ o, wx.cell? ⟨w.heap.size, o, none⟩ = box[o]?
theorem OpIn.below {w wx wy : World} {box : Array Value} {g : Nat} {nm : ByteArray} {OB OC : Int} (h : OpIn w wx box g nm OB OC) (hb : Below wx.heap.size wx wy) : OpIn w wy box g nm OB OC := by
  obtain ⟨hc, _⟩ := bcell hb
  refine ⟨(hc _ _ h.lt).trans h.c0, (hc _ _ h.lt).trans h.c1, (hc _ _ h.lt).trans h.c2, Nat.lt_of_lt_of_le h.lt hb.size, h.gt, h.bel.trans (hb.mono h.bel.size), fun o => (hc _ _ (Nat.lt_trans h.gt h.lt)).trans (h.box o)⟩
theorem closeA {w w3 : World} {box : Array Value} {n : Nat} {nm : ByteArray} {OB OC : Int} {t : TypeId} (hs : w3.heap.size = n) (hn : w.heap.size < n) (hB : Below w.heap.size w w3) (hbox : ∀ o, w3.cell? ⟨w.heap.size, o, none⟩ = box[o]?) :
    OpIn w (w3.alloc (.cells #[.string nm, .int .i64 OB, .int .i64 OC] t)) box n nm OB OC := by
  subst hs
  refine ⟨?_, ?_, ?_, by simp, hn, hB.alloc (Nat.le_of_lt hn) _, fun o => ?_⟩
  · rw [World.cell?, heap_alloc_new]; rfl
  · rw [World.cell?, heap_alloc_new]; rfl
  · rw [World.cell?, heap_alloc_new]; rfl
  · rw [World.cell?_alloc_old _ _ _ (by show w.heap.size ≠ w3.heap.size; omega)]
    exact hbox o
theorem closeB {w w3 : World} {box : Array Value} {g : Nat} {nm : ByteArray} {OB OC : Int} {t : TypeId} {fz : Nat × Nat} {a0 a1 a2 : Value} (HZ : w3.heap[g]? = some (.cells #[a0, a1, a2] t fz)) (hn : w.heap.size < g) (hB : Below w.heap.size w w3) (hbox : ∀ o, w3.cell? ⟨w.heap.size, o, none⟩ = box[o]?) :
    OpIn w (((w3.setCell ⟨g, 0, none⟩ (.string nm)).setCell ⟨g, 1, none⟩ (.int .i64 OB)).setCell ⟨g, 2, none⟩ (.int .i64 OC)) box g nm OB OC := by
  have hg : g < w3.heap.size := (Array.getElem?_eq_some_iff.1 HZ).1
  rw [set3 HZ]
  refine ⟨?_, ?_, ?_, by rw [setB_size]; exact hg, hn, setB_below hB (Nat.le_of_lt hn) _, fun o => ?_⟩
  · simp [World.cell?, setB_get hg]
  · simp [World.cell?, setB_get hg]
  · simp [World.cell?, setB_get hg]
  · rw [World.cell?_of_block (setB_other (by show w.heap.size ≠ g; omega))]
    exact hbox o

end Go.Proofs.YthaooekohjmhdaaDoor
