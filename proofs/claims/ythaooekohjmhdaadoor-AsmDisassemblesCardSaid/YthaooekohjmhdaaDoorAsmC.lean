/- Walks of layer 25: Decode. No condition. -/
import Derived.Test.YthaooekohjmhdaaDoorAsmB
import Derived.Test.YthaooekohjmhdaaDoorQuiet
set_option linter.unusedVariables false
set_option linter.unusedSimpArgs false
namespace Go.Proofs.YthaooekohjmhdaaDoor
open Go.RowKit

theorem asm_bits (wv : Int) (b : Nat) (h0 : 0 ≤ wv) (h1 : wv < 18446744073709551616) (a n : Int)
    (ha : a = 0 ∧ n = 4 ∨ a = 4 ∧ n = 2 ∨ a = 6 ∧ n = 5 ∨ a = 11 ∧ n = 5 ∨ a = 16 ∧ n = 5 ∨ a = 21 ∧ n = 5) (w : World) (hc : w.cell? ⟨b, 0, none⟩ = some (.int .u64 wv)) :
    Calls Tryd.prog 43 #[.int .i64 a, .int .i64 n, .pointer (some ⟨b, 0, none⟩)] w fun e' w' => e' = .returned (.int .i64 (bitsF wv a n)) ∧ ∃ m, w' = w.drewN m := by
  unfold bitsF
  rcases ha with ⟨rfl, rfl⟩ | ⟨rfl, rfl⟩ | ⟨rfl, rfl⟩ | ⟨rfl, rfl⟩ | ⟨rfl, rfl⟩ | ⟨rfl, rfl⟩
  · have := asm_bits_0 wv b w hc h0 h1
    simpa using this
  · exact asm_bits_4 wv b w hc h0 h1
  · exact asm_bits_6 wv b w hc h0 h1
  · exact asm_bits_11 wv b w hc h0 h1
  · exact asm_bits_16 wv b w hc h0 h1
  · exact asm_bits_21 wv b w hc h0 h1

theorem decCells (wv : Int) : (decIns wv).cells = #[.int .i64 (bitsF wv 0 4), .int .i64 (bitsF wv 4 2), .int .i64 (bitsF wv 6 5), .int .i64 (bitsF wv 11 5), .int .i64 (bitsF wv 16 5), .int .i64 (bitsF wv 21 5), .int .i32 (wrap32 (wv / 4294967296))] := rfl

structure DecW (wv : Int) (w wx : World) : Prop where
  bel : Below w.heap.size w wx
  size : wx.heap.size = w.heap.size + 3
  word : wx.cell? ⟨w.heap.size, 0, none⟩ = some (.int .u64 wv)
  out : wx.heap[w.heap.size + 1]? = some (.cells (Ins.mk 0 0 0 0 0 0 0).cells 25 (0, 0))
  ins : wx.heap[w.heap.size + 2]? = some (.cells (decIns wv).cells 25 (0, 0))

theorem decCells' (wv : Int) : (decIns wv).cells = #[.int .i64 (bitsF wv 0 4), .int .i64 (bitsF wv 4 2), .int .i64 (bitsF wv 6 5), .int .i64 (bitsF wv 11 5), .int .i64 (bitsF wv 16 5), .int .i64 (bitsF wv 21 5), .int .i32 (IntKind.i32.wrap (IntKind.u32.wrap (wv / 4294967296)))] := by
  rw [decCells]
  have : wrap32 (wv / 4294967296) = IntKind.i32.wrap (IntKind.u32.wrap (wv / 4294967296)) := by
    simp only [wrap32, IntKind.wrap_i32, IntKind.wrap_u32]
    omega
  rw [this]

theorem decW_made (wv : Int) (w : World) (a : Nat) (cs : Array Value) (hc : cs = (decIns wv).cells) :
    DecW wv w ((((w.alloc (.cells #[.int .u64 wv] 26)).alloc (.cells #[.int .i64 0, .int .i64 0, .int .i64 0, .int .i64 0, .int .i64 0, .int .i64 0, .int .i32 0] 25)).drewN a).alloc (.cells cs 25)) := by
  subst hc
  refine ⟨(below_drewN (((Below.refl _ _).alloc (Nat.le_refl _) _).alloc (by simp) _) a).alloc (by simp; omega) _, by simp, ?_, ?_, ?_⟩
  · exact cell_of_row _ _ 0 #[.int .u64 wv] 26 (0, 0) (at_old (at_drewN (at_old (at_new rfl) _) _) _)
  · exact at_old (at_drewN (at_new (by simp)) _) _
  · exact at_new (by simp)

theorem set7 {W : World} {g : Nat} {a0 a1 a2 a3 a4 a5 a6 : Value} {t : TypeId} {fz : Nat × Nat} (h : W.heap[g]? = some (.cells #[a0, a1, a2, a3, a4, a5, a6] t fz)) (v0 v1 v2 v3 v4 v5 v6 : Value) :
    (((((((W.setCell ⟨g, 0, none⟩ v0).setCell ⟨g, 1, none⟩ v1).setCell ⟨g, 2, none⟩ v2).setCell ⟨g, 3, none⟩ v3).setCell ⟨g, 4, none⟩ v4).setCell ⟨g, 5, none⟩ v5).setCell ⟨g, 6, none⟩ v6) = setB W g (.cells #[v0, v1, v2, v3, v4, v5, v6] t fz) := by
  have hg : g < W.heap.size := (Array.getElem?_eq_some_iff.1 h).1
  rw [setCell_block h, setCell_block (setB_get hg), setB_setB, setCell_block (setB_get hg), setB_setB, setCell_block (setB_get hg), setB_setB, setCell_block (setB_get hg), setB_setB, setCell_block (setB_get hg), setB_setB, setCell_block (setB_get hg), setB_setB]
  rfl

theorem decW_set (wv : Int) (w : World) (a b : Nat) (v0 v1 v2 v3 v4 v5 v6 : Value) (hc : #[v0, v1, v2, v3, v4, v5, v6] = (decIns wv).cells) :
    DecW wv w ((((((((((((w.alloc (.cells #[.int .u64 wv] 26)).alloc (.cells #[.int .i64 0, .int .i64 0, .int .i64 0, .int .i64 0, .int .i64 0, .int .i64 0, .int .i32 0] 25)).drewN a).alloc (.cells #[.int .i64 0, .int .i64 0, .int .i64 0, .int .i64 0, .int .i64 0, .int .i64 0, .int .i32 0] 25)).drewN b).setCell ⟨w.heap.size + 1 + 1, 0, none⟩ v0).setCell ⟨w.heap.size + 1 + 1, 1, none⟩ v1).setCell ⟨w.heap.size + 1 + 1, 2, none⟩ v2).setCell ⟨w.heap.size + 1 + 1, 3, none⟩ v3).setCell ⟨w.heap.size + 1 + 1, 4, none⟩ v4).setCell ⟨w.heap.size + 1 + 1, 5, none⟩ v5).setCell ⟨w.heap.size + 1 + 1, 6, none⟩ v6) := by
  have hsz : ((((w.alloc (.cells #[.int .u64 wv] 26)).alloc (.cells #[.int .i64 0, .int .i64 0, .int .i64 0, .int .i64 0, .int .i64 0, .int .i64 0, .int .i32 0] 25)).drewN a).alloc (.cells #[.int .i64 0, .int .i64 0, .int .i64 0, .int .i64 0, .int .i64 0, .int .i64 0, .int .i32 0] 25)).heap.size = w.heap.size + 3 := by simp
  have hbl : Below w.heap.size w (((((w.alloc (.cells #[.int .u64 wv] 26)).alloc (.cells #[.int .i64 0, .int .i64 0, .int .i64 0, .int .i64 0, .int .i64 0, .int .i64 0, .int .i32 0] 25)).drewN a).alloc (.cells #[.int .i64 0, .int .i64 0, .int .i64 0, .int .i64 0, .int .i64 0, .int .i64 0, .int .i32 0] 25)).drewN b) :=
    below_drewN ((below_drewN (((Below.refl _ _).alloc (Nat.le_refl _) _).alloc (by simp) _) a).alloc (by simp; omega) _) b
  have hat : (((((w.alloc (.cells #[.int .u64 wv] 26)).alloc (.cells #[.int .i64 0, .int .i64 0, .int .i64 0, .int .i64 0, .int .i64 0, .int .i64 0, .int .i32 0] 25)).drewN a).alloc (.cells #[.int .i64 0, .int .i64 0, .int .i64 0, .int .i64 0, .int .i64 0, .int .i64 0, .int .i32 0] 25)).drewN b).heap[w.heap.size + 1 + 1]? = some (.cells #[.int .i64 0, .int .i64 0, .int .i64 0, .int .i64 0, .int .i64 0, .int .i64 0, .int .i32 0] 25 (0, 0)) :=
    at_drewN (at_new (by simp)) _
  rw [set7 hat, hc]
  refine ⟨setB_below hbl (by omega) _, by rw [setB_size]; exact hsz, ?_, ?_, ?_⟩
  · exact cell_of_row _ _ 0 #[.int .u64 wv] 26 (0, 0) (at_setB (at_drewN (at_old (at_drewN (at_old (at_new rfl) _) _) _) _) _ (by show w.heap.size ≠ _; omega))
  · exact at_setB (at_drewN (at_old (at_drewN (at_new (by simp)) _) _) _) _ (by omega)
  · exact setB_get (by show _ < Array.size (World.heap _); simp)

theorem decW_set' (wv : Int) (w : World) (b : Nat) (v0 v1 v2 v3 v4 v5 v6 : Value) (hc : #[v0, v1, v2, v3, v4, v5, v6] = (decIns wv).cells) :
    DecW wv w ((((((((((((w.alloc (.cells #[.int .u64 wv] 26)).alloc (.cells #[.int .i64 0, .int .i64 0, .int .i64 0, .int .i64 0, .int .i64 0, .int .i64 0, .int .i32 0] 25)).alloc (.cells #[.int .i64 0, .int .i64 0, .int .i64 0, .int .i64 0, .int .i64 0, .int .i64 0, .int .i32 0] 25)).drewN b).setCell ⟨w.heap.size + 1 + 1, 0, none⟩ v0).setCell ⟨w.heap.size + 1 + 1, 1, none⟩ v1).setCell ⟨w.heap.size + 1 + 1, 2, none⟩ v2).setCell ⟨w.heap.size + 1 + 1, 3, none⟩ v3).setCell ⟨w.heap.size + 1 + 1, 4, none⟩ v4).setCell ⟨w.heap.size + 1 + 1, 5, none⟩ v5).setCell ⟨w.heap.size + 1 + 1, 6, none⟩ v6)) :=
  decW_set wv w 0 b v0 v1 v2 v3 v4 v5 v6 hc

end Go.Proofs.YthaooekohjmhdaaDoor
