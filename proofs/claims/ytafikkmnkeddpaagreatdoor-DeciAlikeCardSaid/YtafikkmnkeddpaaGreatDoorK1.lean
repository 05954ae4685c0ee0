/- Part 1 of the proof: see the last text. Condition: none. -/
import Derived.Test.YtafikkmnkeddpaaGreatDoorProg
import Derived.Laws.ResultCell
import Derived.Laws.Tables
import Derived.WalkLawsBesides
import Derived.WalkSmall
import Derived.Lib.Hide
import Derived.Lib.OthersKept
import Derived.Laws.CopyOwn
import Derived.Shelf.Strings.Builder1
import Derived.Shelf.Strings.Builder2
import Derived.Shelf.Strings.OnBuilder
import Derived.Shelf.Strings.Trim
import Derived.Shelf.Small.Utf8
import Derived.Shelf.Small.Bits
import Derived.Shelf.Small.Strs
import Derived.Shelf.Strings.BuilderF
import Derived.Shelf.Strings.BuilderK
import Derived.Shelf.Strings.BuilderRune
import Derived.Shelf.Strconv.Itoa0
import Derived.Shelf.Strconv.Itoa1
import Derived.Shelf.LaysM
import Derived.Shelf.Strconv.Itoa2
import Derived.Shelf.Strconv.Itoa3
import Derived.Shelf.Strings.Search1
import Derived.Shelf.Strings.Prefix
import Derived.Shelf.Unicode.Latin
import Derived.Shelf.Unicode.Decode
import Derived.Shelf.Strings.Runes
import Derived.Shelf.Strings.AsciiSet
import Derived.Shelf.Bits.Mul64
import Derived.Shelf.Strings.Repeat
import Derived.Shelf.Unicode.DecodeSlow
import Derived.Shelf.Unicode.DecodeAny
import Derived.Shelf.Unicode.CaseLookup
import Derived.Shelf.Unicode.CaseConvert
import Derived.Shelf.Unicode.CaseTo
import Derived.Shelf.Unicode.CaseLaid
import Derived.Shelf.Strings.MapAny
import Derived.Shelf.Strings.CaseAny
import Derived.Laws.Externs
import Derived.Lib.ItoaNum
import Derived.StillTail
import Derived.Lib.QuietBelow
import Derived.Deep.CutRange
import Derived.Shelf.Spec.TrailingZeros
import Derived.Test.YtafikkmnkeddpaaGreatDoorK0
set_option linter.unusedVariables false
set_option linter.unusedSimpArgs false
namespace Go.Proofs.YtafikkmnkeddpaaGreatDoor
open Go.RowKit
theorem oZ {a a' : Value} (h : a = a') : Ending.returned a = .returned a' := by rw [h]
theorem FB {a b a' b' : Value} (h1 : a = a') (h2 : b = b') : Ending.returned (.tuple #[a, b]) = .returned (.tuple #[a', b']) := by rw [h1, h2]
theorem pO {k : IntKind} {a b : Int} (h : a = b) : Value.int k a = Value.int k b := by rw [h]
theorem qj {A : Option Addr} {n n' c : Nat} (h : n = n') : Value.slice A n c = Value.slice A n' c := by rw [h]
theorem qZ {a b : Bool} (h : a = b) : Value.bool a = Value.bool b := by rw [h]
def setB (w : World) (b : Nat) (o : Obj) : World := { w with heap := w.heap.setIfInBounds b o }
theorem KP {w : World} {b : Nat} {o : Obj} (h : b < w.heap.size) : (setB w b o).heap[b]? = some o := by simp [setB, h]
theorem jY {w : World} {b k : Nat} {o : Obj} (h : k ≠ b) : (setB w b o).heap[k]? = w.heap[k]? := by
 simp only [setB]
 rw [Array.getElem?_setIfInBounds]
 rw [if_neg (fun e => h e.symm)]
theorem IY {w : World} {b : Nat} {o : Obj} : (setB w b o).heap.size = w.heap.size := by simp [setB]
theorem kJ {B : Nat} {a w : World} (h : Below B a w) {b : Nat} (hb : B ≤ b) (o : Obj) : Below B a (setB w b o) :=
 h.trans ⟨rfl, rfl, rfl, by rw [IY]; exact Nat.le_refl _, fun k hk => jY (by omega)⟩
theorem Au {w : World} {b : Nat} {cs : Array Value} {t : TypeId} {fz : Nat × Nat} (h : w.heap[b]? = some (.cells cs t fz)) (k : Nat) (v : Value) :
  w.setCell ⟨b, k, none⟩ v = setB w b (.cells (cs.setIfInBounds k v) t fz) := by
 have hlt : b < w.heap.size := (Array.getElem?_eq_some_iff.1 h).1
 have he : w.heap[b] = .cells cs t fz := (Array.getElem?_eq_some_iff.1 h).2
 simp only [World.setCell, setB]
 congr 1
 apply Array.ext
 ·simp
 ·intro i h1 h2
  have h3 : i < w.heap.size := by simpa using h2
  simp only [Array.getElem_modify, Array.getElem_setIfInBounds h3]
  split
  ·rename_i hbi
   subst hbi
   simp [he]
  ·rfl
theorem iL (w : World) (b : Nat) (o o' : Obj) : setB (setB w b o) b o' = setB w b o' := by simp [setB]
theorem lJ {w : World} {b : Nat} {o : Obj} (h : w.heap[b]? = some o) : setB w b o = w := by
 have hlt : b < w.heap.size := (Array.getElem?_eq_some_iff.1 h).1
 have he : w.heap[b] = o := (Array.getElem?_eq_some_iff.1 h).2
 simp only [setB]
 have : w.heap.setIfInBounds b o = w.heap := by
  rw [← he, Array.setIfInBounds, dif_pos hlt, Array.set_getElem_self]
 rw [this]
theorem Qy {W w1 : World} (hb : Below W.heap.size W w1) : (∀ b o, b < W.heap.size → w1.cell? ⟨b, o, none⟩ = W.cell? ⟨b, o, none⟩) ∧ (∀ b o, b < W.heap.size → w1.frozen? ⟨b, o, none⟩ = W.frozen? ⟨b, o, none⟩) :=
 ⟨fun b o h => hb.cell (p := ⟨b, o, none⟩) h, fun b o h => hb.frozen (p := ⟨b, o, none⟩) h⟩
theorem heap_alloc_new (w : World) (o : Obj) : (w.alloc o).heap[w.heap.size]? = some o := by
 show (w.heap.push o)[w.heap.size]? = _
 simp
theorem heap_alloc (w : World) (o : Obj) (k : Nat) : (w.alloc o).heap[k]? = if k = w.heap.size then some o else w.heap[k]? := by
 show (w.heap.push o)[k]? = _
 rw [Array.getElem?_push]
section
variable {P : Program}
end
theorem Pq {w : World} {g : Nat} {o : Obj} (h : w.heap[g]? = some o) (o' : Obj) : (w.alloc o').heap[g]? = some o := by
 rw [heap_alloc, if_neg (by have := (Array.getElem?_eq_some_iff.1 h).1; omega)]; exact h
theorem Hl {w : World} {g : Nat} {o o' : Obj} (h : w.heap[g]? = some o) (k : Nat) (hk : g ≠ k) : (setB w k o').heap[g]? = some o := by rw [jY hk]; exact h
end Go.Proofs.YtafikkmnkeddpaaGreatDoor
namespace Go.Proofs.YtafikkmnkeddpaaGreatDoor
abbrev WB : Nat := 18446744073709551616
def val : List Nat → Nat
 | [] => 0
 | x :: xs => x + WB * val xs
def Wd (xs : List Nat) : Prop := ∀ x ∈ xs, x < WB
def toW (v : Nat) : List Nat := if h : v = 0 then [] else (v % WB) :: toW (v / WB)
termination_by v
decreasing_by exact Nat.div_lt_self (by omega) (by decide)
theorem jv : toW 0 = [] := by rw [toW]; simp
theorem mZ {v : Nat} (h : v ≠ 0) : toW v = (v % WB) :: toW (v / WB) := by rw [toW]; simp [h]
theorem Wd.nil : Wd [] := fun _ h => by simp at h
theorem Wd.cons {x : Nat} {xs : List Nat} (hx : x < WB) (h : Wd xs) : Wd (x :: xs) := fun y hy => by
 rcases List.mem_cons.1 hy with rfl | hy
 ·exact hx
 ·exact h y hy
theorem Wd.head {x : Nat} {xs : List Nat} (h : Wd (x :: xs)) : x < WB := h x (by simp)
theorem Wd.tail {x : Nat} {xs : List Nat} (h : Wd (x :: xs)) : Wd xs := fun y hy => h y (by simp [hy])
theorem Wd.get {xs : List Nat} (h : Wd xs) (i : Nat) : xs.getD i 0 < WB := by
 by_cases hi : i < xs.length
 ·rw [List.getD_eq_getElem?_getD, List.getElem?_eq_getElem hi]; exact h _ (List.getElem_mem hi)
 ·rw [List.getD_eq_getElem?_getD, List.getElem?_eq_none (by omega)]; decide
theorem Wd.take {xs : List Nat} (h : Wd xs) (n : Nat) : Wd (xs.take n) := fun y hy => h y (List.mem_of_mem_take hy)
theorem Wd.drop {xs : List Nat} (h : Wd xs) (n : Nat) : Wd (xs.drop n) := fun y hy => h y (List.mem_of_mem_drop hy)
theorem Wd.append {xs ys : List Nat} (h : Wd xs) (k : Wd ys) : Wd (xs ++ ys) := fun y hy => by
 rcases List.mem_append.1 hy with hy | hy
 ·exact h y hy
 ·exact k y hy
theorem Wd.set {xs : List Nat} (h : Wd xs) (i y : Nat) (hy : y < WB) : Wd (xs.set i y) := fun z hz => by
 rcases List.mem_or_eq_of_mem_set hz with hz | rfl
 ·exact h z hz
 ·exact hy
theorem Wd.replicate (n : Nat) : Wd (List.replicate n 0) := fun z hz => by
 have := List.eq_of_mem_replicate hz
 subst this
 decide
theorem val_append (xs ys : List Nat) : val (xs ++ ys) = val xs + WB ^ xs.length * val ys := by
 induction xs with
 | nil => simp [val]
 | cons x xs ih =>
  simp only [List.cons_append, val, ih, List.length_cons, Nat.pow_succ]
  rw [Nat.mul_add, Nat.mul_comm (WB ^ xs.length) WB, Nat.mul_assoc]
  omega
theorem lF (n : Nat) : val (List.replicate n 0) = 0 := by
 induction n with
 | zero => rfl
 | succ n ih => simp [List.replicate_succ, val, ih]
theorem oO {xs : List Nat} (h : Wd xs) : val xs < WB ^ xs.length := by
 induction xs with
 | nil => simp [val]
 | cons x xs ih =>
  have h1 := ih h.tail
  have h2 := h.head
  simp only [val, List.length_cons, Nat.pow_succ]
  have : WB * (val xs + 1) ≤ WB * WB ^ xs.length := Nat.mul_le_mul_left _ h1
  rw [Nat.mul_comm (WB ^ xs.length) WB]
  rw [Nat.mul_add] at this
  omega
theorem zH (xs : List Nat) (i : Nat) (h : i < xs.length) : xs.take (i + 1) = xs.take i ++ [xs.getD i 0] := by
 rw [List.take_succ_eq_append_getElem h]
 congr 1
 rw [List.getD_eq_getElem?_getD, List.getElem?_eq_getElem h]
 rfl
theorem dG (xs : List Nat) (i : Nat) : val (xs.take (i + 1)) = val (xs.take i) + WB ^ i * xs.getD i 0 := by
 by_cases h : i < xs.length
 ·rw [zH xs i h, val_append, List.length_take, Nat.min_eq_left (by omega)]
  simp [val]
 ·rw [List.take_of_length_le (by omega), List.take_of_length_le (by omega), List.getD_eq_getElem?_getD, List.getElem?_eq_none (by omega)]
  simp
theorem iI (xs : List Nat) {n : Nat} (h : xs.length ≤ n) : val (xs.take n) = val xs := by rw [List.take_of_length_le h]
theorem dI (v : Nat) : val (toW v) = v := by
 induction v using Nat.strongRecOn with
 | _ v ih =>
  by_cases h : v = 0
  ·subst h; rw [jv]; rfl
  ·rw [mZ h]
   simp only [val]
   rw [ih (v / WB) (Nat.div_lt_self (by omega) (by decide))]
   exact Nat.mod_add_div v WB
theorem kX (v : Nat) : Wd (toW v) := by
 induction v using Nat.strongRecOn with
 | _ v ih =>
  by_cases h : v = 0
  ·subst h; rw [jv]; exact Wd.nil
  ·rw [mZ h]
   exact Wd.cons (Nat.mod_lt _ (by decide)) (ih _ (Nat.div_lt_self (by omega) (by decide)))
theorem D9 (v : Nat) : toW v = [] ↔ v = 0 := by
 constructor
 ·intro h
  by_cases hv : v = 0
  ·exact hv
  ·rw [mZ hv] at h; cases h
 ·rintro rfl; exact jv
theorem o7 (v : Nat) : (toW v).length = 0 ↔ v = 0 := by rw [List.length_eq_zero_iff, D9]
theorem kC {v : Nat} (h : v ≠ 0) : 0 < (toW v).length := by
 rcases Nat.eq_zero_or_pos (toW v).length with h0 | h0
 ·exact absurd ((o7 v).1 h0) h
 ·exact h0
theorem nV (v : Nat) : v < WB ^ (toW v).length := by
 have := oO (kX v)
 rwa [dI] at this
theorem KY {v : Nat} (h : v ≠ 0) : WB ^ ((toW v).length - 1) ≤ v := by
 induction v using Nat.strongRecOn with
 | _ v ih =>
  rw [mZ h]
  simp only [List.length_cons, Nat.add_sub_cancel]
  by_cases h1 : v / WB = 0
  ·rw [h1, jv]; simp; omega
  ·have h2 := ih (v / WB) (Nat.div_lt_self (by omega) (by decide)) h1
   have h3 := kC h1
   have h4 : (toW (v / WB)).length = ((toW (v / WB)).length - 1) + 1 := by omega
   rw [h4, Nat.pow_succ]
   calc WB ^ ((toW (v / WB)).length - 1) * WB ≤ (v / WB) * WB := Nat.mul_le_mul_right _ h2
    _ ≤ v := Nat.div_mul_le_self v WB
theorem ug {a b : Nat} (h : WB ^ a < WB ^ b) : a < b := (Nat.pow_lt_pow_iff_right (by decide)).1 h
theorem jZ {v k : Nat} (h : v < WB ^ k) : (toW v).length ≤ k := by
 by_cases hv : v = 0
 ·subst hv; rw [jv]; simp
 ·have h1 := KY hv
  have h2 := kC hv
  have := ug (Nat.lt_of_le_of_lt h1 h)
  omega
theorem iO {a b : Nat} (h : a ≤ b) : (toW a).length ≤ (toW b).length := jZ (Nat.lt_of_le_of_lt h (nV b))
theorem vH {a b : Nat} (h : (toW a).length < (toW b).length) : a < b := by
 rcases Nat.lt_or_ge a b with h1 | h1
 ·exact h1
 ·have := iO h1; omega
theorem NI {xs : List Nat} (h : Wd xs) (hl : ∀ n, xs.length = n + 1 → xs.getD n 0 ≠ 0) : toW (val xs) = xs := by
 induction xs with
 | nil => exact jv
 | cons x xs ih =>
  have hx := h.head
  have hne : val (x :: xs) ≠ 0 := by
   simp only [val]
   cases xs with
   | nil => have := hl 0 rfl; simp at this; simp [val]; omega
   | cons y ys =>
    have h1 := ih h.tail (fun n hn => by
     have := hl (n + 1) (by simpa using hn)
     simpa using this)
    intro h0
    have h2 : val (y :: ys) = 0 := by
     rcases Nat.mul_eq_zero.1 (show WB * val (y :: ys) = 0 by omega) with h3 | h3
     ·exact absurd h3 (by decide)
     ·exact h3
    rw [h2, jv] at h1
    cases h1
  rw [mZ hne]
  have hm : val (x :: xs) % WB = x := by simp only [val]; rw [Nat.add_mul_mod_self_left]; exact Nat.mod_eq_of_lt hx
  have hd : val (x :: xs) / WB = val xs := by simp only [val]; rw [Nat.add_mul_div_left _ _ (by decide), Nat.div_eq_of_lt hx]; omega
  rw [hm, hd, ih h.tail (fun n hn => by
   have := hl (n + 1) (by simpa using hn)
   simpa using this)]
theorem sS (xs : List Nat) (n : Nat) (hz : ∀ k, n ≤ k → xs.getD k 0 = 0) : val (xs.take n) = val xs := by
 have : ∀ d, val (xs.take (n + d)) = val (xs.take n) := by
  intro d
  induction d with
  | zero => rfl
  | succ d ih => rw [show n + (d + 1) = (n + d) + 1 by omega, dG, ih, hz (n + d) (by omega)]; omega
 have h1 := this xs.length
 rw [iI xs (by omega)] at h1
 exact h1.symm
theorem pG {xs : List Nat} (h : Wd xs) (n : Nat) (hn : n ≤ xs.length) (hz : ∀ k, n ≤ k → xs.getD k 0 = 0) (hl : n = 0 ∨ xs.getD (n - 1) 0 ≠ 0) :
  xs.take n = toW (val xs) := by
 rw [← sS xs n hz, NI (h.take n)]
 intro m hm
 rw [List.length_take, Nat.min_eq_left hn] at hm
 subst hm
 rcases hl with h0 | h0
 ·omega
 ·simpa [List.getD_eq_getElem?_getD, List.getElem?_take] using h0
theorem qI {xs : List Nat} (h : Wd xs) : toW (val xs) = xs.take (toW (val xs)).length := by
 have key : ∀ n, n ≤ xs.length → (∀ k, n ≤ k → xs.getD k 0 = 0) → ∃ m, m ≤ n ∧ xs.take m = toW (val xs) := by
  intro n
  induction n with
  | zero => intro hn hz; exact ⟨0, Nat.le_refl _, pG h 0 hn hz (.inl rfl)⟩
  | succ n ih =>
   intro hn hz
   by_cases h0 : xs.getD n 0 = 0
   ·obtain ⟨m, hm, hmt⟩ := ih (by omega) (fun k hk => by
     rcases Nat.lt_or_ge n k with hlt | hge
     ·exact hz k hlt
     ·have : k = n := by omega
      rw [this]; exact h0)
    exact ⟨m, by omega, hmt⟩
   ·exact ⟨n + 1, Nat.le_refl _, pG h (n + 1) hn hz (.inr (by simpa using h0))⟩
 obtain ⟨m, hm, hmt⟩ := key xs.length (Nat.le_refl _) (fun k hk => by rw [List.getD_eq_getElem?_getD, List.getElem?_eq_none hk]; rfl)
 rw [← hmt, List.length_take, Nat.min_eq_left hm]
theorem eu {xs : List Nat} (h : Wd xs) : (toW (val xs)).length ≤ xs.length := jZ (oO h)
theorem zI {v : Nat} {n : Nat} (h : (toW v).length = n + 1) : (toW v).getD n 0 ≠ 0 := by
 intro h0
 have hv : v ≠ 0 := by rintro rfl; rw [jv] at h; simp at h
 have h1 := dG (toW v) n
 rw [iI _ (by omega), dI, h0] at h1
 have h2 := oO ((kX v).take n)
 rw [List.length_take, Nat.min_eq_left (by omega)] at h2
 have h3 := KY hv
 rw [h, Nat.add_sub_cancel] at h3
 omega
theorem NJ {a b : Nat} (h : toW a = toW b) : a = b := by rw [← dI a, ← dI b, h]
theorem kZ (xs : List Nat) (k : Nat) : val xs = val (xs.take k) + WB ^ k * val (xs.drop k) := by
 by_cases h : k ≤ xs.length
 ·have := val_append (xs.take k) (xs.drop k)
  rw [List.take_append_drop, List.length_take, Nat.min_eq_left h] at this
  exact this
 ·rw [List.take_of_length_le (by omega), List.drop_of_length_le (by omega)]
  simp [val]
theorem vJ {xs ys : List Nat} (hl : xs.length = ys.length) (k : Nat) (h : ∀ j, k ≤ j → xs.getD j 0 = ys.getD j 0) : xs.drop k = ys.drop k := by
 apply List.ext_getElem
 ·simp [hl]
 ·intro i h1 h2
  simp only [List.length_drop] at h1 h2
  have := h (k + i) (by omega)
  rw [List.getD_eq_getElem?_getD, List.getD_eq_getElem?_getD, List.getElem?_eq_getElem (by omega), List.getElem?_eq_getElem (by omega)] at this
  simpa using this
theorem Bq {xs ys : List Nat} (hx : Wd xs) (hy : Wd ys) (hl : xs.length = ys.length) (m : Nat) (hm : m < xs.length) (h : ∀ j, m + 1 ≤ j → xs.getD j 0 = ys.getD j 0)
  (hlt : xs.getD m 0 < ys.getD m 0) : val xs < val ys := by
 rw [kZ xs (m + 1), kZ ys (m + 1), vJ hl (m + 1) h, dG, dG]
 have h1 := oO (hx.take m)
 rw [List.length_take, Nat.min_eq_left (by omega)] at h1
 have h2 : WB ^ m * xs.getD m 0 + WB ^ m ≤ WB ^ m * ys.getD m 0 := by
  have := Nat.mul_le_mul_left (WB ^ m) hlt
  rwa [Nat.mul_succ] at this
 omega
theorem I4 {xs ys : List Nat} (hl : xs.length = ys.length) (h : ∀ j, xs.getD j 0 = ys.getD j 0) : xs = ys := by
 have := vJ hl 0 (fun j _ => h j)
 simpa using this
def nX (a b : Nat) : Int := if a < b then -1 else if a = b then 0 else 1
theorem rC {a b : Nat} (h : a < b) : nX a b = -1 := by unfold nX; rw [if_pos h]
theorem CX (a : Nat) : nX a a = 0 := by unfold nX; rw [if_neg (by omega), if_pos rfl]
theorem yt {a b : Nat} (h : b < a) : nX a b = 1 := by unfold nX; rw [if_neg (by omega), if_neg (by omega)]
theorem FQ (P X Y Z s x y b b' : Nat) (h1 : Z + Y = X + b * P) (h2 : x + b' * WB = s + y + b) : Z + P * s + (Y + P * y) = X + P * x + b' * (P * WB) := by
 have h3 : P * x + P * (b' * WB) = P * s + P * y + P * b := by rw [← Nat.mul_add, ← Nat.mul_add, ← Nat.mul_add, h2]
 rw [Nat.mul_left_comm] at h3
 rw [Nat.mul_comm b P] at h1
 omega
theorem I5 (P X Y Z s x y b b' : Nat) (h1 : Z + b * P = X + Y) (h2 : x + y + b = s + b' * WB) : Z + P * s + b' * (P * WB) = X + P * x + (Y + P * y) := by
 have h3 : P * x + P * y + P * b = P * s + P * (b' * WB) := by rw [← Nat.mul_add, ← Nat.mul_add, ← Nat.mul_add, h2]
 rw [Nat.mul_left_comm] at h3
 rw [Nat.mul_comm b P] at h1
 omega
theorem jD (zs : List Nat) (k s : Nat) (h : k < zs.length) : val ((zs.set k s).take (k + 1)) = val (zs.take k) + WB ^ k * s := by
 rw [dG]
 have e1 : (zs.set k s).take k = zs.take k := by
  rw [List.take_set]
  exact List.set_eq_of_length_le (by rw [List.length_take]; omega)
 have e2 : (zs.set k s).getD k 0 = s := by rw [List.getD_eq_getElem?_getD, List.getElem?_set_self h]; rfl
 rw [e1, e2]
theorem getD_set_ne (zs : List Nat) (k j s : Nat) (h : k ≠ j) : (zs.set k s).getD j 0 = zs.getD j 0 := by
 rw [List.getD_eq_getElem?_getD, List.getD_eq_getElem?_getD, List.getElem?_set_ne h]
theorem kR (zs : List Nat) (k s : Nat) (h : k < zs.length) : (zs.set k s).getD k 0 = s := by rw [List.getD_eq_getElem?_getD, List.getElem?_set_self h]; rfl
structure o8 (xs ys : List Nat) (k : Nat) (zs : List Nat) (b : Nat) : Prop where
 len : zs.length = xs.length
 wd : Wd zs
 bit : b ≤ 1
 eq : val (zs.take k) + val (ys.take k) = val (xs.take k) + b * WB ^ k
 rest : ∀ j, k ≤ j → zs.getD j 0 = xs.getD j 0
theorem o8.start {xs ys : List Nat} (h : Wd xs) : o8 xs ys 0 xs 0 := ⟨rfl, h, by omega, by simp [val], fun _ _ => rfl⟩
theorem o8.step {xs ys zs : List Nat} {k b s b' : Nat} (h : o8 xs ys k zs b) (hk : k < xs.length) (hs : s < WB) (hb : b' ≤ 1) (he : xs.getD k 0 + b' * WB = s + ys.getD k 0 + b) :
  o8 xs ys (k + 1) (zs.set k s) b' := by
 refine ⟨by rw [List.length_set, h.len], h.wd.set _ _ hs, hb, ?_, fun j hj => ?_⟩
 ·rw [jD _ _ _ (by rw [h.len]; exact hk), dG, dG, Nat.pow_succ]
  exact FQ _ _ _ _ _ _ _ _ _ h.eq he
 ·rw [getD_set_ne _ _ _ _ (by omega)]
  exact h.rest j (by omega)
theorem o8.done {xs ys zs : List Nat} {b : Nat} (h : o8 xs ys xs.length zs b) (hl : ys.length ≤ xs.length) (hle : val ys ≤ val xs) : val zs = val xs - val ys := by
 have := h.eq
 rw [iI _ (by rw [h.len]; exact Nat.le_refl _), iI _ hl, iI _ (Nat.le_refl _)] at this
 have hz := oO h.wd
 rw [h.len] at hz
 have hb := h.bit
 have : b = 0 ∨ b = 1 := by omega
 rcases this with rfl | rfl <;> omega
structure rD (xs ys : List Nat) (k : Nat) (zs : List Nat) (b : Nat) : Prop where
 len : zs.length = xs.length + 1
 wd : Wd zs
 bit : b ≤ 1
 eq : val (zs.take k) + b * WB ^ k = val (xs.take k) + val (ys.take k)
theorem rD.step {xs ys zs : List Nat} {k b s b' : Nat} (h : rD xs ys k zs b) (hk : k < xs.length) (hs : s < WB) (hb : b' ≤ 1) (he : xs.getD k 0 + ys.getD k 0 + b = s + b' * WB) :
  rD xs ys (k + 1) (zs.set k s) b' := by
 refine ⟨by rw [List.length_set, h.len], h.wd.set _ _ hs, hb, ?_⟩
 rw [jD _ _ _ (by rw [h.len]; omega), dG, dG, Nat.pow_succ]
 exact I5 _ _ _ _ _ _ _ _ _ h.eq he
theorem rD.done {xs ys zs : List Nat} {b : Nat} (h : rD xs ys xs.length zs b) (hl : ys.length ≤ xs.length) : Wd (zs.set xs.length b) ∧ val (zs.set xs.length b) = val xs + val ys := by
 have hb := h.bit
 refine ⟨h.wd.set _ _ (by have : WB = 18446744073709551616 := rfl; omega), ?_⟩
 have := h.eq
 rw [iI xs (Nat.le_refl _), iI _ hl] at this
 have e := jD zs xs.length b (by rw [h.len]; omega)
 rw [iI _ (by rw [List.length_set, h.len]; exact Nat.le_refl _), Nat.mul_comm] at e
 omega
structure o9 (xs ys : List Nat) (i : Nat) (zs : List Nat) : Prop where
 len : zs.length = xs.length + ys.length
 wd : Wd zs
 eq : val (zs.take (i + ys.length)) = val (xs.take i) * val ys
 rest : ∀ j, i + ys.length ≤ j → zs.getD j 0 = 0
structure sV (ys : List Nat) (x i j : Nat) (z0 zs : List Nat) (c : Nat) : Prop where
 len : zs.length = z0.length
 wd : Wd zs
 carry : c < WB
 eq : val (zs.take (i + j)) + c * WB ^ (i + j) = val (z0.take (i + j)) + x * val (ys.take j) * WB ^ i
 rest : ∀ m, i + j ≤ m → zs.getD m 0 = z0.getD m 0
theorem o9.start (xs ys : List Nat) : o9 xs ys 0 (List.replicate (xs.length + ys.length) 0) := by
 refine ⟨by simp, Wd.replicate _, ?_, fun j _ => ?_⟩
 ·rw [List.take_replicate, lF]; simp [val]
 ·rw [List.getD_eq_getElem?_getD, List.getElem?_replicate]; split <;> rfl
theorem sV.start {zs : List Nat} (ys : List Nat) (x i : Nat) (h : Wd zs) : sV ys x i 0 zs zs 0 := ⟨rfl, h, by decide, by simp [val], fun _ _ => rfl⟩
theorem FT (P Q X Z Y c s c' x y p : Nat) (h1 : Z + c * (P * Q) = X + x * Y * P) (h2 : x * y + p + c = s + c' * WB) :
  Z + (P * Q) * s + c' * (P * Q * WB) = X + (P * Q) * p + x * (Y + Q * y) * P := by
 have h3 : (P * Q) * (x * y) + (P * Q) * p + (P * Q) * c = (P * Q) * s + (P * Q) * (c' * WB) := by rw [← Nat.mul_add, ← Nat.mul_add, ← Nat.mul_add, h2]
 have e1 : x * (Y + Q * y) * P = x * Y * P + (P * Q) * (x * y) := by
  rw [Nat.mul_add, Nat.add_mul]
  congr 1
  rw [Nat.mul_comm P Q, Nat.mul_comm x (Q * y), Nat.mul_assoc Q y x, Nat.mul_comm y x, Nat.mul_assoc Q (x * y) P, Nat.mul_comm (x * y) P, Nat.mul_assoc Q P]
 have e2 : (P * Q) * (c' * WB) = c' * (P * Q * WB) := Nat.mul_left_comm _ _ _
 have e3 : c * (P * Q) = (P * Q) * c := Nat.mul_comm _ _
 rw [e1]
 omega
theorem sV.step {ys z0 zs : List Nat} {x i j c s c' : Nat} (h : sV ys x i j z0 zs c) (hij : i + j < z0.length) (hs : s < WB) (hc : c' < WB)
  (he : x * ys.getD j 0 + z0.getD (i + j) 0 + c = s + c' * WB) : sV ys x i (j + 1) z0 (zs.set (i + j) s) c' := by
 refine ⟨by rw [List.length_set, h.len], h.wd.set _ _ hs, hc, ?_, fun m hm => ?_⟩
 ·rw [← Nat.add_assoc, jD _ _ _ (by rw [h.len]; exact hij), dG z0, dG ys, Nat.pow_succ, Nat.pow_add]
  have := h.eq
  rw [Nat.pow_add] at this
  exact FT _ _ _ _ _ _ _ _ _ _ _ this he
 ·rw [getD_set_ne _ _ _ _ (by omega)]
  exact h.rest m (by omega)
theorem o9.step {xs ys z0 zs : List Nat} {i c : Nat} (h : o9 xs ys i z0) (hi : i < xs.length) (k : sV ys (xs.getD i 0) i ys.length z0 zs c) : o9 xs ys (i + 1) (zs.set (i + ys.length) c) := by
 refine ⟨by rw [List.length_set, k.len, h.len], k.wd.set _ _ k.carry, ?_, fun j hj => ?_⟩
 ·rw [show i + 1 + ys.length = (i + ys.length) + 1 by omega, jD _ _ _ (by rw [k.len, h.len]; omega), dG xs, Nat.add_mul]
  have := k.eq
  rw [h.eq, iI ys (Nat.le_refl _)] at this
  rw [Nat.mul_comm (WB ^ (i + ys.length)) c, this, Nat.mul_comm (WB ^ i), Nat.mul_assoc, Nat.mul_assoc, Nat.mul_comm (val ys) (WB ^ i)]
 ·rw [getD_set_ne _ _ _ _ (by omega), k.rest j (by omega)]
  exact h.rest j (by omega)
theorem o9.done {xs ys zs : List Nat} (h : o9 xs ys xs.length zs) : val zs = val xs * val ys := by
 have := h.eq
 rwa [iI _ (by rw [h.len]; exact Nat.le_refl _), iI _ (Nat.le_refl _)] at this
theorem FU {x y p c hi lo s1 c1 s2 c2 : Nat} (hx : x < WB) (hy : y < WB) (hp : p < WB) (hc : c < WB) (h1 : x * y = hi * WB + lo) (h2 : lo + p + 0 = s1 + c1 * WB) (h3 : s1 + c + 0 = s2 + c2 * WB) :
  x * y + p + c = s2 + (hi + c1 + c2) * WB ∧ hi + c1 + c2 < WB := by
 have hW : WB = 18446744073709551616 := rfl
 have hxy : x * y ≤ (WB - 1) * (WB - 1) := Nat.mul_le_mul (by omega) (by omega)
 have e : x * y + p + c = s2 + (hi + c1 + c2) * WB := by rw [Nat.add_mul, Nat.add_mul]; omega
 refine ⟨e, ?_⟩
 have e2 : (WB - 1) * (WB - 1) = 340282366920938463426481119284349108225 := rfl
 have e3 : (hi + c1 + c2) * WB ≤ 340282366920938463463374607431768211455 := by omega
 rcases Nat.lt_or_ge (hi + c1 + c2) WB with h | h
 ·exact h
 ·have := Nat.mul_le_mul_right WB h
  have e4 : WB * WB = 340282366920938463463374607431768211456 := rfl
  omega
structure o_ (xs : List Nat) (q s i : Nat) (zs : List Nat) : Prop where
 len : zs.length = q + xs.length + 1
 wd : Wd zs
 eq : val (zs.take (q + i + 1)) = val (xs.take i) * 2 ^ s * WB ^ q
 top : zs.getD (q + i) 0 < 2 ^ s
theorem o_.start (xs : List Nat) (q s : Nat) : o_ xs q s 0 (List.replicate (q + xs.length + 1) 0) := by
 refine ⟨by simp, Wd.replicate _, ?_, ?_⟩
 ·rw [List.take_replicate, lF]; simp [val]
 ·rw [List.getD_eq_getElem?_getD, List.getElem?_replicate]
  have : 0 < 2 ^ s := Nat.two_pow_pos s
  split <;> exact this
theorem o_.step {xs zs : List Nat} {q s i : Nat} (h : o_ xs q s i zs) (hi : i < xs.length) (hx : Wd xs) (hs : s < 64) (hz : zs.getD (q + i) 0 + xs.getD i 0 * 2 ^ s % WB < WB) :
  o_ xs q s (i + 1) ((zs.set (q + i) (zs.getD (q + i) 0 + xs.getD i 0 * 2 ^ s % WB)).set (q + i + 1) (xs.getD i 0 * 2 ^ s / WB)) := by
 have hlen := h.len
 have hhi : xs.getD i 0 * 2 ^ s / WB < 2 ^ s := by
  refine Nat.div_lt_of_lt_mul ?_
  exact Nat.mul_lt_mul_of_pos_right (hx.get i) (Nat.two_pow_pos s)
 refine ⟨by rw [List.length_set, List.length_set, hlen], (h.wd.set _ _ hz).set _ _ (Nat.lt_trans hhi (Nat.pow_lt_pow_right (by decide) hs)), ?_, ?_⟩
 ·rw [show q + (i + 1) + 1 = (q + i + 1) + 1 by omega, jD _ _ _ (by rw [List.length_set]; omega), jD _ _ _ (by omega), dG xs]
  have e := h.eq
  rw [dG] at e
  have e2 := Nat.div_add_mod (xs.getD i 0 * 2 ^ s) WB
  generalize xs.getD i 0 * 2 ^ s / WB = hi at *
  generalize xs.getD i 0 * 2 ^ s % WB = lo at *
  rw [Nat.add_mul, Nat.add_mul, Nat.mul_add, Nat.pow_succ]
  have e3 : WB ^ i * xs.getD i 0 * 2 ^ s * WB ^ q = WB ^ (q + i) * (xs.getD i 0 * 2 ^ s) := by
   rw [Nat.pow_add, Nat.mul_comm (WB ^ i * xs.getD i 0 * 2 ^ s), Nat.mul_assoc, Nat.mul_assoc]
  rw [e3, ← e2, Nat.mul_add, ← e]
  rw [Nat.mul_assoc (WB ^ (q + i)) WB hi]
  omega
 ·rw [show q + (i + 1) = q + i + 1 by omega, kR _ _ _ (by rw [List.length_set]; omega)]
  exact hhi
theorem o_.done {xs zs : List Nat} {q s : Nat} (h : o_ xs q s xs.length zs) : val zs = val xs * 2 ^ (64 * q + s) := by
 have := h.eq
 rw [iI _ (by rw [h.len]; omega), iI _ (Nat.le_refl _)] at this
 rw [this, Nat.mul_assoc, Nat.pow_add, Nat.mul_comm (2 ^ s), show WB = 2 ^ 64 from rfl, ← Nat.pow_mul]
theorem FV {z x s : Nat} (hz : z < 2 ^ s) (hs : s < 64) : z + x * 2 ^ s % WB < WB := by
 have e : WB = 2 ^ (64 - s) * 2 ^ s := by rw [← Nat.pow_add, Nat.sub_add_cancel (by omega)]
 have h1 : x * 2 ^ s % WB = x % 2 ^ (64 - s) * 2 ^ s := by rw [e, Nat.mul_mod_mul_right]
 have h2 : x % 2 ^ (64 - s) < 2 ^ (64 - s) := Nat.mod_lt _ (Nat.two_pow_pos _)
 have h3 := Nat.mul_le_mul_right (2 ^ s) h2
 rw [h1]
 rw [Nat.succ_mul] at h3
 rw [← e] at h3
 omega
end Go.Proofs.YtafikkmnkeddpaaGreatDoor
namespace Go.Proofs.YtafikkmnkeddpaaGreatDoor
open Go.RowKit
def Nw (w : World) (B : Nat) (A : Option Addr) (xs : List Nat) : Prop :=
 0 < xs.length → ∃ b o, A = some ⟨b, o, none⟩ ∧ b < B ∧ ∀ j, j < xs.length → w.cell? ⟨b, o + j, none⟩ = some (.int .u64 ((xs.getD j 0 : Nat) : Int))
theorem Nw.nil {w : World} {B : Nat} {A : Option Addr} : Nw w B A [] := fun h => by simp at h
theorem Nw.keep {w w' : World} {B : Nat} {A : Option Addr} {xs : List Nat} (h : Nw w B A xs) (hk : ∀ b o, b < B → w'.cell? ⟨b, o, none⟩ = w.cell? ⟨b, o, none⟩) : Nw w' B A xs := fun hp => by
 obtain ⟨b, o, hA, hb, hc⟩ := h hp
 exact ⟨b, o, hA, hb, fun j hj => (hk b (o + j) hb).trans (hc j hj)⟩
theorem Nw.more {w : World} {B B' : Nat} {A : Option Addr} {xs : List Nat} (h : Nw w B A xs) (hB : B ≤ B') : Nw w B' A xs := fun hp => by
 obtain ⟨b, o, hA, hb, hc⟩ := h hp
 exact ⟨b, o, hA, by omega, hc⟩
theorem Nw.below {w w' : World} {B : Nat} {A : Option Addr} {xs : List Nat} (h : Nw w B A xs) (hb : Below B w w') : Nw w' B A xs := h.keep fun b o hbB => hb.cell (p := ⟨b, o, none⟩) hbB
theorem Nw.drewN {w : World} {B : Nat} {A : Option Addr} {xs : List Nat} (h : Nw w B A xs) (n : Nat) : Nw (w.drewN n) B A xs := h
theorem Nw.take {w : World} {B : Nat} {A : Option Addr} {xs : List Nat} (h : Nw w B A xs) (n : Nat) : Nw w B A (xs.take n) := fun hp => by
 rw [List.length_take] at hp
 obtain ⟨b, o, hA, hb, hc⟩ := h (by omega)
 refine ⟨b, o, hA, hb, fun j hj => ?_⟩
 rw [List.length_take] at hj
 rw [hc j (by omega)]
 congr 3
 rw [List.getD_eq_getElem?_getD, List.getD_eq_getElem?_getD, List.getElem?_take, if_pos (by omega)]
theorem Nw.at_ {w : World} {B : Nat} {A : Option Addr} {xs : List Nat} (h : Nw w B A xs) {k : Nat} (hk : k < xs.length) :
  ∃ b o, A = some ⟨b, o, none⟩ ∧ b < B ∧ w.cell? ⟨b, o + k, none⟩ = some (.int .u64 ((xs.getD k 0 : Nat) : Int)) := by
 obtain ⟨b, o, hA, hb, hc⟩ := h (by omega)
 exact ⟨b, o, hA, hb, hc k hk⟩
structure Sl (w : World) (A : Option Addr) (c : Nat) (xs : List Nat) : Prop where
 nw : Nw w w.heap.size A xs
 wd : Wd xs
 cap : xs.length ≤ c
 small : xs.length ≤ 1000000000000
theorem Sl.below {w w' : World} {A : Option Addr} {c : Nat} {xs : List Nat} (h : Sl w A c xs) (hb : Below w.heap.size w w') : Sl w' A c xs :=
 ⟨(h.nw.below hb).more hb.size, h.wd, h.cap, h.small⟩
theorem Sl.drewN {w : World} {A : Option Addr} {c : Nat} {xs : List Nat} (h : Sl w A c xs) (n : Nat) : Sl (w.drewN n) A c xs := ⟨h.nw, h.wd, h.cap, h.small⟩
theorem Sl.alloc {w : World} {A : Option Addr} {c : Nat} {xs : List Nat} (h : Sl w A c xs) (o : Obj) : Sl (w.alloc o) A c xs := h.below ((Below.refl _ _).alloc (Nat.le_refl _) _)
theorem Sl.take {w : World} {A : Option Addr} {c : Nat} {xs : List Nat} (h : Sl w A c xs) (n : Nat) : Sl w A c (xs.take n) :=
 ⟨h.nw.take n, h.wd.take n, by have := h.cap; rw [List.length_take]; omega, by have := h.small; rw [List.length_take]; omega⟩
theorem Sl.trim {w : World} {A : Option Addr} {c : Nat} {xs : List Nat} (h : Sl w A c xs) : Sl w A c (toW (val xs)) := by
 rw [qI h.wd]
 exact h.take _
theorem Sl.nil {w : World} : Sl w none 0 [] := ⟨Nw.nil, Wd.nil, Nat.le_refl _, by simp⟩
set_option maxHeartbeats 400000 in
theorem cZ (w : World) (A : Option Addr) (c : Nat) (xs : List Nat) (h : Sl w A c xs) :
  Calls Tryz.prog 112 #[.slice A xs.length c] w fun e w' => e = .returned (.slice A (toW (val xs)).length c) ∧ w = w' := by
 have hc := h.cap
 have hl := h.small
 have HA := Lib.hid h.nw
 have HW := Lib.hid h.wd
 clear h
 go_enter Tryz.func112, Tryz.ntmps112
 go_wp2
 go_loop [3] (fun t => ∃ k : Nat, t = .int .i64 k ∧ k ≤ xs.length ∧ Hid (∀ j, k ≤ j → xs.getD j 0 = 0)) (fun t => (intOf t).toNat)
 case atStart => exact ⟨xs.length, rfl, Nat.le_refl _, Lib.hid fun j hj => by rw [List.getD_eq_getElem?_getD, List.getElem?_eq_none hj]; rfl⟩
 case round =>
  obtain ⟨k, rfl, hk, hz⟩ := hrel
  by_cases h0 : k = 0
  ·subst h0
   have hlen : (toW (val xs)).length = 0 := by rw [← pG HW.out 0 (by omega) hz.out (.inl rfl)]; rfl
   have HL := Lib.hid hlen
   clear hlen
   go_wp2
   go_ret
   refine ⟨oZ ?_, rfl⟩
   rw [HL.out]
   simp [go_sem]
  ·obtain ⟨m, rfl⟩ : ∃ m, k = m + 1 := ⟨k - 1, by omega⟩
   obtain ⟨b, o, rfl, hb, hcell⟩ := HA.out.at_ (k := m) (by omega)
   by_cases hx : xs.getD m 0 = 0
   ·have HX := Lib.hid hx
    rw [hx] at hcell
    clear hx
    go_wp2
    go_round
    case rel =>
     refine ⟨m, rfl, by omega, Lib.hid fun j hj => ?_⟩
     rcases Nat.lt_or_ge m j with hlt | hge
     ·exact hz.out j hlt
     ·rw [show j = m by omega]; exact HX.out
    case measure => simp only [intOf]; omega
   ·have hlen : (toW (val xs)).length = m + 1 := by
     rw [← pG HW.out (m + 1) hk hz.out (.inr (by simpa using hx)), List.length_take, Nat.min_eq_left hk]
    have HL := Lib.hid hlen
    clear hlen
    have hx2 : (((xs.getD m 0 : Nat) : Int) == 0) = false := by simp only [beq_eq_false_iff_ne, ne_eq]; omega
    generalize xs.getD m 0 = y at *
    go_wp2
    go_ret
    refine ⟨oZ ?_, rfl⟩
    rw [HL.out]
    simp [go_sem]
set_option maxHeartbeats 1000000 in
theorem iy (w : World) (A B : Option Addr) (ca cb : Nat) (xs ys : List Nat) (hA : Sl w A ca xs) (hB : Sl w B cb ys) :
  Calls Tryz.prog 103 #[.slice A xs.length ca, .slice B ys.length cb] w fun e w' => e = .returned (.int .i64 (nX (val xs) (val ys))) ∧ ∃ n, w' = w.drewN n := by
 have ha := Lib.hid hA.trim.nw
 have hb := Lib.hid hB.trim.nw
 have hna := eu hA.wd
 have hnb := eu hB.wd
 have hca := hA.cap
 have hcb := hB.cap
 have hla := hA.small
 have hlb := hB.small
 go_enter Tryz.func103, Tryz.ntmps103
 have hlt' := Lib.hid fun h : (toW (val xs)).length < (toW (val ys)).length => rC (vH h)
 have hgt' := Lib.hid fun h : (toW (val ys)).length < (toW (val xs)).length => yt (vH h)
 go_wp2_with (go_at_call 112; refine (cZ _ _ _ _ (by assumption)).mono ?_; rintro e w' ⟨rfl, rfl⟩)
 ·go_ret
  refine ⟨oZ (pO ?_), 0, rfl⟩
  rw [hlt'.out (by assumption)]
 ·go_ret
  refine ⟨oZ (pO ?_), 0, rfl⟩
  rw [hgt'.out (by assumption)]
 ·have h1 : ¬ (toW (val xs)).length < (toW (val ys)).length := by assumption
  have h2 : ¬ (toW (val ys)).length < (toW (val xs)).length := by assumption
  have hl := Lib.hid (show (toW (val xs)).length = (toW (val ys)).length by omega)
  have hwx := Lib.hid (kX (val xs))
  have hwy := Lib.hid (kX (val ys))
  clear h1 h2 hlt' hgt' hA hB
  go_loopw [5] (fun t wr => ∃ (k n : Nat), t = .int .i64 ((k : Int) - 1) ∧ wr = w.drewN n ∧ k ≤ (toW (val xs)).length ∧ Hid (∀ j, k ≤ j → (toW (val xs)).getD j 0 = (toW (val ys)).getD j 0)) (fun t wr => (intOf t + 1).toNat)
  case atStart =>
   refine ⟨(toW (val xs)).length, 0, rfl, rfl, Nat.le_refl _, Lib.hid fun j hj => ?_⟩
   rw [List.getD_eq_getElem?_getD, List.getD_eq_getElem?_getD, List.getElem?_eq_none hj, List.getElem?_eq_none (by have := hl.out; omega)]
  case round =>
   obtain ⟨k, n, rfl, rfl, hk, hz⟩ := hrel
   by_cases h0 : k = 0
   ·subst h0
    have hfin : nX (val xs) (val ys) = 0 := by
     rw [NJ (I4 hl.out (fun j => hz.out j (Nat.zero_le _)))]
     exact CX _
    have HF := Lib.hid hfin
    clear hfin
    rw [show ((0 : Nat) : Int) - 1 = -1 from rfl]
    go_wp2
    go_ret
    exact ⟨oZ (pO HF.out.symm), n, rfl⟩
   ·obtain ⟨m, rfl⟩ : ∃ m, k = m + 1 := ⟨k - 1, by omega⟩
    rw [show ((m + 1 : Nat) : Int) - 1 = (m : Int) by omega]
    obtain ⟨b, o, rfl, hbN, hcell⟩ := ha.out.at_ (k := m) (by omega)
    have hmv : m < (toW (val ys)).length := by have := hl.out; omega
    obtain ⟨b', o', rfl, hbN', hcell'⟩ := hb.out.at_ (k := m) hmv
    have HLT := Lib.hid fun h : (toW (val xs)).getD m 0 < (toW (val ys)).getD m 0 => rC (Bq hwx.out hwy.out hl.out m (by omega) hz.out h)
    have HGT := Lib.hid fun h : (toW (val ys)).getD m 0 < (toW (val xs)).getD m 0 => yt (Bq hwy.out hwx.out hl.out.symm m hmv (fun j hj => (hz.out j hj).symm) h)
    rw [dI, dI] at HLT HGT
    have HEQ : (toW (val xs)).getD m 0 = (toW (val ys)).getD m 0 → Hid (∀ j, m ≤ j → (toW (val xs)).getD j 0 = (toW (val ys)).getD j 0) := fun e => Lib.hid fun j hj => by
     rcases Nat.lt_or_ge m j with hlt | hge
     ·exact hz.out j hlt
     ·rw [show j = m by omega]; exact e
    generalize (toW (val xs)).getD m 0 = x at *
    generalize (toW (val ys)).getD m 0 = y at *
    rcases Nat.lt_trichotomy x y with hxy | hxy | hxy
    ·have HF := Lib.hid (HLT.out hxy)
     clear HLT HGT HEQ
     go_wp2
     go_quiet (fail)
     go_wp2
     go_ret
     exact ⟨oZ (pO HF.out.symm), by simp only [World.drewN_drewN]; exact ⟨_, rfl⟩⟩
    ·subst hxy
     have HF := HEQ rfl
     have hxx : ¬ x < x := Nat.lt_irrefl x
     clear HLT HGT HEQ
     go_wp2
     go_quiet (fail)
     go_wp2
     go_quiet (fail)
     go_wp2
     go_roundw
     case rel => exact ⟨m, _, rfl, rfl, by omega, HF⟩
     case measure => simp only [intOf]; omega
    ·have HF := Lib.hid (HGT.out hxy)
     have hxx : ¬ x < y := by omega
     clear HLT HGT HEQ
     go_wp2
     go_quiet (fail)
     go_wp2
     go_quiet (fail)
     go_wp2
     go_ret
     exact ⟨oZ (pO HF.out.symm), by simp only [World.drewN_drewN]; exact ⟨_, rfl⟩⟩
theorem Ho : (Tryz.prog.info? 22).map (fun i => (i.zero, i.size, i.bytes)) = some (some (.int .u64 0), 1, 8) := by kernel_rfl
def cO (xs : List Nat) : Array Value := (xs.map fun x => Value.int .u64 ((x : Nat) : Int)).toArray
theorem sO (xs : List Nat) : (cO xs).size = xs.length := by simp [cO]
theorem FI (xs : List Nat) (i : Nat) (h : i < xs.length) : (cO xs)[i]? = some (.int .u64 ((xs.getD i 0 : Nat) : Int)) := by
 simp [cO, List.getD_eq_getElem?_getD, h]
theorem FM (xs : List Nat) (i y : Nat) : (cO xs).setIfInBounds i (.int .u64 ((y : Nat) : Int)) = cO (xs.set i y) := by
 apply Array.ext'
 simp [cO, List.map_set]
def Row (w : World) (g : Nat) (xs : List Nat) : Prop := w.heap[g]? = some (.cells (cO xs) 22 (0, 0))
theorem Row.lt {w : World} {g : Nat} {xs : List Nat} (h : Row w g xs) : g < w.heap.size := (Array.getElem?_eq_some_iff.1 h).1
theorem Row.cell {w : World} {g : Nat} {xs : List Nat} (h : Row w g xs) {i : Nat} (hi : i < xs.length) : w.cell? ⟨g, i, none⟩ = some (.int .u64 ((xs.getD i 0 : Nat) : Int)) := by
 unfold Row at h
 simp only [World.cell?, h]
 simpa using FI xs i hi
theorem Row.frozen {w : World} {g : Nat} {xs : List Nat} (h : Row w g xs) (i : Nat) : w.frozen? ⟨g, i, none⟩ = false := by
 unfold Row at h
 simp [World.frozen?, h]
theorem Row.nw {w : World} {g : Nat} {xs : List Nat} (h : Row w g xs) {B : Nat} (hB : g < B) : Nw w B (some ⟨g, 0, none⟩) xs := fun _ => ⟨g, 0, rfl, hB, fun j hj => by rw [Nat.zero_add]; exact h.cell hj⟩
theorem Row.below {w w' : World} {B g : Nat} {xs : List Nat} (h : Row w g xs) (hb : Below B w w') (hg : g < B) : Row w' g xs := (hb.block g hg).trans h
theorem Row.set {w : World} {g : Nat} {xs : List Nat} (h : Row w g xs) (i y : Nat) : w.setCell ⟨g, i, none⟩ (.int .u64 ((y : Nat) : Int)) = setB w g (.cells (cO (xs.set i y)) 22 (0, 0)) := by
 rw [Au h, FM]
theorem Row.new (w : World) (xs : List Nat) : Row (w.alloc (.cells (cO xs) 22)) w.heap.size xs := heap_alloc_new w _
theorem Row.setB {w : World} {g : Nat} {xs ys : List Nat} (h : Row w g xs) : Row (setB w g (.cells (cO ys) 22 (0, 0))) g ys := KP h.lt
theorem oJ (n : Nat) (hn : n ≤ 10000000000000) (w : World) :
  (Instr.makeSlice 73 (.int .i64 (n : Int)) (.int .i64 (n : Int))).run Tryz.prog w = .ok (.slice (some ⟨w.heap.size, 0, none⟩) n n) (w.alloc (.cells (cO (List.replicate n 0)) 22)) := by
 obtain ⟨i0, hi0, hz0, hz1, hz2⟩ := info_parts Ho
 have h := run_make (P := Tryz.prog) w 73 22 i0 _ Tryz.underlying73 hi0 hz0 .i64 .i64 (n : Int) (n : Int) (by omega) (by omega) (by rw [hz2]; omega) (by omega)
 have e : madeCells (Value.int .u64 0).cells (n * 1) = cO (List.replicate n 0) := by
  apply Array.ext
  ·simp [madeCells, cO]
  ·intro i h1 h2
   simp [madeCells, cO, Value.cells, Nat.mod_one]
 rw [h, hz1, Int.toNat_natCast, e]
theorem mg {w : World} {ops : Array Oper} {rest : List Oper} {o : Oper} {a : Act} {Q : Exit → Act → World → Prop} (hgd : o.guard = none) (d s : Operand)
  (ho : o.op = .call { callee := .builtin .copy, args := #[d, s], argTypes := #[73, 73] })
  (g dLen dCap : Nat) (A : Option Addr) (c : Nat) (xs zs : List Nat) (hd : a.eval d = .slice (some ⟨g, 0, none⟩) dLen dCap) (hs : a.eval s = .slice A xs.length c)
  (hrow : Row w g zs) (hz : zs.length = dLen) (hle : xs.length ≤ dLen) (B : Nat) (hA : Nw w B A xs)
  (h : ∀ w', Row w' g (xs ++ zs.drop xs.length) → Below g w w' → wpList Tryz.prog ops Q rest (a.put o.dst (.int .i64 xs.length)) w') : wpList Tryz.prog ops Q (o :: rest) a w := by
 have hzs : (cO zs) = (zs.map fun x => Value.int .u64 ((x : Nat) : Int)).toArray := rfl
 have hlen : (xs.map fun x => Value.int .u64 ((x : Nat) : Int)).length = xs.length := by simp
 refine wpList_copy_splice hgd d s 73 73 ho 22 Tryz.underlying73 (by kernel_rfl) (some ⟨g, 0, none⟩) A dLen dCap xs.length c hd hs g 0
  (zs.map fun x => Value.int .u64 ((x : Nat) : Int)) 22 hrow (xs.map fun x => Value.int .u64 ((x : Nat) : Int)) (by rw [hlen]; exact (Nat.min_eq_left hle).symm) ?_ (by simp; omega) ?_ g w (Below.refl _ _) (Nat.le_refl _) ?_
 ·intro hp
  rw [hlen] at hp
  refine ⟨rfl, ?_⟩
  obtain ⟨b, o', rfl, _, hc⟩ := hA hp
  refine ⟨_, rfl, fun j v hv => ?_⟩
  have hj : j < xs.length := by
   have := (List.getElem?_eq_some_iff.1 hv).1
   simpa using this
  have := hc j hj
  simp only [List.getElem?_map, List.getElem?_eq_getElem hj, Option.map_some, Option.some.injEq] at hv
  subst hv
  rw [List.getD_eq_getElem?_getD, List.getElem?_eq_getElem hj] at this
  unfold Addr.add
  split
  ·rename_i h0; subst h0; simpa using this
  ·simpa using this
 ·intro v hv
  obtain ⟨x, _, rfl⟩ := List.mem_map.1 hv
  rfl
 ·intro w' hw' hb
  rw [hlen]
  refine h w' ?_ hb
  have := hw'.out
  unfold Row cO
  rw [this]
  simp [splice, List.map_drop]
theorem Row.sl {w : World} {g : Nat} {xs : List Nat} (h : Row w g xs) (hw : Wd xs) {c : Nat} (hc : xs.length ≤ c) (hs : c ≤ 1000000000000) : Sl w (some ⟨g, 0, none⟩) c xs :=
 ⟨h.nw h.lt, hw, hc, by omega⟩
structure ku (B : Nat) (w : World) (A : Option Addr) (c : Nat) (v : Nat) : Prop where
 sl : Sl w A c (toW v)
 row : (A = none ∧ c = 0 ∧ toW v = []) ∨ ∃ g zs, A = some ⟨g, 0, none⟩ ∧ B ≤ g ∧ Row w g zs ∧ zs.length = c ∧ Wd zs ∧ zs.take (toW v).length = toW v ∧ c ≤ 1000000000000
theorem ku.oh {B : Nat} {w : World} {g : Nat} {zs : List Nat} {v c : Nat} (h : Row w g zs) (hw : Wd zs) (hg : B ≤ g) (hv : val zs = v) (hc : zs.length = c) (hs : c ≤ 1000000000000) : ku B w (some ⟨g, 0, none⟩) c v := by
 subst hv
 exact ⟨(h.sl hw (Nat.le_of_eq hc) hs).trim, .inr ⟨g, zs, rfl, hg, h, hc, hw, (qI hw).symm, hs⟩⟩
theorem ku.zero {B : Nat} {w : World} {v : Nat} (h : toW v = []) : ku B w none 0 v := ⟨by rw [h]; exact Sl.nil, .inl ⟨rfl, rfl, h⟩⟩
theorem ku.below {B : Nat} {w w' : World} {A : Option Addr} {c v : Nat} (h : ku B w A c v) (hb : Below w.heap.size w w') : ku B w' A c v := by
 refine ⟨h.sl.below hb, ?_⟩
 rcases h.row with h1 | ⟨g, zs, h1, h2, h3, h4⟩
 ·exact .inl h1
 ·exact .inr ⟨g, zs, h1, h2, h3.below hb h3.lt, h4⟩
theorem ku.drewN {B : Nat} {w : World} {A : Option Addr} {c v : Nat} (h : ku B w A c v) (n : Nat) : ku B (w.drewN n) A c v := ⟨h.sl.drewN n, h.row⟩
theorem ku.alloc {B : Nat} {w : World} {A : Option Addr} {c v : Nat} (h : ku B w A c v) (o : Obj) : ku B (w.alloc o) A c v := h.below ((Below.refl _ _).alloc (Nat.le_refl _) _)
theorem ku.lower {B B' : Nat} {w : World} {A : Option Addr} {c v : Nat} (h : ku B w A c v) (hB : B' ≤ B) : ku B' w A c v :=
 ⟨h.sl, h.row.imp_right fun ⟨g, zs, h1, h2, h3⟩ => ⟨g, zs, h1, Nat.le_trans hB h2, h3⟩⟩
def lK (w : World) (v : Nat) (e : Ending) (w' : World) : Prop := ∃ A c, e = .returned (.slice A (toW v).length c) ∧ ku w.heap.size w' A c v ∧ Below w.heap.size w w'
set_option maxRecDepth 10000 in
set_option maxHeartbeats 1000000 in
theorem jd (w : World) (A : Option Addr) (c : Nat) (xs : List Nat) (h : Sl w A c xs) :
  Calls Tryz.prog 172 #[.slice A xs.length c] w fun e w' => ∃ g, e = .returned (.slice (some ⟨g, 0, none⟩) (toW (val xs)).length (toW (val xs)).length) ∧ w.heap.size ≤ g ∧ Row w' g (toW (val xs)) ∧ Below w.heap.size w w' := by
 have hna := eu h.wd
 have hc := h.cap
 have hl := h.small
 have hmk := oJ (toW (val xs)).length (by omega)
 have hr0 := Row.new w (List.replicate (toW (val xs)).length 0)
 have ha1 : Nw (w.alloc (.cells (cO (List.replicate (toW (val xs)).length 0)) 22)) w.heap.size A (toW (val xs)) := h.trim.nw.below ((Below.refl _ _).alloc (Nat.le_refl _) _)
 go_enter Tryz.func172, Tryz.ntmps172
 go_wp2_with (first
  | (go_at_call 112; refine (cZ _ _ _ _ (by assumption)).mono ?_; rintro e w' ⟨rfl, rfl⟩)
  | (refine mg rfl (.tmp 9) (.tmp 10) rfl _ _ _ _ _ _ _ rfl rfl hr0 (by simp) (by omega) _ ha1 ?_; intro w1 hr1 hb1))
 go_ret
 exact ⟨w.heap.size, rfl, Nat.le_refl _, by simpa using hr1, ((Below.refl _ _).alloc (Nat.le_refl _) _).trans hb1⟩
end Go.Proofs.YtafikkmnkeddpaaGreatDoor
namespace Go.Proofs
open Go.Shelf
def Tryz.lays159_ren : Go.Shelf.Ren := ⟨fun | 159 => 128 | 165 => 175 | 166 => 176 | 167 => 204 | 169 => 178 | 230 => 205 | 204 => 206 | 240 => 223 | 241 => 224 | 197 => 208 | 118 => 242 | 168 => 243 | 270 => 244 | 262 => 245 | 276 => 255 | 277 => 256 | 260 => 246 | 242 => 266 | 313 => 267 | 278 => 276 | 274 => 277 | 275 => 278 | n => n, fun | 9 => 9 | 4 => 4 | 3 => 3 | 5 => 5 | 72 => 221 | 0 => 0 | 76 => 225 | 75 => 224 | 107 => 247 | 70 => 219 | 20 => 20 | 37 => 64 | 127 => 259 | 21 => 21 | 105 => 248 | 164 => 275 | 162 => 290 | 203 => 288 | 119 => 291 | 46 => 61 | 139 => 294 | 138 => 293 | 51 => 154 | 160 => 300 | 208 => 307 | 206 => 305 | 80 => 122 | n => n, fun | 13 => 7 | 3 => 8 | 4 => 9 | n => n⟩
theorem Tryz.lays159 : Go.Proofs.Lays.n159 Tryz.prog Tryz.lays159_ren := {
 mixed := by kernel_rfl
 f118 := Tryz.func242.trans (congrArg some (by kernel_rfl))
 f159 := Tryz.func128.trans (congrArg some (by kernel_rfl))
 f165 := Tryz.func175.trans (congrArg some (by kernel_rfl))
 f166 := Tryz.func176.trans (congrArg some (by kernel_rfl))
 f167 := Tryz.func204.trans (congrArg some (by kernel_rfl))
 f168 := Tryz.func243.trans (congrArg some (by kernel_rfl))
 f169 := Tryz.func178.trans (congrArg some (by kernel_rfl))
 f197 := Tryz.func208.trans (congrArg some (by kernel_rfl))
 f204 := Tryz.func206.trans (congrArg some (by kernel_rfl))
 f230 := Tryz.func205.trans (congrArg some (by kernel_rfl))
 f240 := Tryz.func223.trans (congrArg some (by kernel_rfl))
 f241 := Tryz.func224.trans (congrArg some (by kernel_rfl))
 f242 := Tryz.func266.trans (congrArg some (by kernel_rfl))
 f260 := Tryz.func246.trans (congrArg some (by kernel_rfl))
 f262 := Tryz.func245.trans (congrArg some (by kernel_rfl))
 f270 := Tryz.func244.trans (congrArg some (by kernel_rfl))
 f274 := Tryz.func277.trans (congrArg some (by kernel_rfl))
 f275 := Tryz.func278.trans (congrArg some (by kernel_rfl))
 f276 := Tryz.func255.trans (congrArg some (by kernel_rfl))
 f277 := Tryz.func256.trans (congrArg some (by kernel_rfl))
 f278 := Tryz.func276.trans (congrArg some (by kernel_rfl))
 f313 := Tryz.func267.trans (congrArg some (by kernel_rfl))
 t0 := Tryz.underlying0
 a0 := Tryz.isAgg0
 z0 := Tryz.sizeOf0
 v0 := Tryz.zeroValue0
 t3 := Tryz.underlying3
 a3 := Tryz.isAgg3
 z3 := Tryz.sizeOf3
 v3 := Tryz.zeroValue3
 t4 := Tryz.underlying4
 a4 := Tryz.isAgg4
 z4 := Tryz.sizeOf4
 v4 := Tryz.zeroValue4
 t5 := Tryz.underlying5
 a5 := Tryz.isAgg5
 z5 := Tryz.sizeOf5
 v5 := Tryz.zeroValue5
 t9 := Tryz.underlying9
 a9 := Tryz.isAgg9
 z9 := Tryz.sizeOf9
 v9 := Tryz.zeroValue9
 t20 := Tryz.underlying20
 a20 := Tryz.isAgg20
 z20 := Tryz.sizeOf20
 v20 := Tryz.zeroValue20
 t21 := Tryz.underlying21
 a21 := Tryz.isAgg21
 z21 := Tryz.sizeOf21
 v21 := Tryz.zeroValue21
 t37 := Tryz.underlying64
 a37 := Tryz.isAgg64
 z37 := Tryz.sizeOf64
 v37 := Tryz.zeroValue64
 t46 := Tryz.underlying61
 a46 := Tryz.isAgg61
 z46 := Tryz.sizeOf61
 v46 := Tryz.zeroValue61
 t51 := Tryz.underlying154
 a51 := Tryz.isAgg154
 z51 := Tryz.sizeOf154
 v51 := Tryz.zeroValue154
 t70 := Tryz.underlying219
 a70 := Tryz.isAgg219
 z70 := Tryz.sizeOf219
 v70 := Tryz.zeroValue219
 t72 := Tryz.underlying221
 a72 := Tryz.isAgg221
 z72 := Tryz.sizeOf221
 v72 := Tryz.zeroValue221
 t75 := Tryz.underlying224
 a75 := Tryz.isAgg224
 z75 := Tryz.sizeOf224
 v75 := Tryz.zeroValue224
 t76 := Tryz.underlying225
 a76 := Tryz.isAgg225
 z76 := Tryz.sizeOf225
 v76 := Tryz.zeroValue225
 t105 := Tryz.underlying248
 a105 := Tryz.isAgg248
 z105 := Tryz.sizeOf248
 v105 := Tryz.zeroValue248
 t107 := Tryz.underlying247
 a107 := Tryz.isAgg247
 z107 := Tryz.sizeOf247
 v107 := Tryz.zeroValue247
 t119 := Tryz.underlying291
 a119 := Tryz.isAgg291
 z119 := Tryz.sizeOf291
 t127 := Tryz.underlying259
 a127 := Tryz.isAgg259
 z127 := Tryz.sizeOf259
 v127 := Tryz.zeroValue259
 t138 := Tryz.underlying293
 a138 := Tryz.isAgg293
 z138 := Tryz.sizeOf293
 v138 := Tryz.zeroValue293
 t139 := Tryz.underlying294
 a139 := Tryz.isAgg294
 z139 := Tryz.sizeOf294
 v139 := Tryz.zeroValue294
 t160 := Tryz.underlying300
 a160 := Tryz.isAgg300
 z160 := Tryz.sizeOf300
 v160 := Tryz.zeroValue300
 t162 := Tryz.underlying290
 a162 := Tryz.isAgg290
 z162 := Tryz.sizeOf290
 v162 := Tryz.zeroValue290
 t164 := Tryz.underlying275
 a164 := Tryz.isAgg275
 z164 := Tryz.sizeOf275
 v164 := Tryz.zeroValue275
 t203 := Tryz.underlying288
 a203 := Tryz.isAgg288
 z203 := Tryz.sizeOf288
 v203 := Tryz.zeroValue288
 t206 := Tryz.underlying305
 a206 := Tryz.isAgg305
 z206 := Tryz.sizeOf305
 v206 := Tryz.zeroValue305
 t208 := Tryz.underlying307
 a208 := Tryz.isAgg307
 z208 := Tryz.sizeOf307
 v208 := Tryz.zeroValue307
 g3 := by kernel_rfl
 g4 := by kernel_rfl
 g13 := by kernel_rfl }
theorem Tryz.Builder_Extra_159 : Builder.Extra Tryz.prog Tryz.lays159_ren := {
 sizeBuilder := by kernel_rfl
 liesBuilder := by kernel_rfl
 t5 := Tryz.underlying5
 a5 := Tryz.isAgg5
 z5 := Tryz.sizeOf5
 v5 := Tryz.zeroValue5
 infoByte := by kernel_rfl
 cellsByte := by kernel_rfl
 sizeByte := by kernel_rfl
 neB5 := by decide }
def Tryz.lays161_ren : Go.Shelf.Ren := ⟨fun | 161 => 55 | 231 => 131 | 227 => 132 | 233 => 133 | 235 => 134 | 228 => 207 | 197 => 208 | 151 => 209 | 260 => 246 | 152 => 247 | 137 => 268 | 119 => 269 | 224 => 270 | 225 => 271 | 217 => 279 | 266 => 280 | n => n, fun | 9 => 9 | 4 => 4 | 3 => 3 | 5 => 5 | 117 => 188 | 116 => 187 | 0 => 0 | 124 => 191 | 105 => 248 | 21 => 21 | 119 => 291 | 46 => 61 | 139 => 294 | 138 => 293 | n => n, fun | 3 => 8 | 4 => 9 | n => n⟩
theorem Tryz.lays161 : Go.Proofs.Lays.n161 Tryz.prog Tryz.lays161_ren := {
 mixed := by kernel_rfl
 f119 := Tryz.func269.trans (congrArg some (by kernel_rfl))
 f137 := Tryz.func268.trans (congrArg some (by kernel_rfl))
 f151 := Tryz.func209.trans (congrArg some (by kernel_rfl))
 f152 := Tryz.func247.trans (congrArg some (by kernel_rfl))
 f161 := Tryz.func55.trans (congrArg some (by kernel_rfl))
 f197 := Tryz.func208.trans (congrArg some (by kernel_rfl))
 f217 := Tryz.func279.trans (congrArg some (by kernel_rfl))
 f224 := Tryz.func270.trans (congrArg some (by kernel_rfl))
 f225 := Tryz.func271.trans (congrArg some (by kernel_rfl))
 f227 := Tryz.func132.trans (congrArg some (by kernel_rfl))
 f228 := Tryz.func207.trans (congrArg some (by kernel_rfl))
 f231 := Tryz.func131.trans (congrArg some (by kernel_rfl))
 f233 := Tryz.func133.trans (congrArg some (by kernel_rfl))
 f235 := Tryz.func134.trans (congrArg some (by kernel_rfl))
 f260 := Tryz.func246.trans (congrArg some (by kernel_rfl))
 f266 := Tryz.func280.trans (congrArg some (by kernel_rfl))
 t0 := Tryz.underlying0
 a0 := Tryz.isAgg0
 z0 := Tryz.sizeOf0
 v0 := Tryz.zeroValue0
 t3 := Tryz.underlying3
 a3 := Tryz.isAgg3
 z3 := Tryz.sizeOf3
 v3 := Tryz.zeroValue3
 t4 := Tryz.underlying4
 a4 := Tryz.isAgg4
 z4 := Tryz.sizeOf4
 v4 := Tryz.zeroValue4
 t5 := Tryz.underlying5
 a5 := Tryz.isAgg5
 z5 := Tryz.sizeOf5
 v5 := Tryz.zeroValue5
 t9 := Tryz.underlying9
 a9 := Tryz.isAgg9
 z9 := Tryz.sizeOf9
 v9 := Tryz.zeroValue9
 t21 := Tryz.underlying21
 a21 := Tryz.isAgg21
 z21 := Tryz.sizeOf21
 v21 := Tryz.zeroValue21
 t46 := Tryz.underlying61
 a46 := Tryz.isAgg61
 z46 := Tryz.sizeOf61
 v46 := Tryz.zeroValue61
 t105 := Tryz.underlying248
 a105 := Tryz.isAgg248
 z105 := Tryz.sizeOf248
 v105 := Tryz.zeroValue248
 t116 := Tryz.underlying187
 a116 := Tryz.isAgg187
 z116 := Tryz.sizeOf187
 t117 := Tryz.underlying188
 a117 := Tryz.isAgg188
 z117 := Tryz.sizeOf188
 v117 := Tryz.zeroValue188
 t119 := Tryz.underlying291
 a119 := Tryz.isAgg291
 z119 := Tryz.sizeOf291
 t124 := Tryz.underlying191
 a124 := Tryz.isAgg191
 z124 := Tryz.sizeOf191
 v124 := Tryz.zeroValue191
 t138 := Tryz.underlying293
 a138 := Tryz.isAgg293
 z138 := Tryz.sizeOf293
 v138 := Tryz.zeroValue293
 t139 := Tryz.underlying294
 a139 := Tryz.isAgg294
 z139 := Tryz.sizeOf294
 v139 := Tryz.zeroValue294
 g3 := by kernel_rfl
 g4 := by kernel_rfl }
open Go.RowKit in
theorem Tryz.strings_TrimLeft_one (s : ByteArray) (c : UInt8) (hc : c.toNat < 128) (w : World) :
  Calls Tryz.prog 55 #[.string s, .string ⟨#[c]⟩] w fun e w' => e = .returned (.string ⟨(Lib.trimLeftB s.data.toList c).toArray⟩) ∧ w' = w := Any.strings_TrimLeft_one Tryz.lays161 s c hc w
def Tryz.lays162_ren : Go.Shelf.Ren := ⟨fun | 162 => 93 | 232 => 179 | 227 => 132 | 234 => 180 | 236 => 181 | 228 => 207 | 271 => 225 | 151 => 209 | 120 => 257 | 197 => 208 | 152 => 247 | 260 => 246 | 137 => 268 | 119 => 269 | 224 => 270 | 225 => 271 | 217 => 279 | 266 => 280 | n => n, fun | 9 => 9 | 4 => 4 | 3 => 3 | 5 => 5 | 117 => 188 | 116 => 187 | 0 => 0 | 124 => 191 | 21 => 21 | 105 => 248 | 46 => 61 | 119 => 291 | 139 => 294 | 138 => 293 | n => n, fun | 3 => 8 | 4 => 9 | n => n⟩
theorem Tryz.lays162 : Go.Proofs.Lays.n162 Tryz.prog Tryz.lays162_ren := {
 mixed := by kernel_rfl
 f119 := Tryz.func269.trans (congrArg some (by kernel_rfl))
 f120 := Tryz.func257.trans (congrArg some (by kernel_rfl))
 f137 := Tryz.func268.trans (congrArg some (by kernel_rfl))
 f151 := Tryz.func209.trans (congrArg some (by kernel_rfl))
 f152 := Tryz.func247.trans (congrArg some (by kernel_rfl))
 f162 := Tryz.func93.trans (congrArg some (by kernel_rfl))
 f197 := Tryz.func208.trans (congrArg some (by kernel_rfl))
 f217 := Tryz.func279.trans (congrArg some (by kernel_rfl))
 f224 := Tryz.func270.trans (congrArg some (by kernel_rfl))
 f225 := Tryz.func271.trans (congrArg some (by kernel_rfl))
 f227 := Tryz.func132.trans (congrArg some (by kernel_rfl))
 f228 := Tryz.func207.trans (congrArg some (by kernel_rfl))
 f232 := Tryz.func179.trans (congrArg some (by kernel_rfl))
 f234 := Tryz.func180.trans (congrArg some (by kernel_rfl))
 f236 := Tryz.func181.trans (congrArg some (by kernel_rfl))
 f260 := Tryz.func246.trans (congrArg some (by kernel_rfl))
 f266 := Tryz.func280.trans (congrArg some (by kernel_rfl))
 f271 := Tryz.func225.trans (congrArg some (by kernel_rfl))
 t0 := Tryz.underlying0
 a0 := Tryz.isAgg0
 z0 := Tryz.sizeOf0
 v0 := Tryz.zeroValue0
 t3 := Tryz.underlying3
 a3 := Tryz.isAgg3
 z3 := Tryz.sizeOf3
 v3 := Tryz.zeroValue3
 t4 := Tryz.underlying4
 a4 := Tryz.isAgg4
 z4 := Tryz.sizeOf4
 v4 := Tryz.zeroValue4
 t5 := Tryz.underlying5
 a5 := Tryz.isAgg5
 z5 := Tryz.sizeOf5
 v5 := Tryz.zeroValue5
 t9 := Tryz.underlying9
 a9 := Tryz.isAgg9
 z9 := Tryz.sizeOf9
 v9 := Tryz.zeroValue9
 t21 := Tryz.underlying21
 a21 := Tryz.isAgg21
 z21 := Tryz.sizeOf21
 v21 := Tryz.zeroValue21
 t46 := Tryz.underlying61
 a46 := Tryz.isAgg61
 z46 := Tryz.sizeOf61
 v46 := Tryz.zeroValue61
 t105 := Tryz.underlying248
 a105 := Tryz.isAgg248
 z105 := Tryz.sizeOf248
 v105 := Tryz.zeroValue248
 t116 := Tryz.underlying187
 a116 := Tryz.isAgg187
 z116 := Tryz.sizeOf187
 t117 := Tryz.underlying188
 a117 := Tryz.isAgg188
 z117 := Tryz.sizeOf188
 v117 := Tryz.zeroValue188
 t119 := Tryz.underlying291
 a119 := Tryz.isAgg291
 z119 := Tryz.sizeOf291
 t124 := Tryz.underlying191
 a124 := Tryz.isAgg191
 z124 := Tryz.sizeOf191
 v124 := Tryz.zeroValue191
 t138 := Tryz.underlying293
 a138 := Tryz.isAgg293
 z138 := Tryz.sizeOf293
 v138 := Tryz.zeroValue293
 t139 := Tryz.underlying294
 a139 := Tryz.isAgg294
 z139 := Tryz.sizeOf294
 v139 := Tryz.zeroValue294
 g3 := by kernel_rfl
 g4 := by kernel_rfl }
open Go.RowKit in
theorem Tryz.strings_TrimRight_one (s : ByteArray) (c : UInt8) (hc : c.toNat < 128) (w : World) (hs : s.size ≤ 9223372036854775807) :
  Calls Tryz.prog 93 #[.string s, .string ⟨#[c]⟩] w fun e w' => e = .returned (.string ⟨(Lib.trimRightB s.data.toList c).toArray⟩) ∧ w' = w := Any.strings_TrimRight_one Tryz.lays162 s c hc w hs
def Tryz.lays134_ren : Go.Shelf.Ren := ⟨fun | 134 => 227 | 129 => 226 | n => n, fun | 53 => 22 | 3 => 3 | 4 => 4 | 46 => 61 | 5 => 5 | 9 => 9 | n => n, fun | n => n⟩
theorem Tryz.lays134 : Go.Proofs.Lays.n134 Tryz.prog Tryz.lays134_ren := {
 mixed := by kernel_rfl
 f129 := Tryz.func226.trans (congrArg some (by kernel_rfl))
 f134 := Tryz.func227.trans (congrArg some (by kernel_rfl))
 t3 := Tryz.underlying3
 a3 := Tryz.isAgg3
 z3 := Tryz.sizeOf3
 v3 := Tryz.zeroValue3
 t4 := Tryz.underlying4
 a4 := Tryz.isAgg4
 z4 := Tryz.sizeOf4
 v4 := Tryz.zeroValue4
 t5 := Tryz.underlying5
 a5 := Tryz.isAgg5
 z5 := Tryz.sizeOf5
 v5 := Tryz.zeroValue5
 t9 := Tryz.underlying9
 a9 := Tryz.isAgg9
 z9 := Tryz.sizeOf9
 v9 := Tryz.zeroValue9
 t46 := Tryz.underlying61
 a46 := Tryz.isAgg61
 z46 := Tryz.sizeOf61
 v46 := Tryz.zeroValue61
 t53 := Tryz.underlying22
 a53 := Tryz.isAgg22
 z53 := Tryz.sizeOf22
 v53 := Tryz.zeroValue22 }
theorem Tryz.bits_LeadingZeros64 (x : Int) (w : World) (h0 : 0 ≤ x) (h1 : x ≤ 18446744073709551615) :
  Calls Tryz.prog 227 #[.int .u64 x] w fun e w' => e = .returned (.int .i64 (64 - (Lib.bitLen x.toNat : Int))) ∧ w' = w := Any.bits_LeadingZeros64 Tryz.lays134 x w h0 h1
def Tryz.lays129_ren : Go.Shelf.Ren := ⟨fun | 129 => 226 | n => n, fun | 53 => 22 | 3 => 3 | 4 => 4 | 46 => 61 | 5 => 5 | 9 => 9 | n => n, fun | n => n⟩
theorem Tryz.lays129 : Go.Proofs.Lays.n129 Tryz.prog Tryz.lays129_ren := {
 mixed := by kernel_rfl
 f129 := Tryz.func226.trans (congrArg some (by kernel_rfl))
 t3 := Tryz.underlying3
 a3 := Tryz.isAgg3
 z3 := Tryz.sizeOf3
 v3 := Tryz.zeroValue3
 t4 := Tryz.underlying4
 a4 := Tryz.isAgg4
 z4 := Tryz.sizeOf4
 v4 := Tryz.zeroValue4
 t5 := Tryz.underlying5
 a5 := Tryz.isAgg5
 z5 := Tryz.sizeOf5
 v5 := Tryz.zeroValue5
 t9 := Tryz.underlying9
 a9 := Tryz.isAgg9
 z9 := Tryz.sizeOf9
 v9 := Tryz.zeroValue9
 t46 := Tryz.underlying61
 a46 := Tryz.isAgg61
 z46 := Tryz.sizeOf61
 v46 := Tryz.zeroValue61
 t53 := Tryz.underlying22
 a53 := Tryz.isAgg22
 z53 := Tryz.sizeOf22
 v53 := Tryz.zeroValue22 }
theorem Tryz.bits_Len64 (x : Int) (w : World) (h0 : 0 ≤ x) (h1 : x ≤ 18446744073709551615) :
  Calls Tryz.prog 226 #[.int .u64 x] w fun e w' => e = .returned (.int .i64 (Lib.bitLen x.toNat)) ∧ w' = w := Any.bits_Len64 Tryz.lays129 x w h0 h1
def Tryz.laysM171_ren : Go.Shelf.Ren := ⟨fun | 171 => 120 | 243 => 198 | 246 => 240 | 283 => 236 | 284 => 237 | 285 => 238 | 286 => 239 | 129 => 226 | 317 => 261 | 318 => 262 | 319 => 263 | 320 => 264 | 337 => 275 | 338 => 189 | n => n, fun | 3 => 3 | 9 => 9 | 2 => 2 | 4 => 4 | 171 => 266 | 0 => 0 | 53 => 22 | 37 => 64 | 5 => 5 | 173 => 268 | 212 => 282 | 51 => 154 | 20 => 20 | 213 => 283 | 46 => 61 | 232 => 303 | 233 => 261 | n => n, fun | 17 => 6 | 18 => 11 | 19 => 3 | n => n⟩
theorem Tryz.laysM171 : Go.Proofs.LaysM.n171 Tryz.prog Tryz.laysM171_ren := {
 mixed := by kernel_rfl
 f129 := Tryz.func226.trans (congrArg some (by kernel_rfl))
 f171 := Tryz.func120.trans (congrArg some (by kernel_rfl))
 f243 := Tryz.func198.trans (congrArg some (by kernel_rfl))
 f246 := Tryz.func240.trans (congrArg some (by kernel_rfl))
 f283 := Tryz.func236.trans (congrArg some (by kernel_rfl))
 f284 := Tryz.func237.trans (congrArg some (by kernel_rfl))
 f285 := Tryz.func238.trans (congrArg some (by kernel_rfl))
 f286 := Tryz.func239.trans (congrArg some (by kernel_rfl))
 f317 := Tryz.func261.trans (congrArg some (by kernel_rfl))
 f318 := Tryz.func262.trans (congrArg some (by kernel_rfl))
 f319 := Tryz.func263.trans (congrArg some (by kernel_rfl))
 f320 := Tryz.func264.trans (congrArg some (by kernel_rfl))
 f337 := Tryz.func275.trans (congrArg some (by kernel_rfl))
 f338 := Tryz.func189.trans (congrArg some (by kernel_rfl))
 t0 := Tryz.underlying0
 a0 := Tryz.isAgg0
 z0 := Tryz.sizeOf0
 v0 := Tryz.zeroValue0
 t2 := Tryz.underlying2
 a2 := Tryz.isAgg2
 z2 := Tryz.sizeOf2
 v2 := Tryz.zeroValue2
 t3 := Tryz.underlying3
 a3 := Tryz.isAgg3
 z3 := Tryz.sizeOf3
 v3 := Tryz.zeroValue3
 t4 := Tryz.underlying4
 a4 := Tryz.isAgg4
 z4 := Tryz.sizeOf4
 v4 := Tryz.zeroValue4
 t5 := Tryz.underlying5
 a5 := Tryz.isAgg5
 z5 := Tryz.sizeOf5
 v5 := Tryz.zeroValue5
 t9 := Tryz.underlying9
 a9 := Tryz.isAgg9
 z9 := Tryz.sizeOf9
 v9 := Tryz.zeroValue9
 t20 := Tryz.underlying20
 a20 := Tryz.isAgg20
 z20 := Tryz.sizeOf20
 v20 := Tryz.zeroValue20
 t37 := Tryz.underlying64
 a37 := Tryz.isAgg64
 z37 := Tryz.sizeOf64
 v37 := Tryz.zeroValue64
 t46 := Tryz.underlying61
 a46 := Tryz.isAgg61
 z46 := Tryz.sizeOf61
 v46 := Tryz.zeroValue61
 t51 := Tryz.underlying154
 a51 := Tryz.isAgg154
 z51 := Tryz.sizeOf154
 v51 := Tryz.zeroValue154
 t53 := Tryz.underlying22
 a53 := Tryz.isAgg22
 z53 := Tryz.sizeOf22
 v53 := Tryz.zeroValue22
 t171 := Tryz.underlying266
 a171 := Tryz.isAgg266
 z171 := Tryz.sizeOf266
 v171 := Tryz.zeroValue266
 t173 := Tryz.underlying268
 a173 := Tryz.isAgg268
 z173 := Tryz.sizeOf268
 v173 := Tryz.zeroValue268
 t212 := Tryz.underlying282
 a212 := Tryz.isAgg282
 z212 := Tryz.sizeOf282
 v212 := Tryz.zeroValue282
 t213 := Tryz.underlying283
 a213 := Tryz.isAgg283
 z213 := Tryz.sizeOf283
 t232 := Tryz.underlying303
 a232 := Tryz.isAgg303
 z232 := Tryz.sizeOf303
 v232 := Tryz.zeroValue303
 t233 := Tryz.underlying261
 a233 := Tryz.isAgg261
 z233 := Tryz.sizeOf261
 v233 := Tryz.zeroValue261
 g17 := by kernel_rfl
 g18 := by kernel_rfl
 g19 := by kernel_rfl
 i0 := by kernel_rfl
 i2 := by kernel_rfl
 i3 := by kernel_rfl
 i4 := by kernel_rfl
 i5 := by kernel_rfl
 i9 := by kernel_rfl
 i20 := by kernel_rfl
 i37 := by kernel_rfl
 i46 := by kernel_rfl
 i51 := by kernel_rfl
 i53 := by kernel_rfl
 i171 := by kernel_rfl
 i173 := by kernel_rfl
 i212 := by kernel_rfl
 i232 := by kernel_rfl
 i233 := by kernel_rfl
 m17 := by kernel_rfl
 m18 := by kernel_rfl
 m19 := by kernel_rfl }
open Go.RowKit Go.Sort Go.Lib in
theorem Tryz.strconv_Itoa (n : Int) (h0 : -9223372036854775808 ≤ n) (h1 : n ≤ 9223372036854775807) (w : World) (htab : Lib.TabIs Tryz.prog w "internal/strconv.uint64pow10" .u64 Lib.pow10Tab) :
  Calls Tryz.prog 120 #[.int .i64 n] w fun e w' => e = .returned (.string ⟨(Lib.itoa n).toArray⟩) ∧ ∃ k os, w' = grow (w.drewN k) os := Any.strconv_Itoa Tryz.laysM171 n h0 h1 w htab
def Tryz.lays264_ren : Go.Shelf.Ren := ⟨fun | 264 => 190 | n => n, fun | 53 => 22 | 46 => 61 | n => n, fun | n => n⟩
theorem Tryz.lays264 : Go.Proofs.Lays.n264 Tryz.prog Tryz.lays264_ren := {
 mixed := by kernel_rfl
 f264 := Tryz.func190.trans (congrArg some (by kernel_rfl))
 t46 := Tryz.underlying61
 a46 := Tryz.isAgg61
 z46 := Tryz.sizeOf61
 v46 := Tryz.zeroValue61
 t53 := Tryz.underlying22
 a53 := Tryz.isAgg22
 z53 := Tryz.sizeOf22
 v53 := Tryz.zeroValue22 }
open Go.RowKit Go.Lib in
theorem Tryz.bits_Mul64 (x y : Nat) (hx : x < 18446744073709551616) (hy : y < 18446744073709551616) (w : World) :
  Calls Tryz.prog 190 #[.int .u64 x, .int .u64 y] w fun e w' => e = .returned (.tuple #[.int .u64 ((x * y / 18446744073709551616 : Nat) : Int), .int .u64 ((x * y % 18446744073709551616 : Nat) : Int)]) ∧ w' = w := Any.bits_Mul64 Tryz.lays264 x y hx hy w
def Tryz.lays105_ren : Go.Shelf.Ren := ⟨fun | 105 => 92 | 212 => 174 | 99 => 121 | 165 => 175 | 166 => 176 | 170 => 177 | 169 => 178 | 263 => 222 | 264 => 190 | 206 => 199 | 240 => 223 | 241 => 224 | 276 => 255 | 277 => 256 | n => n, fun | 9 => 9 | 3 => 3 | 4 => 4 | 20 => 20 | 0 => 0 | 46 => 61 | 109 => 217 | 5 => 5 | 72 => 221 | 76 => 225 | 51 => 154 | 146 => 257 | 53 => 22 | 148 => 227 | 70 => 219 | 37 => 64 | 75 => 224 | 127 => 259 | 164 => 275 | 80 => 122 | n => n, fun | n => n⟩
theorem Tryz.lays105 : Go.Proofs.Lays.n105 Tryz.prog Tryz.lays105_ren := {
 mixed := by kernel_rfl
 f99 := Tryz.func121.trans (congrArg some (by kernel_rfl))
 f105 := Tryz.func92.trans (congrArg some (by kernel_rfl))
 f165 := Tryz.func175.trans (congrArg some (by kernel_rfl))
 f166 := Tryz.func176.trans (congrArg some (by kernel_rfl))
 f169 := Tryz.func178.trans (congrArg some (by kernel_rfl))
 f170 := Tryz.func177.trans (congrArg some (by kernel_rfl))
 f206 := Tryz.func199.trans (congrArg some (by kernel_rfl))
 f212 := Tryz.func174.trans (congrArg some (by kernel_rfl))
 f240 := Tryz.func223.trans (congrArg some (by kernel_rfl))
 f241 := Tryz.func224.trans (congrArg some (by kernel_rfl))
 f263 := Tryz.func222.trans (congrArg some (by kernel_rfl))
 f264 := Tryz.func190.trans (congrArg some (by kernel_rfl))
 f276 := Tryz.func255.trans (congrArg some (by kernel_rfl))
 f277 := Tryz.func256.trans (congrArg some (by kernel_rfl))
 t0 := Tryz.underlying0
 a0 := Tryz.isAgg0
 z0 := Tryz.sizeOf0
 v0 := Tryz.zeroValue0
 t3 := Tryz.underlying3
 a3 := Tryz.isAgg3
 z3 := Tryz.sizeOf3
 v3 := Tryz.zeroValue3
 t4 := Tryz.underlying4
 a4 := Tryz.isAgg4
 z4 := Tryz.sizeOf4
 v4 := Tryz.zeroValue4
 t5 := Tryz.underlying5
 a5 := Tryz.isAgg5
 z5 := Tryz.sizeOf5
 v5 := Tryz.zeroValue5
 t9 := Tryz.underlying9
 a9 := Tryz.isAgg9
 z9 := Tryz.sizeOf9
 v9 := Tryz.zeroValue9
 t20 := Tryz.underlying20
 a20 := Tryz.isAgg20
 z20 := Tryz.sizeOf20
 v20 := Tryz.zeroValue20
 t37 := Tryz.underlying64
 a37 := Tryz.isAgg64
 z37 := Tryz.sizeOf64
 v37 := Tryz.zeroValue64
 t46 := Tryz.underlying61
 a46 := Tryz.isAgg61
 z46 := Tryz.sizeOf61
 v46 := Tryz.zeroValue61
 t51 := Tryz.underlying154
 a51 := Tryz.isAgg154
 z51 := Tryz.sizeOf154
 v51 := Tryz.zeroValue154
 t53 := Tryz.underlying22
 a53 := Tryz.isAgg22
 z53 := Tryz.sizeOf22
 v53 := Tryz.zeroValue22
 t70 := Tryz.underlying219
 a70 := Tryz.isAgg219
 z70 := Tryz.sizeOf219
 v70 := Tryz.zeroValue219
 t72 := Tryz.underlying221
 a72 := Tryz.isAgg221
 z72 := Tryz.sizeOf221
 v72 := Tryz.zeroValue221
 t75 := Tryz.underlying224
 a75 := Tryz.isAgg224
 z75 := Tryz.sizeOf224
 v75 := Tryz.zeroValue224
 t76 := Tryz.underlying225
 a76 := Tryz.isAgg225
 z76 := Tryz.sizeOf225
 v76 := Tryz.zeroValue225
 t109 := Tryz.underlying217
 a109 := Tryz.isAgg217
 z109 := Tryz.sizeOf217
 v109 := Tryz.zeroValue217
 t127 := Tryz.underlying259
 a127 := Tryz.isAgg259
 z127 := Tryz.sizeOf259
 v127 := Tryz.zeroValue259
 t146 := Tryz.underlying257
 a146 := Tryz.isAgg257
 z146 := Tryz.sizeOf257
 v146 := Tryz.zeroValue257
 t148 := Tryz.underlying227
 a148 := Tryz.isAgg227
 z148 := Tryz.sizeOf227
 v148 := Tryz.zeroValue227
 t164 := Tryz.underlying275
 a164 := Tryz.isAgg275
 z164 := Tryz.sizeOf275
 v164 := Tryz.zeroValue275 }
theorem Tryz.Builder_Extra_105 : Builder.Extra Tryz.prog Tryz.lays105_ren := {
 sizeBuilder := by kernel_rfl
 liesBuilder := by kernel_rfl
 t5 := Tryz.underlying5
 a5 := Tryz.isAgg5
 z5 := Tryz.sizeOf5
 v5 := Tryz.zeroValue5
 infoByte := by kernel_rfl
 cellsByte := by kernel_rfl
 sizeByte := by kernel_rfl
 neB5 := by decide }
open Go.RowKit Go.Lib in
theorem Tryz.strings_Repeat (s : ByteArray) (c : Nat) (w : World) (hc : c ≤ 9223372036854775807) (hlen : s.size * c ≤ 140737488355328) :
  Calls Tryz.prog 92 #[.string s, .int .i64 c] w fun e w' => e = .returned (.string ⟨(Lib.repeatL s.data.toList c).toArray⟩) ∧ Below w.heap.size w w' := Any.strings_Repeat Tryz.lays105 Tryz.Builder_Extra_105 s c w hc hlen
open Go.RowKit Go.Lib in
theorem Tryz.strings_ToLower_any (s : ByteArray) (w : World) (hs : s.size < 35184372088832) (hV : CaseVar 7 caseA w) (hT : Lib.Utf8Tabs 8 9 w) :
  Calls Tryz.prog 128 #[.string s] w fun e w' => e = .returned (.string ⟨(Lib.toLowerD s.data.toList).toArray⟩) ∧ Below w.heap.size w w' := Any.strings_ToLower_any Tryz.lays159 Tryz.Builder_Extra_159 s w hs hV hT
end Go.Proofs
namespace Go.Proofs.YtafikkmnkeddpaaGreatDoor
open Go.RowKit
theorem Qz (x y c : Nat) (hc : c ≤ 1) (w : World) :
  (callFunc 185 #[.int .u64 (x : Int), .int .u64 (y : Int), .int .u64 (c : Int)]).run Tryz.prog w =
   .ok (.value (.tuple #[.int .u64 (((x + y + c) % 18446744073709551616 : Nat) : Int), .int .u64 (((x + y + c) / 18446744073709551616 : Nat) : Int)])) w := by
 rw [run_callFunc_extern (P := Tryz.prog) (fn := Tryz.f185) (by kernel_rfl) (by kernel_rfl) (by kernel_rfl) (by kernel_rfl) (e := add64Entry) (by kernel_rfl), run_add64 x y c (by omega) (by omega) (by omega) (by omega)]
 simp only [Result.andThen]
 have e1 : ((x : Int) + y + c) % 18446744073709551616 = (((x + y + c) % 18446744073709551616 : Nat) : Int) := by omega
 have e2 : ((x : Int) + y + c) / 18446744073709551616 = (((x + y + c) / 18446744073709551616 : Nat) : Int) := by omega
 rw [e1, e2]
def sub64Entry : Array Value → Sem Value := fun args => do
 let (x, y, b) ← Extern.MathBitsCarry.three "Sub64" args
 pure (Extern.MathBitsCarry.pair ((x + Extern.MathBitsCarry.m64 - y - b) % Extern.MathBitsCarry.m64) (if x < y + b then 1 else 0))
theorem run_sub64 {P : Program} (x y b : Nat) (hb : b ≤ 1) (w : World) :
  (sub64Entry #[.int .u64 x, .int .u64 y, .int .u64 b]).run P w =
   .ok (.tuple #[.int .u64 (((x + 18446744073709551616 - y - b) % 18446744073709551616 : Nat) : Int), .int .u64 ((if x < y + b then 1 else 0 : Nat) : Int)]) w := by
 have : b = 0 ∨ b = 1 := by omega
 rcases this with rfl | rfl <;> rfl
theorem QA (x y b : Nat) (hb : b ≤ 1) (w : World) :
  (callFunc 252 #[.int .u64 (x : Int), .int .u64 (y : Int), .int .u64 (b : Int)]).run Tryz.prog w =
   .ok (.value (.tuple #[.int .u64 (((x + 18446744073709551616 - y - b) % 18446744073709551616 : Nat) : Int), .int .u64 ((if x < y + b then 1 else 0 : Nat) : Int)])) w := by
 rw [run_callFunc_extern (P := Tryz.prog) (fn := Tryz.f252) (by kernel_rfl) (by kernel_rfl) (by kernel_rfl) (by kernel_rfl) (e := sub64Entry) (by kernel_rfl), run_sub64 x y b hb]
 rfl
def dB (v : Nat) : Nat := if v = 0 then 0 else v.log2 + 1
theorem qH : dB 0 = 0 := rfl
theorem lC {v : Nat} (h : v ≠ 0) : dB v = v.log2 + 1 := by unfold dB; rw [if_neg h]
theorem kP (v : Nat) : v < 2 ^ dB v := by
 by_cases h : v = 0
 ·subst h; decide
 ·rw [lC h]; exact Nat.lt_log2_self
theorem oG {v : Nat} (h : v ≠ 0) : 2 ^ (dB v - 1) ≤ v := by rw [lC h]; exact Nat.log2_self_le h
theorem vG {a b : Nat} (h : 2 ^ a < 2 ^ b) : a < b := (Nat.pow_lt_pow_iff_right (by decide)).1 h
theorem mY {v k : Nat} (h : v < 2 ^ k) : dB v ≤ k := by
 by_cases hv : v = 0
 ·subst hv; rw [qH]; omega
 ·have := vG (Nat.lt_of_le_of_lt (oG hv) h)
  rw [lC hv] at this ⊢
  omega
theorem ql {v k : Nat} (h1 : 2 ^ k ≤ v) (h2 : v < 2 ^ (k + 1)) : dB v = k + 1 := by
 have h3 := mY h2
 have h4 := vG (Nat.lt_of_le_of_lt h1 (kP v))
 omega
theorem bitLen_eq (x : Nat) (h : x < 18446744073709551616) : Lib.bitLen x = dB x := by
 by_cases h0 : x = 0
 ·subst h0; rfl
 ·obtain ⟨h1, h2, h3⟩ := Lib.bitLenAux_bounds 64 x h h0
  obtain ⟨k, hk⟩ : ∃ k, Lib.bitLenAux 64 x = k + 1 := ⟨Lib.bitLenAux 64 x - 1, by omega⟩
  rw [hk] at h2 h3
  rw [Nat.add_sub_cancel] at h2
  rw [Lib.bitLen, hk, ql h2 h3]
theorem KW {v n : Nat} (h : (toW v).length = n + 1) : dB v = 64 * n + dB ((toW v).getD n 0) := by
 have h0 := zI h
 have h1 := dG (toW v) n
 rw [iI _ (by omega), dI] at h1
 have h2 := oO ((kX v).take n)
 rw [List.length_take, Nat.min_eq_left (by omega)] at h2
 generalize (toW v).getD n 0 = x at *
 generalize val ((toW v).take n) = r at *
 have hw : WB ^ n = 2 ^ (64 * n) := by rw [Nat.pow_mul]
 have h3 := kP x
 have h4 := oG h0
 obtain ⟨k, hk⟩ : ∃ k, dB x = k + 1 := ⟨dB x - 1, by rw [lC h0]; omega⟩
 rw [hk] at h3 h4 ⊢
 rw [hw] at h1 h2
 have e1 : 2 ^ (64 * n) * 2 ^ k ≤ v := by
  have := Nat.mul_le_mul_left (2 ^ (64 * n)) h4
  rw [Nat.add_sub_cancel] at this
  omega
 have e2 : v < 2 ^ (64 * n) * 2 ^ (k + 1) := by
  have := Nat.mul_le_mul_left (2 ^ (64 * n)) h3
  rw [Nat.mul_succ] at this
  omega
 rw [← Nat.pow_add] at e1 e2
 exact ql e1 e2
set_option maxRecDepth 10000 in
set_option maxHeartbeats 1000000 in
theorem iG (w : World) (A : Option Addr) (c : Nat) (xs : List Nat) (h : Sl w A c xs) (hs : xs.length ≤ 10000000000) :
  Calls Tryz.prog 182 #[.slice A xs.length c] w fun e w' => e = .returned (.int .i64 (dB (val xs))) ∧ w = w' := by
 have hna := eu h.wd
 have HT := Lib.hid h.trim
 by_cases h0 : (toW (val xs)).length = 0
 ·have H0 := Lib.hid h0
  have h00 : ((((toW (val xs)).length : Nat) : Int) == 0) = true := by simp [h0]
  have hfin : dB (val xs) = 0 := by rw [(o7 _).1 h0]; rfl
  have HF := Lib.hid hfin
  clear h0 hfin
  go_enter Tryz.func182, Tryz.ntmps182
  go_wp2_with (go_at_call 112; refine (cZ _ _ _ _ (by assumption)).mono ?_; rintro e w' ⟨rfl, rfl⟩)
  go_ret
  exact ⟨oZ (pO (by rw [HF.out]; rfl)), rfl⟩
 ·obtain ⟨n, hn⟩ : ∃ n, (toW (val xs)).length = n + 1 := ⟨(toW (val xs)).length - 1, by omega⟩
  have h00 : (((n + 1 : Nat) : Int) == 0) = false := by simp only [beq_eq_false_iff_ne, ne_eq]; omega
  obtain ⟨b, o, rfl, hb, hcell⟩ := HT.out.nw.at_ (k := n) (by omega)
  have hx := HT.out.wd.get n
  have hbl := Lib.hid (KW hn)
  generalize hx' : (toW (val xs)).getD n 0 = x at *
  have HX' := Lib.hid hx'
  clear hx' h0
  go_enter Tryz.func182, Tryz.ntmps182
  have hl64 := Tryz.bits_Len64 (x : Int) w (by omega) (by have : WB = 18446744073709551616 := rfl; omega)
  go_wp2_with (first
   | (go_at_call 112; refine (cZ _ _ _ _ (by assumption)).mono ?_; rintro e w' ⟨rfl, rfl⟩)
   | (go_at_call 226; refine hl64.mono ?_; rintro e w' ⟨rfl, hww⟩; subst hww))
  go_ret
  refine ⟨oZ (pO ?_), rfl⟩
  rw [hbl.out, bitLen_eq x hx]
  have := mY (v := x) (k := 64) hx
  unfold wrap64
  omega
structure Args (w : World) (g : Nat) (L : List (Option Addr × Nat × List Nat)) : Prop where
 lt : g < w.heap.size
 cell : ∀ j A c xs, L[j]? = some (A, c, xs) → w.cell? ⟨g, j, none⟩ = some (.slice A xs.length c) ∧ Sl w A c xs
set_option maxRecDepth 10000 in
set_option maxHeartbeats 1000000 in
theorem kE (w : World) (g : Nat) (L : List (Option Addr × Nat × List Nat)) (h : Args w g L) (hl : L.length ≤ 100) :
  Calls Tryz.prog 111 #[.slice (some ⟨g, 0, none⟩) L.length L.length] w fun e w' => e = .returned (.bool (L.any fun t => decide (1024 < (toW (val t.2.2)).length))) ∧ w = w' := by
 have H := Lib.hid h
 clear h
 go_enter Tryz.func111, Tryz.ntmps111
 go_wp2
 go_loop [7] (fun t => ∃ k : Nat, t = .int .i64 k ∧ k ≤ L.length ∧ Hid ((L.take k).any (fun t => decide (1024 < (toW (val t.2.2)).length)) = false)) (fun t => (L.length - (intOf t).toNat))
 case atStart => exact ⟨0, rfl, Nat.zero_le _, Lib.hid (by simp)⟩
 case round =>
  obtain ⟨k, rfl, hk, hz⟩ := hrel
  by_cases hlt : k < L.length
  ·obtain ⟨⟨A, c, xs⟩, hx⟩ : ∃ t, L[k]? = some t := ⟨L[k], List.getElem?_eq_getElem hlt⟩
   obtain ⟨hcell, hs⟩ := H.out.cell k A c xs hx
   have hcell' : w.cell? ⟨g, 0 + k, none⟩ = some (.slice A xs.length c) := by rw [Nat.zero_add]; exact hcell
   have HTK : Hid ((L.take (k + 1)).any (fun t => decide (1024 < (toW (val t.2.2)).length)) = decide (1024 < (toW (val xs)).length)) := by
    refine Lib.hid ?_
    have := hz.out
    rw [List.take_add_one, hx, List.any_append, this]
    simp
   have HX := Lib.hid hx
   clear hx
   by_cases hgt : 1024 < (toW (val xs)).length
   ·have HF : Hid (L.any (fun t => decide (1024 < (toW (val t.2.2)).length)) = true) := by
     refine Lib.hid ?_
     rw [List.any_eq_true]
     refine ⟨_, List.mem_of_getElem? HX.out, ?_⟩
     simpa using hgt
    go_wp2_with (go_at_call 112; refine (cZ _ _ _ _ (by assumption)).mono ?_; rintro e w' ⟨rfl, rfl⟩)
    go_ret
    exact ⟨oZ (qZ HF.out.symm), rfl⟩
   ·have HF : Hid ((L.take (k + 1)).any (fun t => decide (1024 < (toW (val t.2.2)).length)) = false) := Lib.hid (by rw [HTK.out]; simpa using hgt)
    go_wp2_with (go_at_call 112; refine (cZ _ _ _ _ (by assumption)).mono ?_; rintro e w' ⟨rfl, rfl⟩)
    go_round
    case rel => exact ⟨k + 1, by go_num, by omega, HF⟩
    case measure => simp only [intOf]; omega
  ·have HF : Hid (L.any (fun t => decide (1024 < (toW (val t.2.2)).length)) = false) := by
    have := hz.out
    rw [List.take_of_length_le (by omega)] at this
    exact Lib.hid this
   go_wp2
   go_ret
   exact ⟨oZ (qZ HF.out.symm), rfl⟩
end Go.Proofs.YtafikkmnkeddpaaGreatDoor
namespace Go.Proofs.YtafikkmnkeddpaaGreatDoor
open Go.RowKit
theorem Jt {q a r u : Nat} (b W : Nat) (h : q * a + r = u) : q * (a * W + b) = q * a * W + q * b ∧ u * W = q * a * W + r * W := by
 subst h
 exact ⟨by rw [Nat.mul_add, Nat.mul_assoc], Nat.add_mul _ _ _⟩
theorem Dz {q a b r u d W : Nat} (h : q * a + r = u) (h1 : r * W + d < q * b) : u * W + d < q * (a * W + b) := by
 obtain ⟨e1, e2⟩ := Jt b W h
 rw [e1, e2]
 omega
theorem Iu (y q1 q2 W : Nat) : y * (q1 * W + q2) = y * q1 * W + y * q2 := by rw [Nat.mul_add, Nat.mul_assoc]
structure kW (u d a b q r : Nat) : Prop where
 sum : q * a + r = u
 up : (u * 4294967296 + d) / (a * 4294967296 + b) ≤ q
 small : r < 4294967296
theorem kW.start {u d a b : Nat} (ha : 2147483648 ≤ a) (ha2 : a < 4294967296) (hd : d < 4294967296) : kW u d a b (u / a) (u - u / a * a) := by
 have h1 := Nat.div_add_mod u a
 have h2 := Nat.mod_lt u (show 0 < a by omega)
 have h3 : u / a * a = a * (u / a) := Nat.mul_comm _ _
 refine ⟨by omega, ?_, by omega⟩
 have h4 : (u * 4294967296 + d) / (a * 4294967296) = u / a := by
  rw [Nat.mul_comm a, ← Nat.div_div_eq_div_mul]
  congr 1
  omega
 rw [← h4]
 exact Nat.div_le_div_left (by omega) (by omega)
theorem GH {u d a b : Nat} (hu : u < a * 4294967296 + b) (hd : d < 4294967296) : (u * 4294967296 + d) / (a * 4294967296 + b) < 4294967296 := by
 rw [Nat.div_lt_iff_lt_mul (by omega)]
 have : (u + 1) * 4294967296 ≤ (a * 4294967296 + b) * 4294967296 := Nat.mul_le_mul_right _ hu
 omega
theorem yD {u d a b q r : Nat} (hy : 0 < a * 4294967296 + b) (h : q * a + r = u) (ht : q * b ≤ r * 4294967296 + d) : q ≤ (u * 4294967296 + d) / (a * 4294967296 + b) := by
 rw [Nat.le_div_iff_mul_le hy, Nat.mul_add, ← h, Nat.add_mul, ← Nat.mul_assoc]
 omega
theorem kW.done {u d a b q r : Nat} (h : kW u d a b q r) (hy : 0 < a * 4294967296 + b) (ht : q * b ≤ r * 4294967296 + d) : q = (u * 4294967296 + d) / (a * 4294967296 + b) :=
 Nat.le_antisymm (yD hy h.sum ht) h.up
theorem kW.step {u d a b q r : Nat} (h : kW u d a b q r) (hu : u < a * 4294967296 + b) (hd : d < 4294967296) (ht : 4294967296 ≤ q ∨ r * 4294967296 + d < q * b) :
  0 < q ∧ (q - 1) * a + (r + a) = u ∧ (u * 4294967296 + d) / (a * 4294967296 + b) ≤ q - 1 := by
 have hq : (u * 4294967296 + d) / (a * 4294967296 + b) < q := by
  rcases ht with h1 | h1
  ·exact Nat.lt_of_lt_of_le (GH hu hd) h1
  ·exact (Nat.div_lt_iff_lt_mul (by omega)).2 (Dz h.sum h1)
 have hq0 : 0 < q := Nat.lt_of_le_of_lt (Nat.zero_le _) hq
 have hq1 := Nat.le_sub_one_of_lt hq
 obtain ⟨p, rfl⟩ : ∃ p, q = p + 1 := ⟨q - 1, by omega⟩
 have hs := h.sum
 have e : (p + 1) * a = p * a + a := Nat.succ_mul p a
 have e2 : p + 1 - 1 = p := rfl
 rw [e2] at hq1 ⊢
 exact ⟨hq0, by omega, hq1⟩
theorem EP {u d a b q r : Nat} (hb : b < 4294967296) (hu : u < a * 4294967296 + b) (h : q * a + r = u) (hq : (u * 4294967296 + d) / (a * 4294967296 + b) ≤ q) (hr : 4294967296 ≤ r) :
  q = (u * 4294967296 + d) / (a * 4294967296 + b) := by
 refine Nat.le_antisymm (yD (by omega) h ?_) hq
 have h1 : q * a < a * 4294967296 := by omega
 have h2 : q < 4294967296 := by
  by_cases h2 : q < 4294967296
  ·exact h2
  ·have : 4294967296 * a ≤ q * a := Nat.mul_le_mul_right _ (by omega)
   omega
 have h3 : q * b ≤ 4294967296 * b := Nat.mul_le_mul_right _ (by omega)
 omega
theorem kW.Qq {u d a b q r : Nat} (h : kW u d a b q r) (ha : 2147483648 ≤ a) (hu : u < 18446744073709551616) : q < 8589934592 := by
 by_cases h2 : q < 8589934592
 ·exact h2
 ·have : 8589934592 * 2147483648 ≤ q * a := Nat.mul_le_mul (by omega) ha
  have := h.sum
  omega
def rP (u d y : Nat) : Nat := (u * 4294967296 + d) / y
def uw (u d y : Nat) : Nat := (u * 4294967296 + d) % y
theorem kW.OL {u d a b q r : Nat} (h : kW u d a b q r) (hy : 0 < a * 4294967296 + b) (ht : q * b ≤ r * 4294967296 + d) : q = rP u d (a * 4294967296 + b) := h.done hy ht
theorem qg {u d a b q r : Nat} (hb : b < 4294967296) (hu : u < a * 4294967296 + b) (h : q * a + r = u) (hq : (u * 4294967296 + d) / (a * 4294967296 + b) ≤ q) (hr : 4294967296 ≤ r) :
  q = rP u d (a * 4294967296 + b) := EP hb hu h hq hr
theorem Iw {m n : Nat} (h : m = n) : Value.int .u64 (m : Int) = Value.int .u64 (n : Int) := by rw [h]
theorem AU {u d a b : Nat} (hu : u < a * 4294967296 + b) (hd : d < 4294967296) : rP u d (a * 4294967296 + b) < 4294967296 := GH hu hd
theorem AX (u d y : Nat) : u * 4294967296 + d - rP u d y * y = uw u d y := by
 have := Nat.div_add_mod (u * 4294967296 + d) y
 unfold rP uw
 have e : (u * 4294967296 + d) / y * y = y * ((u * 4294967296 + d) / y) := Nat.mul_comm _ _
 omega
theorem half_mul_le (u d y : Nat) : rP u d y * y ≤ u * 4294967296 + d := Nat.div_mul_le_self _ _
theorem ER {n l y W q1 r1 q2 r2 : Nat} (hy : 0 < y) (h1 : y * q1 + r1 = n) (h2 : y * q2 + r2 = r1 * W + l) (h3 : r2 < y) :
  (n * W + l) / y = q1 * W + q2 ∧ (n * W + l) % y = r2 := by
 have e : n * W + l = r2 + y * (q1 * W + q2) := by
  rw [Iu, ← h1, Nat.add_mul]
  omega
 rw [e]
 refine ⟨?_, ?_⟩
 ·rw [Nat.add_mul_div_left _ _ hy, Nat.div_eq_of_lt h3, Nat.zero_add]
 ·rw [Nat.add_mul_mod_self_left, Nat.mod_eq_of_lt h3]
theorem halves (u l y : Nat) (hy : 0 < y) :
  (u * 18446744073709551616 + l) / y = rP u (l / 4294967296) y * 4294967296 + rP (uw u (l / 4294967296) y) (l % 4294967296) y ∧
  (u * 18446744073709551616 + l) % y = uw (uw u (l / 4294967296) y) (l % 4294967296) y := by
 have h := ER (n := u * 4294967296 + l / 4294967296) (l := l % 4294967296) (W := 4294967296) hy (Nat.div_add_mod (u * 4294967296 + l / 4294967296) y)
  (Nat.div_add_mod (uw u (l / 4294967296) y * 4294967296 + l % 4294967296) y) (Nat.mod_lt _ hy)
 have e : (u * 4294967296 + l / 4294967296) * 4294967296 + l % 4294967296 = u * 18446744073709551616 + l := by omega
 rw [e] at h
 exact h
end Go.Proofs.YtafikkmnkeddpaaGreatDoor
namespace Go.Proofs.YtafikkmnkeddpaaGreatDoor
open Go.RowKit
theorem oN (x y c : Nat) (hx : x < WB) (hy : y < WB) (hc : c ≤ 1) : ∃ s c' : Nat, (∀ w, (callFunc 185 #[.int .u64 (x : Int), .int .u64 (y : Int), .int .u64 (c : Int)]).run Tryz.prog w =
   .ok (.value (.tuple #[.int .u64 (s : Int), .int .u64 (c' : Int)])) w) ∧ s < WB ∧ c' ≤ 1 ∧ Hid (x + y + c = s + c' * WB) := by
 have hW : WB = 18446744073709551616 := rfl
 refine ⟨(x + y + c) % 18446744073709551616, (x + y + c) / 18446744073709551616, Qz x y c hc, by omega, by omega, Lib.hid (by show x + y + c = _ + _ * 18446744073709551616; omega)⟩
theorem CU (x y b : Nat) (hx : x < WB) (hy : y < WB) (hb : b ≤ 1) : ∃ s b' : Nat, (∀ w, (callFunc 252 #[.int .u64 (x : Int), .int .u64 (y : Int), .int .u64 (b : Int)]).run Tryz.prog w =
   .ok (.value (.tuple #[.int .u64 (s : Int), .int .u64 (b' : Int)])) w) ∧ s < WB ∧ b' ≤ 1 ∧ Hid (x + b' * WB = s + y + b) := by
 have hW : WB = 18446744073709551616 := rfl
 refine ⟨_, _, QA x y b hb, by omega, by split <;> omega, Lib.hid (by show x + _ * 18446744073709551616 = _ + y + b; split <;> omega)⟩
set_option maxRecDepth 10000 in
set_option maxHeartbeats 1000000 in
theorem KX (w : World) (g c : Nat) (B : Option Addr) (cb : Nat) (xs ys : List Nat) (hR : Row w g xs) (hx : Wd xs) (hc : xs.length ≤ c) (hcs : c ≤ 1000000000000)
  (hB : Nw w g B ys) (hy : Wd ys) (hyc : ys.length ≤ cb) (hyl : ys.length ≤ xs.length) (u v : Nat) (hu : val xs = u) (hv : val ys = v) (hle : v ≤ u) :
  Calls Tryz.prog 218 #[.slice (some ⟨g, 0, none⟩) xs.length c, .slice B ys.length cb] w fun e w' => ∃ zs, e = .returned (.slice (some ⟨g, 0, none⟩) (toW (u - v)).length c) ∧
   zs.length = xs.length ∧ Wd zs ∧ val zs = u - v ∧ setB w g (.cells (cO zs) 22 (0, 0)) = w' := by
 subst hu hv
 have HR := Lib.hid hR
 have HX := Lib.hid hx
 have HY := Lib.hid hy
 have HB := Lib.hid hB
 have HSELF := Lib.hid (lJ hR)
 clear hR hx hy hB
 go_enter Tryz.func218, Tryz.ntmps218
 go_wp2
 go_loopw [5, 10] (fun bo t wr => ∃ (k b : Nat) (zs : List Nat), t = .int .i64 k ∧ bo = .int .u64 b ∧ k ≤ xs.length ∧ o8 xs ys k zs b ∧ Hid (wr = setB w g (.cells (cO zs) 22 (0, 0)))) (fun _ t _ => (xs.length - (intOf t).toNat))
 case atStart => exact ⟨0, 0, xs, rfl, rfl, Nat.zero_le _, o8.start HX.out, Lib.hid HSELF.out.symm⟩
 case round =>
  obtain ⟨k, b, zs, rfl, rfl, hk, hinv, hwr⟩ := hrel
  have hrow : Row wr g zs := by rw [hwr.out]; exact HR.out.setB
  by_cases hlt : k < xs.length
  ·have hb := hinv.bit
   have hcell : wr.cell? ⟨g, k, none⟩ = some (.int .u64 ((xs.getD k 0 : Nat) : Int)) := by
    rw [hrow.cell (by rw [hinv.len]; exact hlt), hinv.rest k (Nat.le_refl _)]
   have hfz : wr.frozen? ⟨g, k, none⟩ = false := hrow.frozen _
   have HST := Lib.hid fun (s : Nat) => (hrow.set k s)
   by_cases hy : k < ys.length
   ·obtain ⟨b1, o1, rfl, hb1, hc1⟩ := HB.out.at_ hy
    have hc2 : wr.cell? ⟨b1, o1 + k, none⟩ = some (.int .u64 ((ys.getD k 0 : Nat) : Int)) := by
     rw [hwr.out]
     refine (World.cell?_of_block ?_).trans hc1
     exact jY (by show b1 ≠ g; omega)
    obtain ⟨s, b', hrun, hs, hb', he⟩ := CU (xs.getD k 0) (ys.getD k 0) b (HX.out.get k) (HY.out.get k) hb
    have HNEXT := Lib.hid (hinv.step hlt hs hb' he.out)
    generalize hxk : xs.getD k 0 = x at *
    generalize hyk : ys.getD k 0 = y at *
    clear hxk hyk hc1
    go_wp2
    go_roundw
    case rel => exact ⟨k + 1, b', zs.set k s, by go_num, rfl, by omega, HNEXT.out, Lib.hid (by rw [HST.out, hwr.out, iL])⟩
    case measure => simp only [intOf]; omega
   ·have hy0 : ys.getD k 0 = 0 := by rw [List.getD_eq_getElem?_getD, List.getElem?_eq_none (by omega)]; rfl
    obtain ⟨s, b', hrun, hs, hb', he⟩ := CU (xs.getD k 0) 0 b (HX.out.get k) (by decide) hb
    have HNEXT := Lib.hid (hinv.step hlt hs hb' (by rw [hy0]; exact he.out))
    rw [show ((0 : Nat) : Int) = 0 from rfl] at hrun
    generalize hxk : xs.getD k 0 = x at *
    clear hxk hy0
    go_wp2
    go_roundw
    case rel => exact ⟨k + 1, b', zs.set k s, by go_num, rfl, by omega, HNEXT.out, Lib.hid (by rw [HST.out, hwr.out, iL])⟩
    case measure => simp only [intOf]; omega
  ·obtain rfl : k = xs.length := by omega
   have hv := hinv.done hyl hle
   have hl := hinv.len
   have hsl : Sl wr (some ⟨g, 0, none⟩) c zs := hrow.sl hinv.wd (by omega) hcs
   have htr := cZ wr _ c zs hsl
   rw [hl, hv] at htr
   have HV := Lib.hid hv
   have HL := Lib.hid hl
   clear hv hl
   go_wp2_with (go_at_call 112; refine htr.mono ?_; rintro e w' ⟨rfl, rfl⟩)
   go_ret
   exact ⟨zs, rfl, HL.out, hinv.wd, HV.out, hwr.out.symm⟩
set_option maxRecDepth 10000 in
set_option maxHeartbeats 1000000 in
theorem D5 (w : World) (A B : Option Addr) (ca cb : Nat) (xs ys : List Nat) (hA : Sl w A ca xs) (hB : Sl w B cb ys) (hlt : val xs < val ys) :
  Calls Tryz.prog 160 #[.slice A xs.length ca, .slice B ys.length cb] w fun e w' => e = .returned (.tuple #[.slice none 0 0, .int .i64 20]) ∧ Below w.heap.size w w' := by
 have hcmp := iy w A B ca cb xs ys hA hB
 rw [rC hlt] at hcmp
 go_enter Tryz.func160, Tryz.ntmps160
 go_wp2_with (go_at_call 103; refine hcmp.mono ?_; rintro e w' ⟨rfl, n, rfl⟩)
 go_ret2
 exact ⟨rfl, below_drewN (Below.refl _ _) _⟩
set_option maxRecDepth 10000 in
set_option maxHeartbeats 1000000 in
theorem kD (w : World) (A B : Option Addr) (ca cb : Nat) (xs ys : List Nat) (hA : Sl w A ca xs) (hB : Sl w B cb ys) (hle : val ys ≤ val xs) :
  Calls Tryz.prog 160 #[.slice A xs.length ca, .slice B ys.length cb] w fun e w' => ∃ A' c', e = .returned (.tuple #[.slice A' (toW (val xs - val ys)).length c', .int .i64 0]) ∧ ku w.heap.size w' A' c' (val xs - val ys) ∧ Below w.heap.size w w' := by
 have hcmp := iy w A B ca cb xs ys hA hB
 have hneg : ¬ (nX (val xs) (val ys) < 0) := by
  unfold nX
  rw [if_neg (by omega)]
  split <;> omega
 generalize nX (val xs) (val ys) = cc at *
 have hlen := iO hle
 have hcA := hA.cap
 have hcA' := hA.small
 have hnA := eu hA.wd
 have hcB := hB.trim.cap
 go_enter Tryz.func160, Tryz.ntmps160
 go_wp2_with (first
  | (go_at_call 103; refine hcmp.mono ?_; rintro e w' ⟨rfl, n, rfl⟩)
  | (go_at_call 172; refine (jd _ _ _ _ (hA.drewN n)).mono ?_; rintro e w1 ⟨g, rfl, hg, hr1, hb1⟩)
  | (go_at_call 112; refine (cZ _ _ _ _ ((hB.drewN n).below hb1)).mono ?_; rintro e w' ⟨rfl, rfl⟩)
  | (go_at_call 218; refine (KX _ _ _ _ _ _ _ hr1 (kX _) (Nat.le_refl _) ?_ ?_ (kX _) ?_ hlen _ _ (dI _) (dI _) hle).mono ?_))
 case refine_1 => omega
 case refine_2 => exact Nw.more (Nw.below (w := w.drewN n) (hB.trim.nw.drewN n) hb1) hg
 case refine_3 => omega
 rintro e w2 ⟨zs, rfl, hzl, hzw, hzv, rfl⟩
 go_wp2
 go_ret2
 have hr2 : Row (setB w1 g (.cells (cO zs) 22 (0, 0))) g zs := hr1.setB
 refine ⟨_, _, rfl, ?_, ?_⟩
 ·exact ku.oh hr2 hzw hg hzv hzl (by omega)
 ·exact kJ ((below_drewN (Below.refl _ _) n).trans hb1) hg _
end Go.Proofs.YtafikkmnkeddpaaGreatDoor
namespace Go.Proofs.YtafikkmnkeddpaaGreatDoor
open Go.RowKit
set_option maxRecDepth 10000 in
set_option maxHeartbeats 2000000 in
theorem FN (w : World) (A B : Option Addr) (ca cb : Nat) (xs ys : List Nat) (hA : Sl w A ca xs) (hB : Sl w B cb ys) (hlA : xs.length ≤ 100000000000) (hlB : ys.length ≤ 100000000000)
  (hsw : ¬ (toW (val xs)).length < (toW (val ys)).length) :
  Calls Tryz.prog 104 #[.slice A xs.length ca, .slice B ys.length cb] w (lK w (val xs + val ys)) := by
 have hnA := eu hA.wd
 have hnB := eu hB.wd
 have HLt := Lib.hid hA.trim
 have HSt := Lib.hid hB.trim
 have hcL := hA.trim.cap
 have hcS := hB.trim.cap
 have hsL := hA.small
 have hsS := hB.small
 have hsl : (toW (val ys)).length ≤ (toW (val xs)).length := by omega
 have hmk := oJ ((toW (val xs)).length + 1) (by omega)
 have hr0 := Row.new w (List.replicate ((toW (val xs)).length + 1) 0)
 have ha1 : Nw (w.alloc (.cells (cO (List.replicate ((toW (val xs)).length + 1) 0)) 22)) w.heap.size A (toW (val xs)) := hA.trim.nw.below ((Below.refl _ _).alloc (Nat.le_refl _) _)
 simp only [Int.natCast_add, Int.natCast_one] at hmk
 have HRES := Lib.hid fun (w' : World) (e : Ending) (h : lK w (val (toW (val xs)) + val (toW (val ys))) e w') => (show lK w (val xs + val ys) e w' by rw [dI, dI] at h; exact h)
 go_enter Tryz.func104, Tryz.ntmps104
 go_wp2_with (first
  | (go_at_call 112; refine (cZ _ _ _ _ (by assumption)).mono ?_; rintro e w' ⟨rfl, rfl⟩)
  | (refine mg rfl (.tmp 24) (.tmp 25) rfl _ _ _ _ _ _ _ rfl rfl hr0 (by simp) (by omega) _ ha1 ?_; intro w1 hr1 hb1))
 have hb1w : Below w.heap.size w w1 := ((Below.refl _ _).alloc (Nat.le_refl _) _).trans hb1
 have hg1 : w.heap.size < w1.heap.size := hr1.lt
 have HL := Lib.hid (HLt.out.nw.below hb1w)
 have HS := Lib.hid (HSt.out.nw.below hb1w)
 have HLW := Lib.hid HLt.out.wd
 have HSW := Lib.hid HSt.out.wd
 have HR1 := Lib.hid hr1
 have HSELF := Lib.hid (lJ hr1)
 have HST0 : Hid (rD (toW (val xs)) (toW (val ys)) 0 ((toW (val xs)) ++ List.drop (toW (val xs)).length (List.replicate ((toW (val xs)).length + 1) 0)) 0) := Lib.hid
  ⟨by simp, HLt.out.wd.append ((Wd.replicate _).drop _), by omega, by simp [val]⟩
 clear ha1 hr0 hr1 hmk
 generalize (toW (val xs)) ++ List.drop (toW (val xs)).length (List.replicate ((toW (val xs)).length + 1) 0) = zs0 at *
 clear hA hB
 go_loopw [6, 29] (fun co t wr => ∃ (k b : Nat) (zs : List Nat), t = .int .i64 k ∧ co = .int .u64 b ∧ k ≤ (toW (val xs)).length ∧ rD (toW (val xs)) (toW (val ys)) k zs b ∧ Hid (wr = setB w1 w.heap.size (.cells (cO zs) 22 (0, 0)))) (fun _ t _ => ((toW (val xs)).length - (intOf t).toNat))
 case atStart => exact ⟨0, 0, zs0, rfl, rfl, Nat.zero_le _, HST0.out, Lib.hid HSELF.out.symm⟩
 case round =>
  obtain ⟨k, b, zs, rfl, rfl, hk, hinv, hwr⟩ := hrel
  have hrow : Row wr w.heap.size zs := by rw [hwr.out]; exact HR1.out.setB
  have hwrN : ∀ b o, b < w.heap.size → wr.cell? ⟨b, o, none⟩ = w1.cell? ⟨b, o, none⟩ := fun b o hb => by
   rw [hwr.out]
   exact World.cell?_of_block (jY (by show b ≠ w.heap.size; omega))
  have HWN := Lib.hid hwrN
  clear hwrN
  have hzl := hinv.len
  have HZL := Lib.hid hzl
  clear hzl
  by_cases hlt : k < (toW (val xs)).length
  ·have hb := hinv.bit
   obtain ⟨b2, o2, rfl, hb2, hc2⟩ := HL.out.at_ hlt
   have hcell : wr.cell? ⟨b2, o2 + k, none⟩ = some (.int .u64 (((toW (val xs)).getD k 0 : Nat) : Int)) := (HWN.out b2 _ hb2).trans hc2
   have hcz : wr.cell? ⟨w.heap.size, k, none⟩ = some (.int .u64 ((zs.getD k 0 : Nat) : Int)) := hrow.cell (by rw [HZL.out]; omega)
   have hfz : wr.frozen? ⟨w.heap.size, k, none⟩ = false := hrow.frozen _
   have HST := Lib.hid fun (s : Nat) => (hrow.set k s)
   clear hc2
   by_cases hy : k < (toW (val ys)).length
   ·obtain ⟨b3, o3, rfl, hb3, hc3⟩ := HS.out.at_ hy
    have hcell3 : wr.cell? ⟨b3, o3 + k, none⟩ = some (.int .u64 (((toW (val ys)).getD k 0 : Nat) : Int)) := (HWN.out b3 _ hb3).trans hc3
    clear hc3
    obtain ⟨s, b', hrun, hs, hb', he⟩ := oN ((toW (val xs)).getD k 0) ((toW (val ys)).getD k 0) b (HLW.out.get k) (HSW.out.get k) hb
    have HNEXT := Lib.hid (hinv.step hlt hs hb' he.out)
    generalize hxk : (toW (val xs)).getD k 0 = x at *
    generalize hyk : (toW (val ys)).getD k 0 = y at *
    clear hxk hyk
    go_wp2
    go_roundw
    case rel => exact ⟨k + 1, b', zs.set k s, by go_num, rfl, by omega, HNEXT.out, Lib.hid (by rw [HST.out, hwr.out, iL])⟩
    case measure => simp only [intOf]; omega
   ·have hy0 : (toW (val ys)).getD k 0 = 0 := by rw [List.getD_eq_getElem?_getD, List.getElem?_eq_none (by omega)]; rfl
    obtain ⟨s, b', hrun, hs, hb', he⟩ := oN ((toW (val xs)).getD k 0) 0 b (HLW.out.get k) (by decide) hb
    have HNEXT := Lib.hid (hinv.step hlt hs hb' (by rw [hy0]; exact he.out))
    rw [show ((0 : Nat) : Int) = 0 from rfl] at hrun
    generalize hxk : (toW (val xs)).getD k 0 = x at *
    clear hxk hy0
    go_wp2
    go_roundw
    case rel => exact ⟨k + 1, b', zs.set k s, by go_num, rfl, by omega, HNEXT.out, Lib.hid (by rw [HST.out, hwr.out, iL])⟩
    case measure => simp only [intOf]; omega
  ·obtain rfl : k = (toW (val xs)).length := by omega
   have hdone := hinv.done hsl
   have hcz : wr.cell? ⟨w.heap.size, (toW (val xs)).length, none⟩ = some (.int .u64 ((zs.getD (toW (val xs)).length 0 : Nat) : Int)) := hrow.cell (by rw [HZL.out]; omega)
   have hfz : wr.frozen? ⟨w.heap.size, (toW (val xs)).length, none⟩ = false := hrow.frozen _
   have hrow2 : Row (setB w1 w.heap.size (.cells (cO (zs.set (toW (val xs)).length b)) 22 (0, 0))) w.heap.size (zs.set (toW (val xs)).length b) := HR1.out.setB
   have hst : wr.setCell ⟨w.heap.size, (toW (val xs)).length, none⟩ (.int .u64 (b : Int)) = setB w1 w.heap.size (.cells (cO (zs.set (toW (val xs)).length b)) 22 (0, 0)) := by
    rw [hrow.set, hwr.out, iL]
   have hln : (zs.set (toW (val xs)).length b).length = (toW (val xs)).length + 1 := by rw [List.length_set, HZL.out]
   have hsl2 : Sl (setB w1 w.heap.size (.cells (cO (zs.set (toW (val xs)).length b)) 22 (0, 0))) (some ⟨w.heap.size, 0, none⟩) ((toW (val xs)).length + 1) (zs.set (toW (val xs)).length b) := hrow2.sl hdone.1 (by omega) (by omega)
   have htr := cZ _ _ _ _ hsl2
   have hres := ku.oh (B := w.heap.size) hrow2 hdone.1 (Nat.le_refl _) hdone.2 hln (by omega)
   rw [hdone.2] at htr
   rw [hln] at htr
   have HDN := Lib.hid hdone
   have HRS := Lib.hid hres
   clear hdone hres hln hrow2 hsl2
   have HHST := Lib.hid hst
   clear hst hsl
   go_wp2_with fail
   rw [HHST.out]
   go_wp2_with (go_at_call 112; refine htr.mono ?_; rintro e w' ⟨rfl, rfl⟩)
   go_ret
   exact HRES.out _ _ ⟨_, _, rfl, HRS.out, kJ hb1w (Nat.le_refl _) _⟩
set_option maxRecDepth 10000 in
set_option maxHeartbeats 2000000 in
theorem FP (w : World) (A B : Option Addr) (ca cb : Nat) (xs ys : List Nat) (hA : Sl w A ca xs) (hB : Sl w B cb ys) (hlA : xs.length ≤ 100000000000) (hlB : ys.length ≤ 100000000000)
  (hsw : (toW (val xs)).length < (toW (val ys)).length) :
  Calls Tryz.prog 104 #[.slice A xs.length ca, .slice B ys.length cb] w (lK w (val xs + val ys)) := by
 have hnA := eu hA.wd
 have hnB := eu hB.wd
 have HLt := Lib.hid hB.trim
 have HSt := Lib.hid hA.trim
 have hcL := hB.trim.cap
 have hcS := hA.trim.cap
 have hsL := hB.small
 have hsS := hA.small
 have hsl : (toW (val xs)).length ≤ (toW (val ys)).length := by omega
 have hmk := oJ ((toW (val ys)).length + 1) (by omega)
 have hr0 := Row.new w (List.replicate ((toW (val ys)).length + 1) 0)
 have ha1 : Nw (w.alloc (.cells (cO (List.replicate ((toW (val ys)).length + 1) 0)) 22)) w.heap.size B (toW (val ys)) := hB.trim.nw.below ((Below.refl _ _).alloc (Nat.le_refl _) _)
 simp only [Int.natCast_add, Int.natCast_one] at hmk
 have HRES := Lib.hid fun (w' : World) (e : Ending) (h : lK w (val (toW (val ys)) + val (toW (val xs))) e w') => (show lK w (val xs + val ys) e w' by rw [dI, dI] at h; rw [Nat.add_comm]; exact h)
 go_enter Tryz.func104, Tryz.ntmps104
 go_wp2_with (first
  | (go_at_call 112; refine (cZ _ _ _ _ (by assumption)).mono ?_; rintro e w' ⟨rfl, rfl⟩)
  | (refine mg rfl (.tmp 24) (.tmp 25) rfl _ _ _ _ _ _ _ rfl rfl hr0 (by simp) (by omega) _ ha1 ?_; intro w1 hr1 hb1))
 have hb1w : Below w.heap.size w w1 := ((Below.refl _ _).alloc (Nat.le_refl _) _).trans hb1
 have hg1 : w.heap.size < w1.heap.size := hr1.lt
 have HL := Lib.hid (HLt.out.nw.below hb1w)
 have HS := Lib.hid (HSt.out.nw.below hb1w)
 have HLW := Lib.hid HLt.out.wd
 have HSW := Lib.hid HSt.out.wd
 have HR1 := Lib.hid hr1
 have HSELF := Lib.hid (lJ hr1)
 have HST0 : Hid (rD (toW (val ys)) (toW (val xs)) 0 ((toW (val ys)) ++ List.drop (toW (val ys)).length (List.replicate ((toW (val ys)).length + 1) 0)) 0) := Lib.hid
  ⟨by simp, HLt.out.wd.append ((Wd.replicate _).drop _), by omega, by simp [val]⟩
 clear ha1 hr0 hr1 hmk
 generalize (toW (val ys)) ++ List.drop (toW (val ys)).length (List.replicate ((toW (val ys)).length + 1) 0) = zs0 at *
 clear hA hB
 go_loopw [6, 29] (fun co t wr => ∃ (k b : Nat) (zs : List Nat), t = .int .i64 k ∧ co = .int .u64 b ∧ k ≤ (toW (val ys)).length ∧ rD (toW (val ys)) (toW (val xs)) k zs b ∧ Hid (wr = setB w1 w.heap.size (.cells (cO zs) 22 (0, 0)))) (fun _ t _ => ((toW (val ys)).length - (intOf t).toNat))
 case atStart => exact ⟨0, 0, zs0, rfl, rfl, Nat.zero_le _, HST0.out, Lib.hid HSELF.out.symm⟩
 case round =>
  obtain ⟨k, b, zs, rfl, rfl, hk, hinv, hwr⟩ := hrel
  have hrow : Row wr w.heap.size zs := by rw [hwr.out]; exact HR1.out.setB
  have hwrN : ∀ b o, b < w.heap.size → wr.cell? ⟨b, o, none⟩ = w1.cell? ⟨b, o, none⟩ := fun b o hb => by
   rw [hwr.out]
   exact World.cell?_of_block (jY (by show b ≠ w.heap.size; omega))
  have HWN := Lib.hid hwrN
  clear hwrN
  have hzl := hinv.len
  have HZL := Lib.hid hzl
  clear hzl
  by_cases hlt : k < (toW (val ys)).length
  ·have hb := hinv.bit
   obtain ⟨b2, o2, rfl, hb2, hc2⟩ := HL.out.at_ hlt
   have hcell : wr.cell? ⟨b2, o2 + k, none⟩ = some (.int .u64 (((toW (val ys)).getD k 0 : Nat) : Int)) := (HWN.out b2 _ hb2).trans hc2
   have hcz : wr.cell? ⟨w.heap.size, k, none⟩ = some (.int .u64 ((zs.getD k 0 : Nat) : Int)) := hrow.cell (by rw [HZL.out]; omega)
   have hfz : wr.frozen? ⟨w.heap.size, k, none⟩ = false := hrow.frozen _
   have HST := Lib.hid fun (s : Nat) => (hrow.set k s)
   clear hc2
   by_cases hy : k < (toW (val xs)).length
   ·obtain ⟨b3, o3, rfl, hb3, hc3⟩ := HS.out.at_ hy
    have hcell3 : wr.cell? ⟨b3, o3 + k, none⟩ = some (.int .u64 (((toW (val xs)).getD k 0 : Nat) : Int)) := (HWN.out b3 _ hb3).trans hc3
    clear hc3
    obtain ⟨s, b', hrun, hs, hb', he⟩ := oN ((toW (val ys)).getD k 0) ((toW (val xs)).getD k 0) b (HLW.out.get k) (HSW.out.get k) hb
    have HNEXT := Lib.hid (hinv.step hlt hs hb' he.out)
    generalize hxk : (toW (val ys)).getD k 0 = x at *
    generalize hyk : (toW (val xs)).getD k 0 = y at *
    clear hxk hyk
    go_wp2
    go_roundw
    case rel => exact ⟨k + 1, b', zs.set k s, by go_num, rfl, by omega, HNEXT.out, Lib.hid (by rw [HST.out, hwr.out, iL])⟩
    case measure => simp only [intOf]; omega
   ·have hy0 : (toW (val xs)).getD k 0 = 0 := by rw [List.getD_eq_getElem?_getD, List.getElem?_eq_none (by omega)]; rfl
    obtain ⟨s, b', hrun, hs, hb', he⟩ := oN ((toW (val ys)).getD k 0) 0 b (HLW.out.get k) (by decide) hb
    have HNEXT := Lib.hid (hinv.step hlt hs hb' (by rw [hy0]; exact he.out))
    rw [show ((0 : Nat) : Int) = 0 from rfl] at hrun
    generalize hxk : (toW (val ys)).getD k 0 = x at *
    clear hxk hy0
    go_wp2
    go_roundw
    case rel => exact ⟨k + 1, b', zs.set k s, by go_num, rfl, by omega, HNEXT.out, Lib.hid (by rw [HST.out, hwr.out, iL])⟩
    case measure => simp only [intOf]; omega
  ·obtain rfl : k = (toW (val ys)).length := by omega
   have hdone := hinv.done hsl
   have hcz : wr.cell? ⟨w.heap.size, (toW (val ys)).length, none⟩ = some (.int .u64 ((zs.getD (toW (val ys)).length 0 : Nat) : Int)) := hrow.cell (by rw [HZL.out]; omega)
   have hfz : wr.frozen? ⟨w.heap.size, (toW (val ys)).length, none⟩ = false := hrow.frozen _
   have hrow2 : Row (setB w1 w.heap.size (.cells (cO (zs.set (toW (val ys)).length b)) 22 (0, 0))) w.heap.size (zs.set (toW (val ys)).length b) := HR1.out.setB
   have hst : wr.setCell ⟨w.heap.size, (toW (val ys)).length, none⟩ (.int .u64 (b : Int)) = setB w1 w.heap.size (.cells (cO (zs.set (toW (val ys)).length b)) 22 (0, 0)) := by
    rw [hrow.set, hwr.out, iL]
   have hln : (zs.set (toW (val ys)).length b).length = (toW (val ys)).length + 1 := by rw [List.length_set, HZL.out]
   have hsl2 : Sl (setB w1 w.heap.size (.cells (cO (zs.set (toW (val ys)).length b)) 22 (0, 0))) (some ⟨w.heap.size, 0, none⟩) ((toW (val ys)).length + 1) (zs.set (toW (val ys)).length b) := hrow2.sl hdone.1 (by omega) (by omega)
   have htr := cZ _ _ _ _ hsl2
   have hres := ku.oh (B := w.heap.size) hrow2 hdone.1 (Nat.le_refl _) hdone.2 hln (by omega)
   rw [hdone.2] at htr
   rw [hln] at htr
   have HDN := Lib.hid hdone
   have HRS := Lib.hid hres
   clear hdone hres hln hrow2 hsl2
   have HHST := Lib.hid hst
   clear hst hsl
   go_wp2_with fail
   rw [HHST.out]
   go_wp2_with (go_at_call 112; refine htr.mono ?_; rintro e w' ⟨rfl, rfl⟩)
   go_ret
   exact HRES.out _ _ ⟨_, _, rfl, HRS.out, kJ hb1w (Nat.le_refl _) _⟩
theorem iJ (w : World) (A B : Option Addr) (ca cb : Nat) (xs ys : List Nat) (hA : Sl w A ca xs) (hB : Sl w B cb ys) (hlA : xs.length ≤ 100000000000) (hlB : ys.length ≤ 100000000000) :
  Calls Tryz.prog 104 #[.slice A xs.length ca, .slice B ys.length cb] w (lK w (val xs + val ys)) := by
 by_cases h : (toW (val xs)).length < (toW (val ys)).length
 ·exact FP w A B ca cb xs ys hA hB hlA hlB h
 ·exact FN w A B ca cb xs ys hA hB hlA hlB h
end Go.Proofs.YtafikkmnkeddpaaGreatDoor
namespace Go.Proofs.YtafikkmnkeddpaaGreatDoor
open Go.RowKit
theorem CV (x y : Nat) (hx : x < WB) (hy : y < WB) : ∃ hi lo : Nat, (∀ w, Calls Tryz.prog 190 #[.int .u64 (x : Int), .int .u64 (y : Int)] w fun e w' => e = .returned (.tuple #[.int .u64 (hi : Int), .int .u64 (lo : Int)]) ∧ w = w') ∧
  hi < WB ∧ lo < WB ∧ Hid (x * y = hi * WB + lo) := by
 refine ⟨x * y / 18446744073709551616, x * y % 18446744073709551616, fun w => (Tryz.bits_Mul64 x y hx hy w).mono fun e w' h => ⟨h.1, h.2.symm⟩, ?_, Nat.mod_lt _ (by decide), Lib.hid ?_⟩
 ·refine Nat.div_lt_of_lt_mul ?_
  exact Nat.mul_lt_mul'' hx hy
 ·show _ = _ * 18446744073709551616 + _
  have := Nat.div_add_mod (x * y) 18446744073709551616
  omega
set_option maxRecDepth 10000 in
set_option maxHeartbeats 2000000 in
theorem oK (w : World) (A B : Option Addr) (ca cb : Nat) (xs ys : List Nat) (hA : Sl w A ca xs) (hB : Sl w B cb ys) (hlA : xs.length ≤ 10000000000) (hlB : ys.length ≤ 10000000000) :
  Calls Tryz.prog 144 #[.slice A xs.length ca, .slice B ys.length cb] w (lK w (val xs * val ys)) := by
 have hnA := eu hA.wd
 have hnB := eu hB.wd
 have HAt := Lib.hid hA.trim
 have HBt := Lib.hid hB.trim
 have hmk := oJ ((toW (val xs)).length + (toW (val ys)).length) (by omega)
 have hr0 := Row.new w (List.replicate ((toW (val xs)).length + (toW (val ys)).length) 0)
 simp only [Int.natCast_add] at hmk
 have HRES := Lib.hid fun (w' : World) (e : Ending) (h : lK w (val (toW (val xs)) * val (toW (val ys))) e w') => (show lK w (val xs * val ys) e w' by rw [dI, dI] at h; exact h)
 go_enter Tryz.func144, Tryz.ntmps144
 go_wp2_with (first
  | (go_at_call 112; refine (cZ _ _ _ _ (by assumption)).mono ?_; rintro e w' ⟨rfl, rfl⟩))
 have hb0 : Below w.heap.size w (w.alloc (.cells (cO (List.replicate ((toW (val xs)).length + (toW (val ys)).length) 0)) 22)) := (Below.refl _ _).alloc (Nat.le_refl _) _
 generalize hW1 : w.alloc (.cells (cO (List.replicate ((toW (val xs)).length + (toW (val ys)).length) 0)) 22) = w1 at *
 have hg1 : w.heap.size < w1.heap.size := hr0.lt
 have HA1 := Lib.hid (HAt.out.nw.below hb0)
 have HB1 := Lib.hid (HBt.out.nw.below hb0)
 have HAW := Lib.hid HAt.out.wd
 have HBW := Lib.hid HBt.out.wd
 have HR1 := Lib.hid hr0
 have HSELF := Lib.hid (lJ hr0)
 have HB0 := Lib.hid hb0
 clear hr0 hmk hW1 hA hB hb0
 go_loopw [26] (fun t wr => ∃ (k : Nat) (zs : List Nat), t = .int .i64 k ∧ k ≤ (toW (val xs)).length ∧ o9 (toW (val xs)) (toW (val ys)) k zs ∧ Hid (wr = setB w1 w.heap.size (.cells (cO zs) 22 (0, 0)))) (fun t _ => (toW (val xs)).length - (intOf t).toNat)
 case atStart => exact ⟨0, _, rfl, Nat.zero_le _, o9.start (toW (val xs)) (toW (val ys)), Lib.hid HSELF.out.symm⟩
 case round =>
  obtain ⟨i, z0, rfl, hi, hinv, hwr⟩ := hrel
  have hrow : Row wr w.heap.size z0 := by rw [hwr.out]; exact HR1.out.setB
  have HWR1 := Lib.hid hwr.out
  have HWN : Hid (∀ b o, b < w.heap.size → wr.cell? ⟨b, o, none⟩ = w1.cell? ⟨b, o, none⟩) := Lib.hid fun b o hb => by
   rw [hwr.out]
   exact World.cell?_of_block (jY (by show b ≠ w.heap.size; omega))
  by_cases hlt : i < (toW (val xs)).length
  ·obtain ⟨b2, o2, rfl, hb2, hc2⟩ := HA1.out.at_ hlt
   have hcell : wr.cell? ⟨b2, o2 + i, none⟩ = some (.int .u64 (((toW (val xs)).getD i 0 : Nat) : Int)) := (HWN.out b2 _ hb2).trans hc2
   have hxw := HAW.out.get i
   have hz0 := sV.start (toW (val ys)) ((toW (val xs)).getD i 0) i hinv.wd
   have HINV := Lib.hid hinv
   have hzl := Lib.hid hinv.len
   generalize hxi : (toW (val xs)).getD i 0 = x at hcell hxw hz0
   have HXI := Lib.hid hxi
   have HROW := Lib.hid hrow
   clear hc2 hxi hinv hrow
   go_wp2
   obtain ⟨wo, rfl⟩ : ∃ wo : World, wo = wr := ⟨_, rfl⟩
   go_loopw [8, 33] (fun co t wr => ∃ (j c : Nat) (zs : List Nat), t = .int .i64 j ∧ co = .int .u64 c ∧ j ≤ (toW (val ys)).length ∧ sV (toW (val ys)) x i j z0 zs c ∧ Hid (wr = setB wo w.heap.size (.cells (cO zs) 22 (0, 0)))) (fun _ t _ => (toW (val ys)).length - (intOf t).toNat)
   case atStart => exact ⟨0, 0, z0, rfl, rfl, Nat.zero_le _, hz0, Lib.hid (lJ HROW.out).symm⟩
   case round =>
    obtain ⟨j, c, zs, rfl, rfl, hj, hin, hwr⟩ := hrel
    have hrowq : Row wr w.heap.size zs := by rw [hwr.out]; exact HROW.out.setB
    have HWQ : Hid (∀ b o, b < w.heap.size → wr.cell? ⟨b, o, none⟩ = w1.cell? ⟨b, o, none⟩) := Lib.hid fun b o hb => by
     rw [hwr.out, ← HWN.out b o hb]
     exact World.cell?_of_block (jY (by show b ≠ w.heap.size; omega))
    have hzs := Lib.hid hin.len
    by_cases hjl : j < (toW (val ys)).length
    ·obtain ⟨b3, o3, rfl, hb3, hc3⟩ := HB1.out.at_ hjl
     have hcy : wr.cell? ⟨b3, o3 + j, none⟩ = some (.int .u64 (((toW (val ys)).getD j 0 : Nat) : Int)) := (HWQ.out b3 _ hb3).trans hc3
     have hlen : i + j < zs.length := by rw [hzs.out, hzl.out]; omega
     have hcz : wr.cell? ⟨w.heap.size, i + j, none⟩ = some (.int .u64 ((z0.getD (i + j) 0 : Nat) : Int)) := by rw [hrowq.cell hlen, hin.rest _ (Nat.le_refl _)]
     have hfz : wr.frozen? ⟨w.heap.size, i + j, none⟩ = false := hrowq.frozen _
     have HST := Lib.hid fun (s : Nat) => (hrowq.set (i + j) s)
     have hyw := HBW.out.get j
     have hpw := HINV.out.wd.get (i + j)
     have hcw := hin.carry
     obtain ⟨hi', lo, hmul, hhi, hlo, hm⟩ := CV x ((toW (val ys)).getD j 0) hxw hyw
     obtain ⟨s1, c1, hrun1, hs1, hc1, he1⟩ := oN lo (z0.getD (i + j) 0) 0 hlo hpw (by omega)
     obtain ⟨s2, c2, hrun2, hs2, hc2, he2⟩ := oN s1 c 0 hs1 hcw (by omega)
     obtain ⟨hfin, hbd⟩ := FU hxw hyw hpw hcw hm.out he1.out he2.out
     have HNEXT := Lib.hid (hin.step (by rw [hzl.out]; omega) hs2 hbd hfin)
     rw [show ((0 : Nat) : Int) = 0 from rfl] at hrun1 hrun2
     have hbd' : hi' + c1 + c2 ≤ 18446744073709551615 := by have hW : WB = 18446744073709551616 := rfl; omega
     generalize hyj : (toW (val ys)).getD j 0 = y at *
     generalize hpz : z0.getD (i + j) 0 = p at *
     clear hyj hpz hc3 hfin hbd hrowq hin hlen
     go_wp2_with (go_at_call 190; refine (hmul _).mono ?_; rintro e w' ⟨rfl, rfl⟩)
     go_roundw
     case rel => exact ⟨j + 1, hi' + c1 + c2, zs.set (i + j) s2, by go_num, by simp only [Int.natCast_add], by omega, HNEXT.out, Lib.hid (by rw [HST.out, hwr.out, iL])⟩
     case measure => simp only [intOf]; omega
    ·obtain rfl : j = (toW (val ys)).length := by omega
     have hstep := HINV.out.step hlt (by rw [HXI.out]; exact hin)
     have hlen : i + (toW (val ys)).length < zs.length := by rw [hzs.out, hzl.out]; omega
     have hcz : wr.cell? ⟨w.heap.size, i + (toW (val ys)).length, none⟩ = some (.int .u64 ((zs.getD (i + (toW (val ys)).length) 0 : Nat) : Int)) := hrowq.cell hlen
     have hfz : wr.frozen? ⟨w.heap.size, i + (toW (val ys)).length, none⟩ = false := hrowq.frozen _
     have HST := Lib.hid (hrowq.set (i + (toW (val ys)).length) c)
     have HSTEP := Lib.hid hstep
     have hil : i + (toW (val ys)).length < (toW (val xs)).length + (toW (val ys)).length := by omega
     clear hstep hin hrowq hlen
     go_wp2
     go_roundw
     case rel => exact ⟨i + 1, zs.set (i + (toW (val ys)).length) c, by go_num, by omega, HSTEP.out, Lib.hid (by rw [HST.out, hwr.out, iL, HWR1.out, iL])⟩
     case measure => simp only [intOf]; omega
  ·obtain rfl : i = (toW (val xs)).length := by omega
   have hval := hinv.done
   have hzl := hinv.len
   have hsl2 : Sl wr (some ⟨w.heap.size, 0, none⟩) ((toW (val xs)).length + (toW (val ys)).length) z0 := hrow.sl hinv.wd (by omega) (by omega)
   have htr := cZ _ _ _ _ hsl2
   have hres := Lib.hid (ku.oh (B := w.heap.size) hrow hinv.wd (Nat.le_refl _) hval hzl (by omega))
   rw [hval] at htr
   rw [hzl] at htr
   clear hval hzl hsl2 hinv hrow
   go_wp2_with (go_at_call 112; refine htr.mono ?_; rintro e w' ⟨rfl, rfl⟩)
   go_ret
   exact HRES.out _ _ ⟨_, _, rfl, hres.out, by rw [hwr.out]; exact kJ HB0.out (Nat.le_refl _) _⟩
end Go.Proofs.YtafikkmnkeddpaaGreatDoor
namespace Go.Proofs.YtafikkmnkeddpaaGreatDoor
open Go
section
variable {P : Program} {ops : Array Oper} {md : Region.Mode} {C : World → Prop}
def Ee (P : Program) (md : Region.Mode) (ops : Array Oper) (C : World → Prop) (n : Nat) (L : Array Bool → Act → Prop) : Nat → Array Bool → Act → Prop
 | 0, listed, a => L listed a
 | f + 1, listed, a => Region.ready md ops listed ≠ [] ∧ ∀ i ∈ Region.ready md ops listed, i < n ∧ qOp P ops C i (Ee P md ops C n L f (listed.setIfInBounds i true)) a
theorem tC {n g : Nat} {L : Array Bool → Act → Prop} {Q' : Exit → Act → World → Prop} (hL : ∀ listed a w, C w → L listed a → wpAny P md ops Q' g listed a w) :
  ∀ (f : Nat) (listed : Array Bool) (a : Act) (w : World), C w → Ee P md ops C n L f listed a → wpAny P md ops Q' (f + g) listed a w
 | 0, listed, a, w, hw, h => by rw [Nat.zero_add]; exact hL _ _ _ hw h
 | f + 1, listed, a, w, hw, h => by
  rw [show f + 1 + g = (f + g) + 1 by omega]
  exact ⟨fun h0 => absurd h0 h.1, fun i hi => wpOp_of_qOp hw (fun a' w' hw' h' => tC hL f _ a' w' hw' h') (h.2 i hi).2⟩
theorem Ef {n i : Nat} {oi : Oper} {v : Value} {L : Array Bool → Act → Prop} (hi : ops[i]? = some oi) (hsel : ∀ (j : Nat) (o : Oper) cs b, ops[j]? = some o → o.op ≠ .select cs b)
  (hs : Region.sinkB md ops n = true) (hc : Region.chainB md ops n = true) (hn : n < ops.size) (hin : i < n)
  (hdone : ∀ listed a, L listed a → ∀ j ∈ Region.ready md ops listed, n ≤ j) :
  ∀ (f : Nat) (listed : Array Bool) (a : Act), HeadInv md ops n listed →
   (∀ j oj, ops[j]? = some oj → j ≠ i → listed.getD j true = false → (∀ e ∈ oj.after, Region.binds md e = true → e.on ≠ i) → oi.apart ops oj = true) →
   i ∈ Region.ready md ops listed → YieldsIn P ops C oi v a →
   Ee P md ops C n L f (listed.setIfInBounds i true) (a.put oi.dst v) → Ee P md ops C n L (f + 1) listed a := by
 intro f
 induction f with
 | zero =>
  intro listed a inv _ hr hy H
  have hun := (mem_ready.1 hr).1
  refine ⟨fun h => (by rw [h] at hr; cases hr), fun j hj => ?_⟩
  have hjn : j < n := by
   rcases Nat.lt_or_ge j n with h | h
   ·exact h
   ·exact absurd hj (tail_waits hs hc hn inv _ i rfl hin hun j h)
  refine ⟨hjn, ?_⟩
  by_cases hji : j = i
  ·subst hji; exact hy.qOp hi H
  ·have := hdone _ _ H j (ready_mono hj hji)
   omega
 | succ f ih =>
  intro listed a inv hfree hr hy H
  have hun := (mem_ready.1 hr).1
  refine ⟨fun h => (by rw [h] at hr; cases hr), fun j hj => ?_⟩
  have hjn : j < n := by
   rcases Nat.lt_or_ge j n with h | h
   ·exact h
   ·exact absurd hj (tail_waits hs hc hn inv _ i rfl hin hun j h)
  refine ⟨hjn, ?_⟩
  by_cases hji : j = i
  ·subst hji; exact hy.qOp hi H
  ·have h1 := (H.2 j (ready_mono hj hji)).2
   obtain ⟨hjun, oj, hoj, hall⟩ := mem_ready.1 hj
   have hnot : ∀ e ∈ oj.after, Region.binds md e = true → e.on ≠ i := fun e he hb heq => by
    have h1 := hall e he hb
    rw [heq, getD_both hun] at h1
    cases h1
   have h2 := qOp_put hoj (hfree j oj hoj hji hjun hnot) (fun cs b => hsel i oi cs b hi) (fun cs b => hsel j oj cs b hoj) hy h1
   have hfree' : ∀ k ok, ops[k]? = some ok → k ≠ i → (listed.setIfInBounds j true).getD k true = false →
     (∀ e ∈ ok.after, Region.binds md e = true → e.on ≠ i) → oi.apart ops ok = true := fun k ok hk hki hun hno => by
    refine hfree k ok hk hki ?_ hno
    by_cases hjk : j = k
    ·subst hjk; exact hjun
    ·rw [Go.getD_set_ne true hjk] at hun; exact hun
   refine qOp_mono (fun a' h3 => ih (listed.setIfInBounds j true) a' (inv.set hj hjn) hfree' (ready_mono hr (Ne.symm hji)) h3.1 ?_) h2
   rw [Array.setIfInBounds_comm _ _ hji]
   exact h3.2
theorem BA {n g : Nat} {Lq : Act → Prop} (hsel : Region.noSelect ops = true) (hs : Region.sinkB md ops n = true) (hc : Region.chainB md ops n = true) (hn : n < ops.size) :
  ∀ (l : List Oper) (k : Nat) (listed : Array Bool) (a : Act), (∀ j, j < l.length → l[j]? = ops[k + j]?) → k + l.length = n → HeadInv md ops n listed →
  Region.lexHead md ops g l.length k listed = true → wpQuiet P ops C Lq l a →
  Ee P md ops C n (fun listed' a' => Region.seqB md ops g n listed' = true ∧ Lq a') l.length listed a
 | [], k, listed, a, _, hk, _, hB, h => by
  have : k = n := by simpa using hk
  subst this
  exact ⟨by simpa [Region.lexHead] using hB, h⟩
 | o :: l, k, listed, a, hl, hk, inv, hB, h => by
  have h0 : ops[k]? = some o := by simpa using (hl 0 (by simp)).symm
  simp only [List.length_cons, Region.lexHead, Bool.and_eq_true] at hB
  obtain ⟨⟨hr, hf⟩, hB'⟩ := hB
  have hkn : k < n := by simp only [List.length_cons] at hk; omega
  have hr' : k ∈ Region.ready md ops listed := by simpa using hr
  have hst : qOp P ops C k (wpQuiet P ops C Lq l) a := by unfold qOp; simp only [h0]; exact h
  obtain ⟨v, hy, hK⟩ := yieldsIn_of_qOp h0 hst
  exact Ef h0 (Region.noSelect_spec hsel) hs hc hn hkn (fun listed' a' hL => seqB_ready hL.1) l.length listed a inv (Region.free_spec h0 hf) hr' hy
   (BA hsel hs hc hn l (k + 1) _ _ (fun j hj => by have := hl (j + 1) (by simp; omega); simpa [Nat.add_assoc, Nat.add_comm 1 j] using this) (by simp only [List.length_cons] at hk; omega) (inv.set hr' hkn) hB' hK)
theorem oL {id : Nat} {Q : Exit → Act → World → Prop} {a : Act} {w : World} {l : List Oper} (n : Nat) (hm : P.follows .mixedOrders = true) (hB : Region.lexTailB .any l.toArray n = true)
  (h : wpQuiet P l.toArray (fun w' => ∃ k, w' = w.drewN k) (fun a' => ∀ w', (∃ k, w' = w.drewN k) → wpList P l.toArray Q (l.drop n) a' w') (l.take n) a) : (Code.region id l.toArray true).wp P Q a w := by
 simp only [Region.lexTailB, Bool.and_eq_true, decide_eq_true_eq] at hB
 obtain ⟨⟨⟨⟨hsel, hn⟩, hs⟩, hc⟩, hlex⟩ := hB
 have hn' : n < l.length := by simpa using hn
 have htl : (l.take n).length = n := by simp; omega
 have hdl : (l.drop n).length = l.toArray.size - n := by simp
 have inv0 : HeadInv .any l.toArray n (Array.replicate l.toArray.size false) :=
  ⟨by simp, fun j oj _ hl => (by rw [getD_replicate_false] at hl; cases hl), fun t _ ht => getD_in (by simpa using ht) (getD_replicate_false _ _)⟩
 have H := BA (C := fun w' => ∃ k, w' = w.drewN k) (md := .any) (g := l.toArray.size - n) hsel hs hc hn (l.take n) 0 _ a (fun j hj => by
  have hj' : j < n := by rw [htl] at hj; exact hj
  simp [hj']) (by simpa using htl) inv0 (by rw [htl]; exact hlex) h
 refine wp_region_any hm ?_
 have := tC (Q' := Q) (g := l.toArray.size - n) (fun listed a' w' hw' hL => by
  have := wpAny_of_seq (md := .any) (Q' := Q) (l.drop n) n listed a' w' (fun j => by simp [List.getElem?_drop]) (by rw [hdl]; exact hL.1) (hL.2 w' hw')
  rwa [hdl] at this) _ _ _ { w with drawn := w.drawn + 1 } ⟨1, rfl⟩ H
 rw [htl, show n + (l.toArray.size - n) = l.toArray.size by omega] at this
 exact this
end
end Go.Proofs.YtafikkmnkeddpaaGreatDoor
namespace Go.Proofs.YtafikkmnkeddpaaGreatDoor
open Go.RowKit
theorem mG (w : World) (g : Nat) (A : Option Addr) (c : Nat) (xs : List Nat) (hc : w.cell? ⟨g, 0, none⟩ = some (.slice A xs.length c)) (hs : Sl w A c xs) :
  Calls Tryz.prog 111 #[.slice (some ⟨g, 0, none⟩) 1 1] w fun e w' => e = .returned (.bool (decide (1024 < (toW (val xs)).length))) ∧ w = w' := by
 have h : Args w g [(A, c, xs)] := ⟨World.block_lt_of_cell? w _ hc, fun j A' c' xs' hj => by
  match j with
  | 0 => simp at hj; obtain ⟨rfl, rfl, rfl⟩ := hj; exact ⟨hc, hs⟩
  | j + 1 => simp at hj⟩
 have := kE w g _ h (by simp)
 simpa using this
theorem zC (w : World) (g : Nat) (A : Option Addr) (c : Nat) (xs : List Nat) (B : Option Addr) (d : Nat) (ys : List Nat) (hc : w.cell? ⟨g, 0, none⟩ = some (.slice A xs.length c)) (hs : Sl w A c xs)
  (hd : w.cell? ⟨g, 1, none⟩ = some (.slice B ys.length d)) (ht : Sl w B d ys) :
  Calls Tryz.prog 111 #[.slice (some ⟨g, 0, none⟩) 2 2] w fun e w' => e = .returned (.bool (decide (1024 < (toW (val xs)).length) || decide (1024 < (toW (val ys)).length))) ∧ w = w' := by
 have h : Args w g [(A, c, xs), (B, d, ys)] := ⟨World.block_lt_of_cell? w _ hc, fun j A' c' xs' hj => by
  match j with
  | 0 => simp at hj; obtain ⟨rfl, rfl, rfl⟩ := hj; exact ⟨hc, hs⟩
  | 1 => simp at hj; obtain ⟨rfl, rfl, rfl⟩ := hj; exact ⟨hd, ht⟩
  | j + 2 => simp at hj⟩
 have := kE w g _ h (by simp)
 simpa using this
theorem Px (z x s : Nat) (hz : z < 2 ^ s) (hs : s < 64) (hx : x < WB) : bits .or .u64 (z : Int) (IntKind.u64.wrap ((x : Int) * 2 ^ s)) = ((z + x * 2 ^ s % WB : Nat) : Int) := by
 have hW : WB = 18446744073709551616 := rfl
 have e1 : IntKind.u64.wrap ((x : Int) * 2 ^ s) = ((x * 2 ^ s % WB : Nat) : Int) := by
  rw [IntKind.wrap_u64, Int.natCast_emod, Int.natCast_mul, Int.natCast_pow]
  rfl
 have h64 : (2 : Nat) ^ s ≤ 2 ^ 63 := Nat.pow_le_pow_right (by decide) (by omega)
 have hm : x * 2 ^ s % WB < 18446744073709551616 := Nat.mod_lt _ (by decide)
 rw [e1, u64_or_nat _ _ (by have : (2 : Nat) ^ 63 = 9223372036854775808 := rfl; omega) hm]
 congr 1
 have e : WB = 2 ^ (64 - s) * 2 ^ s := by rw [← Nat.pow_add, Nat.sub_add_cancel (by omega)]
 have h1 : x * 2 ^ s % WB = x % 2 ^ (64 - s) * 2 ^ s := by rw [e, Nat.mul_mod_mul_right]
 rw [h1, Nat.or_comm, Nat.mul_comm, ← Nat.two_pow_add_eq_or_of_lt hz, Nat.add_comm, Nat.mul_comm]
theorem D6 (x s : Nat) (hs : s ≤ 64) (hx : x < WB) : (x : Int) / 2 ^ (64 - s) = ((x * 2 ^ s / WB : Nat) : Int) := by
 have e : WB = 2 ^ (64 - s) * 2 ^ s := by rw [← Nat.pow_add, Nat.sub_add_cancel (by omega)]
 rw [e, Nat.mul_div_mul_right _ _ (Nat.two_pow_pos s), Int.natCast_ediv, Int.natCast_pow]
 rfl
theorem kK (w : World) (b n : Nat) (o : Obj) : setB (w.drewN n) b o = (setB w b o).drewN n := rfl
def Bj (w : World) (v : Nat) (e : Ending) (w' : World) : Prop := ∃ A c, e = .returned (.tuple #[.slice A (toW v).length c, .int .i64 0]) ∧ ku w.heap.size w' A c v ∧ Below w.heap.size w w'
set_option maxRecDepth 10000 in
set_option maxHeartbeats 1000000 in
theorem jK (w : World) (A : Option Addr) (c : Nat) (xs : List Nat) (h : Sl w A c xs) :
  Calls Tryz.prog 140 #[.slice A xs.length c] w (lK w (val xs)) := by
 have hcap := h.trim.cap
 have hsm := h.trim.small
 go_enter Tryz.func140, Tryz.ntmps140
 go_wp2_with (go_at_call 172; refine (jd _ _ _ _ (by assumption)).mono ?_; rintro e w1 ⟨g, rfl, hg, hr1, hb1⟩)
 go_ret
 exact ⟨_, _, rfl, ku.oh hr1 (kX _) hg (dI _) rfl (by omega), hb1⟩
set_option maxRecDepth 10000 in
set_option maxHeartbeats 1000000 in
theorem gY (w : World) (A B : Option Addr) (ca cb : Nat) (xs ys : List Nat) (hA : Sl w A ca xs) (hB : Sl w B cb ys) (hlA : xs.length ≤ 10000000000) (hlB : ys.length ≤ 10000000000)
  (h1 : (toW (val xs)).length ≤ 1024) (h2 : (toW (val ys)).length ≤ 1024) (h3 : (toW (val xs * val ys)).length ≤ 1024) :
  Calls Tryz.prog 61 #[.slice A xs.length ca, .slice B ys.length cb] w (Bj w (val xs * val ys)) := by
 have hd1 : decide (1024 < (toW (val xs)).length) = false := by simp; omega
 have hd2 : decide (1024 < (toW (val ys)).length) = false := by simp; omega
 have hd3 : decide (1024 < (toW (val xs * val ys)).length) = false := by simp; omega
 have hg1 := zC (w.alloc (.cells #[.slice A xs.length ca, .slice B ys.length cb] 73)) w.heap.size A ca xs B cb ys (by simp) (hA.alloc _) (by simp) (hB.alloc _)
 have hpr := oK (w.alloc (.cells #[.slice A xs.length ca, .slice B ys.length cb] 73)) A B ca cb xs ys (hA.alloc _) (hB.alloc _) hlA hlB
 rw [hd1, hd2] at hg1
 clear hd1 hd2 h1 h2
 go_enter Tryz.func61, Tryz.ntmps61
 go_wp2_with fail
 refine hg1.mono ?_
 rintro e w' ⟨rfl, rfl⟩
 go_wp2_with fail
 refine hpr.mono ?_
 rintro e w1 ⟨A1, c1, rfl, hs1, hb1⟩
 have hg2 := mG (w1.alloc (.cells #[.slice A1 (toW (val xs * val ys)).length c1] 73)) w1.heap.size A1 c1 _ (by simp) (hs1.sl.alloc _)
 rw [dI, hd3] at hg2
 go_wp2_with fail
 refine hg2.mono ?_
 rintro e w' ⟨rfl, rfl⟩
 go_wp2
 go_ret2
 exact ⟨_, _, rfl, (hs1.alloc _).lower (by simp), (((Below.refl _ _).alloc (Nat.le_refl _) _).trans (hb1.mono (by simp))).alloc (by have := hb1.size; simp at this; omega) _⟩
set_option maxRecDepth 10000 in
set_option maxHeartbeats 1000000 in
theorem CW (w : World) (A : Option Addr) (c : Nat) (xs : List Nat) (h : Sl w A c xs) (q s : Nat) (hl : xs.length ≤ 10000000000) (hqn : q ≤ 10000000000) (hsn : s < 64) (hne : (toW (val xs)).length ≠ 0) :
  Calls Tryz.prog 171 #[.slice A xs.length c, .int .i64 (64 * (q : Int) + s)] w (lK w (val xs * 2 ^ (64 * q + s))) := by
 have hnA := eu h.wd
 have h00 : ((((toW (val xs)).length : Nat) : Int) == 0) = false := by simp only [beq_eq_false_iff_ne, ne_eq]; omega
 have hq : (64 * (q : Int) + s) / 64 = q := by omega
 have hs : (64 * (q : Int) + s) % 64 = s := by omega
 have hmk := oJ (q + (toW (val xs)).length + 1) (by omega)
 simp only [Int.natCast_add, Int.natCast_one] at hmk
 have hr0 := Row.new w (List.replicate (q + (toW (val xs)).length + 1) 0)
 have HT := Lib.hid h.trim
 go_enter Tryz.func171, Tryz.ntmps171
 go_wp2_with (first
  | (go_at_call 112; refine (cZ _ _ _ _ (by assumption)).mono ?_; rintro e w' ⟨rfl, rfl⟩))
 simp only [hq, hs]
 have hb0 : Below w.heap.size w (w.alloc (.cells (cO (List.replicate (q + (toW (val xs)).length + 1) 0)) 22)) := (Below.refl _ _).alloc (Nat.le_refl _) _
 generalize hW1 : w.alloc (.cells (cO (List.replicate (q + (toW (val xs)).length + 1) 0)) 22) = w1 at *
 have hg1 : w.heap.size < w1.heap.size := hr0.lt
 have HA1 := Lib.hid (HT.out.nw.below hb0)
 have HAW := Lib.hid HT.out.wd
 have HR1 := Lib.hid hr0
 have HSELF := Lib.hid (lJ hr0)
 have HB0 := Lib.hid hb0
 clear hr0 hmk hW1 h hb0 hq hs
 go_loopw [27] (fun t wr => ∃ (k n : Nat) (zs : List Nat), t = .int .i64 k ∧ k ≤ (toW (val xs)).length ∧ o_ (toW (val xs)) q s k zs ∧ Hid (wr = (setB w1 w.heap.size (.cells (cO zs) 22 (0, 0))).drewN n)) (fun t _ => (toW (val xs)).length - (intOf t).toNat)
 case atStart => exact ⟨0, 0, _, rfl, Nat.zero_le _, o_.start _ q s, Lib.hid HSELF.out.symm⟩
 case round =>
  obtain ⟨i, n, zs, rfl, hi, hinv, hwr⟩ := hrel
  have hrow : Row wr w.heap.size zs := by rw [hwr.out]; exact HR1.out.setB
  have HWN : Hid (∀ b o, b < w.heap.size → wr.cell? ⟨b, o, none⟩ = w1.cell? ⟨b, o, none⟩) := Lib.hid fun b o hb => by
   rw [hwr.out]
   exact World.cell?_of_block (w := w1) (jY (by show b ≠ w.heap.size; omega))
  by_cases hlt : i < (toW (val xs)).length
  ·obtain ⟨b2, o2, rfl, hb2, hc2⟩ := HA1.out.at_ hlt
   have hcell : wr.cell? ⟨b2, o2 + i, none⟩ = some (.int .u64 (((toW (val xs)).getD i 0 : Nat) : Int)) := (HWN.out b2 _ hb2).trans hc2
   have hcz : wr.cell? ⟨w.heap.size, q + i, none⟩ = some (.int .u64 ((zs.getD (q + i) 0 : Nat) : Int)) := hrow.cell (by rw [hinv.len]; omega)
   have hcz1 : wr.cell? ⟨w.heap.size, q + i + 1, none⟩ = some (.int .u64 ((zs.getD (q + i + 1) 0 : Nat) : Int)) := hrow.cell (by rw [hinv.len]; omega)
   have hfz : wr.frozen? ⟨w.heap.size, q + i, none⟩ = false := hrow.frozen _
   have hfz1 : wr.frozen? ⟨w.heap.size, q + i + 1, none⟩ = false := hrow.frozen _
   have hxw := HAW.out.get i
   have hzw := hinv.wd.get (q + i)
   have HTOP := Lib.hid hinv.top
   have HROW : ∀ k, Hid (Row (wr.drewN k) w.heap.size zs) := fun k => Lib.hid hrow
   have HNEXT := Lib.hid (hinv.step hlt HAW.out hsn (FV hinv.top hsn))
   have hq1 : (q : Int) + i < q + (toW (val xs)).length + 1 := by omega
   generalize hxi : (toW (val xs)).getD i 0 = x at *
   generalize hzi : zs.getD (q + i) 0 = z at *
   clear hc2
   go_wp2
   have hw1 : IntKind.i64.wrap ((q : Int) + i) = (q : Int) + i := IntWalk.i64_in _ (by omega)
   have hw2 : (0 : Int) ≤ (q : Int) + i := by omega
   have hw3 : ((q : Int) + i).toNat = q + i := by omega
   refine oL 11 (by kernel_rfl) (by kernel_rfl) ?_
   simp only [List.take_succ_cons, List.take_zero, List.drop_succ_cons, List.drop_zero]
   repeat (quiet_step (fail))
   refine wpQuiet_nil ?_
   rintro _ ⟨nq, rfl⟩
   clear hw1 hw2 hw3
   go_wp2
   rw [Px z x s HTOP.out hsn hxw, D6 x s (by omega) hxw]
   go_roundw
   case rel => exact ⟨i + 1, n + nq, _, by go_num, by omega, HNEXT.out, Lib.hid (by rw [(HROW nq).out.set, ((HROW nq).out.setB).set, iL, hwr.out]; simp only [kK, iL, World.drewN_drewN])⟩
   case measure => simp only [intOf]; omega
  ·obtain rfl : i = (toW (val xs)).length := by omega
   have hval := hinv.done
   rw [dI] at hval
   have hzl := hinv.len
   have hsl2 : Sl wr (some ⟨w.heap.size, 0, none⟩) (q + (toW (val xs)).length + 1) zs := hrow.sl hinv.wd (by omega) (by omega)
   have htr := cZ _ _ _ _ hsl2
   have hres := Lib.hid (ku.oh (B := w.heap.size) hrow hinv.wd (Nat.le_refl _) hval hzl (by omega))
   rw [hval] at htr
   rw [hzl] at htr
   clear hval hzl hsl2 hinv hrow
   go_wp2_with (go_at_call 112; refine htr.mono ?_; rintro e w' ⟨rfl, rfl⟩)
   go_ret
   exact ⟨_, _, rfl, hres.out, by rw [hwr.out]; exact below_drewN (kJ HB0.out (Nat.le_refl _) _) _⟩
theorem zD (w : World) (A : Option Addr) (c : Nat) (xs : List Nat) (h : Sl w A c xs) (n : Nat) (hl : xs.length ≤ 10000000000) (hn : n ≤ 10000000000) :
  Calls Tryz.prog 171 #[.slice A xs.length c, .int .i64 (n : Int)] w (lK w (val xs * 2 ^ n)) := by
 by_cases h0 : (toW (val xs)).length = 0
 ·have hv : val xs = 0 := (o7 _).1 h0
  have h00 : ((((toW (val xs)).length : Nat) : Int) == 0) = true := by simp [hv, jv]
  have hfin : toW (val xs * 2 ^ n) = [] := by rw [hv, Nat.zero_mul, jv]
  have HF := Lib.hid hfin
  clear hfin hv h0
  go_enter Tryz.func171, Tryz.ntmps171
  go_wp2_with (first
   | (go_at_call 112; refine (cZ _ _ _ _ (by assumption)).mono ?_; rintro e w' ⟨rfl, rfl⟩))
  go_ret
  refine ⟨none, 0, oZ ?_, ?_, Below.refl _ _⟩
  ·rw [HF.out]; rfl
  ·exact ku.zero HF.out
 ·have := CW w A c xs h (n / 64) (n % 64) hl (by omega) (Nat.mod_lt _ (by decide)) h0
  have e : 64 * (n / 64) + n % 64 = n := Nat.div_add_mod n 64
  have e2 : (64 * ((n / 64 : Nat) : Int) + ((n % 64 : Nat) : Int)) = (n : Int) := by omega
  rw [e, e2] at this
  exact this
end Go.Proofs.YtafikkmnkeddpaaGreatDoor
namespace Go.Proofs.YtafikkmnkeddpaaGreatDoor
open Go.RowKit
theorem zF (x y r s : Nat) (hx : x < WB) (hs : s < 64) : (x + WB * (y + WB * r)) / 2 ^ s % WB = x / 2 ^ s + y * 2 ^ (64 - s) % WB := by
 have e : WB = 2 ^ (64 - s) * 2 ^ s := by rw [← Nat.pow_add, Nat.sub_add_cancel (by omega)]
 have hp := Nat.two_pow_pos s
 have h1 : (x + WB * (y + WB * r)) / 2 ^ s = x / 2 ^ s + 2 ^ (64 - s) * (y + WB * r) := by
  rw [show WB * (y + WB * r) = 2 ^ s * (2 ^ (64 - s) * (y + WB * r)) by rw [← Nat.mul_assoc, Nat.mul_comm (2 ^ s), ← e], Nat.add_mul_div_left _ _ hp]
 have h2 : x / 2 ^ s < 2 ^ (64 - s) := Nat.div_lt_of_lt_mul (by rw [Nat.mul_comm, ← e]; exact hx)
 have h3 : y * 2 ^ (64 - s) % WB = y % 2 ^ s * 2 ^ (64 - s) := by rw [e, Nat.mul_comm (2 ^ (64 - s)) (2 ^ s), Nat.mul_mod_mul_right]
 have h4 : y % 2 ^ s < 2 ^ s := Nat.mod_lt _ hp
 have h5 := Nat.mul_le_mul_right (2 ^ (64 - s)) h4
 rw [Nat.succ_mul, Nat.mul_comm (2 ^ s), ← e] at h5
 rw [h1, h3]
 have h6 : x / 2 ^ s + 2 ^ (64 - s) * (y + WB * r) = x / 2 ^ s + y % 2 ^ s * 2 ^ (64 - s) + WB * (y / 2 ^ s + 2 ^ (64 - s) * r) := by
  have := Nat.div_add_mod y (2 ^ s)
  have e7 : 2 ^ (64 - s) * y = WB * (y / 2 ^ s) + y % 2 ^ s * 2 ^ (64 - s) := by
   conv => lhs; rw [← this]
   rw [Nat.mul_add, ← Nat.mul_assoc, ← e, Nat.mul_comm (2 ^ (64 - s)) (y % 2 ^ s)]
  rw [Nat.mul_add, e7, Nat.mul_add, Nat.mul_left_comm (2 ^ (64 - s)) WB r]
  omega
 rw [h6, Nat.add_mul_mod_self_left, Nat.mod_eq_of_lt (by omega)]
theorem qy (xs : List Nat) (k : Nat) : val (xs.drop k) = xs.getD k 0 + WB * val (xs.drop (k + 1)) := by
 by_cases h : k < xs.length
 ·rw [List.drop_eq_getElem_cons h, List.getD_eq_getElem?_getD, List.getElem?_eq_getElem h]; rfl
 ·rw [List.drop_of_length_le (by omega), List.drop_of_length_le (by omega), List.getD_eq_getElem?_getD, List.getElem?_eq_none (by omega)]; rfl
theorem xE {xs : List Nat} (h : Wd xs) (k : Nat) : val xs / WB ^ k = val (xs.drop k) := by
 rw [kZ xs k, Nat.add_mul_div_left _ _ (Nat.pow_pos (by decide))]
 have := oO (h.take k)
 have h2 : WB ^ (xs.take k).length ≤ WB ^ k := Nat.pow_le_pow_right (by decide) (List.length_take_le _ _)
 rw [Nat.div_eq_of_lt (by omega)]
 omega
structure mJ (xs : List Nat) (q s i : Nat) (zs : List Nat) : Prop where
 len : zs.length = xs.length - q
 wd : Wd zs
 eq : val (zs.take i) = val xs / 2 ^ (64 * q + s) % WB ^ i
theorem mJ.start (xs : List Nat) (q s : Nat) : mJ xs q s 0 (List.replicate (xs.length - q) 0) := ⟨by simp, Wd.replicate _, by simp [val, Nat.mod_one]⟩
theorem Bl (v q s i : Nat) : v / 2 ^ (64 * q + s) / WB ^ i = v / WB ^ (q + i) / 2 ^ s := by
 rw [show WB = 2 ^ 64 from rfl, ← Nat.pow_mul, ← Nat.pow_mul, Nat.div_div_eq_div_mul, Nat.div_div_eq_div_mul, ← Nat.pow_add, ← Nat.pow_add]
 congr 2
 omega
theorem mJ.step {xs zs : List Nat} {q s i : Nat} (h : mJ xs q s i zs) (hx : Wd xs) (hs : s < 64) (hi : i < xs.length - q) (hw : xs.getD (q + i) 0 / 2 ^ s + xs.getD (q + i + 1) 0 * 2 ^ (64 - s) % WB < WB) :
  mJ xs q s (i + 1) (zs.set i (xs.getD (q + i) 0 / 2 ^ s + xs.getD (q + i + 1) 0 * 2 ^ (64 - s) % WB)) := by
 refine ⟨by rw [List.length_set, h.len], h.wd.set _ _ hw, ?_⟩
 rw [jD _ _ _ (by rw [h.len]; exact hi), h.eq, Nat.mod_pow_succ, Bl, xE hx, qy, qy xs (q + i + 1), zF _ _ _ _ (hx.get _) hs]
theorem uG {x y s : Nat} (hx : x < WB) (hs : s < 64) : x / 2 ^ s + y * 2 ^ (64 - s) % WB < WB := by
 rw [← zF x y 0 s hx hs]
 exact Nat.mod_lt _ (by decide)
theorem mJ.done {xs zs : List Nat} {q s : Nat} (hx : Wd xs) (h : mJ xs q s (xs.length - q) zs) : val zs = val xs / 2 ^ (64 * q + s) := by
 have := h.eq
 rw [iI _ (by rw [h.len]; exact Nat.le_refl _)] at this
 rw [this]
 refine Nat.mod_eq_of_lt ?_
 have h1 := Bl (val xs) q s 0
 simp only [Nat.pow_zero, Nat.div_one, Nat.add_zero] at h1
 rw [h1, xE hx]
 have h2 := oO (hx.drop q)
 rw [List.length_drop] at h2
 exact Nat.lt_of_le_of_lt (Nat.div_le_self _ _) h2
theorem yj (x s : Nat) : (x : Int) / 2 ^ s = ((x / 2 ^ s : Nat) : Int) := by rw [Int.natCast_ediv, Int.natCast_pow]; rfl
theorem IZ (x y s : Nat) (hx : x < WB) (hs : s < 64) : bits .or .u64 ((x / 2 ^ s : Nat) : Int) (IntKind.u64.wrap ((y : Int) * 2 ^ (64 - s))) = ((x / 2 ^ s + y * 2 ^ (64 - s) % WB : Nat) : Int) := by
 have e : WB = 2 ^ (64 - s) * 2 ^ s := by rw [← Nat.pow_add, Nat.sub_add_cancel (by omega)]
 have h2 : x / 2 ^ s < 2 ^ (64 - s) := Nat.div_lt_of_lt_mul (by rw [Nat.mul_comm, ← e]; exact hx)
 have e1 : IntKind.u64.wrap ((y : Int) * 2 ^ (64 - s)) = ((y * 2 ^ (64 - s) % WB : Nat) : Int) := by
  rw [IntKind.wrap_u64, Int.natCast_emod, Int.natCast_mul, Int.natCast_pow]
  rfl
 have h3 : y * 2 ^ (64 - s) % WB = y % 2 ^ s * 2 ^ (64 - s) := by rw [e, Nat.mul_comm (2 ^ (64 - s)) (2 ^ s), Nat.mul_mod_mul_right]
 have hm : y * 2 ^ (64 - s) % WB < 18446744073709551616 := Nat.mod_lt _ (by decide)
 have hx' : x / 2 ^ s < 18446744073709551616 := Nat.lt_of_le_of_lt (Nat.div_le_self _ _) hx
 rw [e1, u64_or_nat _ _ hx' hm]
 congr 1
 rw [h3, Nat.or_comm, Nat.mul_comm, ← Nat.two_pow_add_eq_or_of_lt h2, Nat.add_comm, Nat.mul_comm]
def zG (w : World) (v : Nat) (e : Ending) (w' : World) : Prop := ∃ A c, e = .returned (.slice A (toW v).length c) ∧ ku w.heap.size w' A c v ∧ Below w.heap.size w w' ∧
 (0 < (toW v).length → ∃ g zs, A = some ⟨g, 0, none⟩ ∧ w.heap.size ≤ g ∧ Row w' g zs ∧ Wd zs ∧ zs.take (toW v).length = toW v)
theorem zG.res {w : World} {v : Nat} {e : Ending} {w' : World} (h : zG w v e w') : lK w v e w' := by
 obtain ⟨A, c, h1, h2, h3, _⟩ := h
 exact ⟨A, c, h1, h2, h3⟩
set_option maxRecDepth 10000 in
set_option maxHeartbeats 1000000 in
theorem Aw (w : World) (A : Option Addr) (c : Nat) (xs : List Nat) (h : Sl w A c xs) (q s m : Nat) (hl : xs.length ≤ 10000000000) (hsn : s < 64) (hm : (toW (val xs)).length = q + m) (hm0 : 0 < m) :
  Calls Tryz.prog 229 #[.slice A xs.length c, .int .i64 (64 * (q : Int) + s)] w (zG w (val xs / 2 ^ (64 * q + s))) := by
 have hnA := eu h.wd
 have hq : (64 * (q : Int) + s) / 64 = q := by omega
 have hs : (64 * (q : Int) + s) % 64 = s := by omega
 have hge : ¬ (q + m ≤ q) := by omega
 have hsub : (q : Int) + m - q = m := by omega
 have hmk := oJ m (by omega)
 have hr0 := Row.new w (List.replicate m 0)
 have HT := Lib.hid h.trim
 have hcap := h.trim.cap
 have hcs := h.small
 have HM := Lib.hid hm
 have hqb : q ≤ 10000000000 := by omega
 have hmb : m ≤ 10000000000 := by omega
 go_enter Tryz.func229, Tryz.ntmps229
 go_wp2_with (first
  | (go_at_call 112; refine (cZ _ _ _ _ (by assumption)).mono ?_; rintro e w' ⟨rfl, rfl⟩))
 simp only [hq, hs]
 have hb0 : Below w.heap.size w (w.alloc (.cells (cO (List.replicate m 0)) 22)) := (Below.refl _ _).alloc (Nat.le_refl _) _
 generalize hW1 : w.alloc (.cells (cO (List.replicate m 0)) 22) = w1 at *
 have hg1 : w.heap.size < w1.heap.size := hr0.lt
 have HA1 := Lib.hid (HT.out.nw.below hb0)
 have HAW := Lib.hid HT.out.wd
 have HR1 := Lib.hid hr0
 have HSELF := Lib.hid (lJ hr0)
 have HB0 := Lib.hid hb0
 have HST : Hid (mJ (toW (val xs)) q s 0 (List.replicate m 0)) := Lib.hid (by
  have := mJ.start (toW (val xs)) q s
  rwa [HM.out, Nat.add_sub_cancel_left] at this)
 clear hr0 hmk hW1 h hb0 hq hs hm hge hsub
 go_loopw [26] (fun t wr => ∃ (k n : Nat) (zs : List Nat), t = .int .i64 k ∧ k ≤ m ∧ mJ (toW (val xs)) q s k zs ∧ Hid (wr = (setB w1 w.heap.size (.cells (cO zs) 22 (0, 0))).drewN n)) (fun t _ => m - (intOf t).toNat)
 case atStart => exact ⟨0, 0, _, rfl, Nat.zero_le _, HST.out, Lib.hid HSELF.out.symm⟩
 case round =>
  obtain ⟨i, n, zs, rfl, hi, hinv, hwr⟩ := hrel
  have hrow : Row wr w.heap.size zs := by rw [hwr.out]; exact HR1.out.setB
  have HWN : Hid (∀ b o, b < w.heap.size → wr.cell? ⟨b, o, none⟩ = w1.cell? ⟨b, o, none⟩) := Lib.hid fun b o hb => by
   rw [hwr.out]
   exact World.cell?_of_block (w := w1) (jY (by show b ≠ w.heap.size; omega))
  have hzl : Hid (zs.length = m) := Lib.hid (by rw [hinv.len, HM.out]; omega)
  by_cases hlt : i < m
  ·obtain ⟨b2, o2, rfl, hb2, hc2⟩ := HA1.out.at_ (k := q + i) (by rw [HM.out]; omega)
   have hcell : wr.cell? ⟨b2, o2 + (q + i), none⟩ = some (.int .u64 (((toW (val xs)).getD (q + i) 0 : Nat) : Int)) := (HWN.out b2 _ hb2).trans hc2
   have hcz : wr.cell? ⟨w.heap.size, i, none⟩ = some (.int .u64 ((zs.getD i 0 : Nat) : Int)) := hrow.cell (by rw [hzl.out]; omega)
   have hfz : wr.frozen? ⟨w.heap.size, i, none⟩ = false := hrow.frozen _
   have hxw := HAW.out.get (q + i)
   have hneg : ¬ ((64 : Int) - s < 0) := by omega
   have hneg2 : ¬ ((s : Int) < 0) := by omega
   have HROW : ∀ k, Hid (Row (wr.drewN k) w.heap.size zs) := fun k => Lib.hid hrow
   by_cases hmore : i + 1 < m
   ·obtain ⟨b3, o3, hA3, hb3, hc3⟩ := HA1.out.at_ (k := q + i + 1) (by rw [HM.out]; omega)
    obtain ⟨rfl, rfl⟩ : b3 = b2 ∧ o3 = o2 := by simp at hA3; exact ⟨hA3.1.symm, hA3.2.symm⟩
    have hcell3 : wr.cell? ⟨b3, o3 + (q + i + 1), none⟩ = some (.int .u64 (((toW (val xs)).getD (q + i + 1) 0 : Nat) : Int)) := (HWN.out b3 _ hb3).trans hc3
    have HNEXT := Lib.hid (hinv.step HAW.out hsn (by rw [HM.out]; omega) (uG hxw hsn))
    have hyw := HAW.out.get (q + i + 1)
    have hrow1 : Row (setB wr w.heap.size (.cells (cO (zs.set i ((toW (val xs)).getD (q + i) 0 / 2 ^ s))) 22 (0, 0))) w.heap.size (zs.set i ((toW (val xs)).getD (q + i) 0 / 2 ^ s)) := hrow.setB
    generalize hxi : (toW (val xs)).getD (q + i) 0 = x at *
    generalize hyi : (toW (val xs)).getD (q + i + 1) 0 = y at *
    have hk1 : (setB wr w.heap.size (.cells (cO (zs.set i (x / 2 ^ s))) 22 (0, 0))).cell? ⟨w.heap.size, i, none⟩ = some (.int .u64 ((x / 2 ^ s : Nat) : Int)) := by
     rw [hrow1.cell (by rw [List.length_set, hzl.out]; omega), kR _ _ _ (by rw [hzl.out]; omega)]
    have hk2 : (setB wr w.heap.size (.cells (cO (zs.set i (x / 2 ^ s))) 22 (0, 0))).cell? ⟨b3, o3 + (q + i + 1), none⟩ = some (.int .u64 (y : Int)) :=
     (World.cell?_of_block (w := wr) (jY (by show b3 ≠ w.heap.size; omega))).trans hcell3
    have hk3 : (setB wr w.heap.size (.cells (cO (zs.set i (x / 2 ^ s))) 22 (0, 0))).frozen? ⟨w.heap.size, i, none⟩ = false := hrow1.frozen _
    have HR1' := Lib.hid hrow1
    have HSET := Lib.hid (hrow.set i (x / 2 ^ s))
    clear hc2 hc3 hA3 hcell3 hrow1 hxi hyi
    go_wp2_with fail
    rw [yj x s, HSET.out]
    generalize hW2 : setB wr w.heap.size (.cells (cO (zs.set i (x / 2 ^ s))) 22 (0, 0)) = w2 at *
    have HW2 := Lib.hid hW2
    clear hW2
    have hw1 : IntKind.i64.wrap ((q : Int) + i) = (q : Int) + i := IntWalk.i64_in _ (by omega)
    have hw2 : IntKind.i64.wrap ((q : Int) + i + 1) = (q : Int) + i + 1 := IntWalk.i64_in _ (by omega)
    have hw3 : IntKind.i64.wrap ((64 : Int) - s) = (64 : Int) - s := IntWalk.i64_in _ (by omega)
    have hw4 : (0 : Int) ≤ (q : Int) + i + 1 := by omega
    have hw5 : ((q : Int) + i + 1).toNat = q + i + 1 := by omega
    have hw6 : (0 : Int) ≤ (64 : Int) - s := by omega
    have hw7 : (q : Int) + i + 1 < q + m := by omega
    refine oL 16 (by kernel_rfl) (by kernel_rfl) ?_
    simp only [List.take_succ_cons, List.take_zero, List.drop_succ_cons, List.drop_zero]
    repeat (quiet_step (fail))
    refine wpQuiet_nil ?_
    rintro _ ⟨nq, rfl⟩
    clear hw1 hw2 hw3 hw4 hw5 hw6 hw7
    go_wp2
    rw [yj x s, IZ x y s hxw hsn]
    go_roundw
    case rel => exact ⟨i + 1, n + nq, _, by go_num, by omega, HNEXT.out, Lib.hid (by
     have hr : Row (w2.drewN nq) w.heap.size (zs.set i (x / 2 ^ s)) := HR1'.out
     rw [hr.set, ← HW2.out, List.set_set, hwr.out]; simp only [kK, iL, World.drewN_drewN])⟩
    case measure => simp only [intOf]; omega
   ·have hy0 : (toW (val xs)).getD (q + i + 1) 0 = 0 := by rw [List.getD_eq_getElem?_getD, List.getElem?_eq_none (by rw [HM.out]; omega)]; rfl
    have hnx := hinv.step HAW.out hsn (by rw [HM.out]; omega) (uG hxw hsn)
    simp only [hy0, Nat.zero_mul, Nat.zero_mod, Nat.add_zero] at hnx
    have HNEXT := Lib.hid hnx
    generalize hxi : (toW (val xs)).getD (q + i) 0 = x at *
    have HSET := Lib.hid (hrow.set i (x / 2 ^ s))
    have hend : i + 1 = m := by omega
    have hnm : ¬ ((q : Int) + i + 1 < q + m) := by omega
    clear hc2 hxi hy0 hnx hend
    go_wp2_with fail
    rw [yj x s, HSET.out]
    go_wp2
    go_roundw
    case rel => exact ⟨i + 1, n, _, by go_num, by omega, HNEXT.out, Lib.hid (by rw [hwr.out]; simp only [kK, iL])⟩
    case measure => simp only [intOf]; omega
  ·obtain rfl : i = m := by omega
   have hi2 : mJ (toW (val xs)) q s ((toW (val xs)).length - q) zs := by rw [HM.out, Nat.add_sub_cancel_left]; exact hinv
   have hval := hi2.done HAW.out
   rw [dI] at hval
   have hsl2 : Sl wr (some ⟨w.heap.size, 0, none⟩) i zs := hrow.sl hinv.wd (by rw [hzl.out]; omega) (by omega)
   have htr := cZ _ _ _ _ hsl2
   have hres := Lib.hid (ku.oh (B := w.heap.size) hrow hinv.wd (Nat.le_refl _) hval hzl.out (by omega))
   have HRW := Lib.hid (show Row wr w.heap.size zs ∧ Wd zs ∧ toW (val xs / 2 ^ (64 * q + s)) = zs.take (toW (val xs / 2 ^ (64 * q + s))).length from ⟨hrow, hinv.wd, by rw [← hval]; exact qI hinv.wd⟩)
   rw [hval] at htr
   rw [hzl.out] at htr
   clear hval hsl2 hinv hrow hi2
   go_wp2_with (go_at_call 112; refine htr.mono ?_; rintro e w' ⟨rfl, rfl⟩)
   go_ret
   exact ⟨_, _, rfl, hres.out, by rw [hwr.out]; exact below_drewN (kJ HB0.out (Nat.le_refl _) _) _, fun _ => ⟨_, zs, rfl, Nat.le_refl _, HRW.out.1, HRW.out.2.1, HRW.out.2.2.symm⟩⟩
set_option maxRecDepth 10000 in
set_option maxHeartbeats 1000000 in
theorem Az (w : World) (A : Option Addr) (c : Nat) (xs : List Nat) (h : Sl w A c xs) (q s : Nat) (hqb : q ≤ 100000000000000) (hsn : s < 64) (hge : (toW (val xs)).length ≤ q) :
  Calls Tryz.prog 229 #[.slice A xs.length c, .int .i64 (64 * (q : Int) + s)] w (zG w (val xs / 2 ^ (64 * q + s))) := by
 have hq : (64 * (q : Int) + s) / 64 = q := by omega
 have hs : (64 * (q : Int) + s) % 64 = s := by omega
 have hv : val xs / 2 ^ (64 * q + s) = 0 := by
  refine Nat.div_eq_of_lt ?_
  have h1 := nV (val xs)
  have h2 : WB ^ (toW (val xs)).length ≤ WB ^ q := Nat.pow_le_pow_right (by decide) hge
  have h3 : WB ^ q ≤ 2 ^ (64 * q + s) := by rw [show WB = 2 ^ 64 from rfl, ← Nat.pow_mul]; exact Nat.pow_le_pow_right (by decide) (by omega)
  omega
 have HF := Lib.hid (show toW (val xs / 2 ^ (64 * q + s)) = [] by rw [hv, jv])
 clear hv
 go_enter Tryz.func229, Tryz.ntmps229
 go_wp2_with (first
  | (go_at_call 112; refine (cZ _ _ _ _ (by assumption)).mono ?_; rintro e w' ⟨rfl, rfl⟩))
 go_ret
 refine ⟨none, 0, oZ ?_, ?_, Below.refl _ _, fun h0 => ?_⟩
 ·rw [HF.out]; rfl
 ·exact ku.zero HF.out
 ·rw [HF.out] at h0; simp at h0
theorem uH (w : World) (A : Option Addr) (c : Nat) (xs : List Nat) (h : Sl w A c xs) (n : Nat) (hl : xs.length ≤ 10000000000) (hn : n ≤ 100000000000000) :
  Calls Tryz.prog 229 #[.slice A xs.length c, .int .i64 (n : Int)] w (zG w (val xs / 2 ^ n)) := by
 have e : 64 * (n / 64) + n % 64 = n := Nat.div_add_mod n 64
 have e2 : (64 * ((n / 64 : Nat) : Int) + ((n % 64 : Nat) : Int)) = (n : Int) := by omega
 by_cases h0 : (toW (val xs)).length ≤ n / 64
 ·have := Az w A c xs h (n / 64) (n % 64) (by omega) (Nat.mod_lt _ (by decide)) h0
  rwa [e, e2] at this
 ·have := Aw w A c xs h (n / 64) (n % 64) ((toW (val xs)).length - n / 64) hl (Nat.mod_lt _ (by decide)) (by omega) (by omega)
  rwa [e, e2] at this
theorem Bo (w : World) (A : Option Addr) (c : Nat) (xs : List Nat) (h : Sl w A c xs) (n : Nat) (hl : xs.length ≤ 10000000000) (hn : n ≤ 100000000000000) :
  Calls Tryz.prog 229 #[.slice A xs.length c, .int .i64 (n : Int)] w (lK w (val xs / 2 ^ n)) :=
 (uH w A c xs h n hl hn).mono fun _ _ h => h.res
set_option maxRecDepth 10000 in
set_option maxHeartbeats 1000000 in
theorem lu (w : World) (A : Option Addr) (c : Nat) (xs : List Nat) (h : Sl w A c xs) (n : Nat) (hl : xs.length ≤ 10000000000) (hn : n ≤ 100000000000000) :
  Calls Tryz.prog 250 #[.slice A xs.length c, .int .i64 (n : Int)] w (Bj w (val xs / 2 ^ n)) := by
 have hr := Bo w A c xs h n hl hn
 go_enter Tryz.func250, Tryz.ntmps250
 go_wp2_with (go_at_call 229; refine hr.mono ?_; rintro e w1 ⟨A1, c1, rfl, hs1, hb1⟩)
 go_ret2
 exact ⟨_, _, rfl, hs1, hb1⟩
set_option maxRecDepth 10000 in
set_option maxHeartbeats 1000000 in
theorem fA (w : World) (A : Option Addr) (c : Nat) (xs : List Nat) (h : Sl w A c xs) (n : Nat) (hl : xs.length ≤ 10000000000) (hn : n ≤ 65536)
  (h1 : (toW (val xs)).length ≤ 1024) (h2 : (toW (val xs * 2 ^ n)).length ≤ 1024) :
  Calls Tryz.prog 89 #[.slice A xs.length c, .int .i64 (n : Int)] w (Bj w (val xs * 2 ^ n)) := by
 have hd1 : decide (1024 < (toW (val xs)).length) = false := by simp; omega
 have hd3 : decide (1024 < (toW (val xs * 2 ^ n)).length) = false := by simp; omega
 have hg1 := mG (w.alloc (.cells #[.slice A xs.length c] 73)) w.heap.size A c xs (by simp) (h.alloc _)
 have hpr := zD (w.alloc (.cells #[.slice A xs.length c] 73)) A c xs (h.alloc _) n hl (by omega)
 rw [hd1] at hg1
 clear hd1 h1 h2
 go_enter Tryz.func89, Tryz.ntmps89
 go_wp2_with fail
 refine hg1.mono ?_
 rintro e w' ⟨rfl, rfl⟩
 go_wp2_with fail
 refine hpr.mono ?_
 rintro e w1 ⟨A1, c1, rfl, hs1, hb1⟩
 have hg2 := mG (w1.alloc (.cells #[.slice A1 (toW (val xs * 2 ^ n)).length c1] 73)) w1.heap.size A1 c1 _ (by simp) (hs1.sl.alloc _)
 rw [dI, hd3] at hg2
 go_wp2_with fail
 refine hg2.mono ?_
 rintro e w' ⟨rfl, rfl⟩
 go_wp2
 go_ret2
 exact ⟨_, _, rfl, (hs1.alloc _).lower (by simp), (((Below.refl _ _).alloc (Nat.le_refl _) _).trans (hb1.mono (by simp))).alloc (by have := hb1.size; simp at this; omega) _⟩
end Go.Proofs.YtafikkmnkeddpaaGreatDoor
namespace Go.Proofs.YtafikkmnkeddpaaGreatDoor
open Go.RowKit
def yH (w : World) (q r : Nat) (e : Ending) (w' : World) : Prop := e = .returned (.tuple #[.int .u64 (q : Int), .int .u64 (r : Int)]) ∧ ∃ n, w' = w.drewN n
theorem mV (n : Nat) : IntKind.u64.wrap (n : Int) = ((n % WB : Nat) : Int) := by rw [IntKind.wrap_u64]; rfl
theorem Jz (n : Nat) (h : n < WB) : bits .and .u64 (n : Int) 4294967295 = ((n % 4294967296 : Nat) : Int) := by
 rw [u64_and _ _ (by omega) (by show (n : Int) < 18446744073709551616; have : n < 18446744073709551616 := h; omega) (by omega) (by omega)]
 have := Nat.and_two_pow_sub_one_eq_mod n 32
 rw [show (4294967295 : Int).toNat = 2 ^ 32 - 1 from rfl, Int.toNat_natCast, this]
theorem or_hi (hi c s : Nat) (hc : c < 2 ^ s) (hH : hi * 2 ^ s < WB) (hs : s < 64) : bits .or .u64 ((hi * 2 ^ s : Nat) : Int) (c : Int) = ((hi * 2 ^ s + c : Nat) : Int) := by
 have hm : c < WB := Nat.lt_of_lt_of_le hc (show 2 ^ s ≤ 2 ^ 64 from Nat.pow_le_pow_right (by decide) (by omega))
 rw [u64_or_nat _ _ hH hm]
 have := Nat.two_pow_add_eq_or_of_lt hc hi
 rw [Nat.mul_comm hi, this]
set_option maxHeartbeats 1000000 in
theorem MN (lo y : Nat) (hy : 0 < y) (hy2 : y < 18446744073709551616) (hlo : lo < 18446744073709551616) (w : World) :
  Calls Tryz.prog 221 #[.int .u64 0, .int .u64 (lo : Int), .int .u64 (y : Int)] w (yH w (lo / y) (lo % y)) := by
 have h1 : ((y : Int) == 0) = false := by rw [beq_eq_false_iff_ne]; omega
 have h2 : ¬ ((y : Int) ≤ 0) := by omega
 have h3 : ¬ ((y : Int) = 0) := by omega
 have hq := Lib.hid (show IntKind.u64.wrap ((lo : Int) / y) = ((lo / y : Nat) : Int) by
  rw [← Int.natCast_ediv]
  rw [mV, Nat.mod_eq_of_lt (Nat.lt_of_le_of_lt (Nat.div_le_self lo y) hlo)])
 go_enter Tryz.func221, Tryz.ntmps221
 go_wp2
 go_quiet (fail)
 go_wp2
 go_ret2
 exact ⟨FB (pO hq.out) (pO (by simp)), _, rfl⟩
theorem Iy (u y k : Nat) (hk : 0 < k) : u * k / (y * k) = u / y ∧ u * k % (y * k) = u % y * k :=
 ⟨Nat.mul_div_mul_right _ _ hk, Nat.mul_mod_mul_right _ _ _⟩
theorem JA {hi lo y s : Nat} (hy : hi < y) (hlo : lo < WB) (hy2 : y < WB) (hs : dB y + s = 64) :
  y * 2 ^ s < WB ∧ 9223372036854775808 ≤ y * 2 ^ s ∧ hi * 2 ^ s + lo * 2 ^ s / WB < y * 2 ^ s ∧ lo * 2 ^ s / WB < 2 ^ s ∧ s < 64 ∧
  (hi * WB + lo) / y = ((hi * 2 ^ s + lo * 2 ^ s / WB) * WB + lo * 2 ^ s % WB) / (y * 2 ^ s) ∧
  (hi * WB + lo) % y = ((hi * 2 ^ s + lo * 2 ^ s / WB) * WB + lo * 2 ^ s % WB) % (y * 2 ^ s) / 2 ^ s := by
 have hp := Nat.two_pow_pos s
 have hy0 : y ≠ 0 := by omega
 have hb1 : 1 ≤ dB y := by rw [lC hy0]; omega
 have e64 : WB = 2 ^ dB y * 2 ^ s := by rw [← Nat.pow_add, hs]
 have e63 : 9223372036854775808 = 2 ^ (dB y - 1) * 2 ^ s := by rw [← Nat.pow_add, show dB y - 1 + s = 63 by omega]
 have h1 : y * 2 ^ s < WB := by rw [e64]; exact Nat.mul_lt_mul_of_pos_right (kP y) hp
 have h2 : 9223372036854775808 ≤ y * 2 ^ s := by rw [e63]; exact Nat.mul_le_mul_right _ (oG hy0)
 have h4 : lo * 2 ^ s / WB < 2 ^ s := Nat.div_lt_of_lt_mul (Nat.mul_lt_mul_of_pos_right hlo hp)
 have h3 : hi * 2 ^ s + lo * 2 ^ s / WB < y * 2 ^ s := by
  have : (hi + 1) * 2 ^ s ≤ y * 2 ^ s := Nat.mul_le_mul_right _ hy
  rw [Nat.succ_mul] at this
  omega
 have e : (hi * 2 ^ s + lo * 2 ^ s / WB) * WB + lo * 2 ^ s % WB = (hi * WB + lo) * 2 ^ s := by
  have d := Nat.div_add_mod (lo * 2 ^ s) WB
  generalize hB : WB = B at *
  rw [Nat.add_mul, Nat.add_mul, Nat.mul_comm (lo * 2 ^ s / B), Nat.add_assoc, d, Nat.mul_right_comm]
 obtain ⟨d1, d2⟩ := Iy (hi * WB + lo) y (2 ^ s) hp
 refine ⟨h1, h2, h3, h4, by omega, ?_, ?_⟩
 ·rw [e, d1]
 ·rw [e, d2, Nat.mul_div_cancel _ hp]
set_option maxHeartbeats 2000000 in
set_option maxRecDepth 10000 in
theorem MO (hi lo y s : Nat) (h0 : 0 < hi) (hy : hi < y) (hy2 : y < 18446744073709551616) (hlo : lo < 18446744073709551616) (hs : dB y + s = 64) (w : World) :
  Calls Tryz.prog 221 #[.int .u64 (hi : Int), .int .u64 (lo : Int), .int .u64 (y : Int)] w (yH w ((hi * WB + lo) / y) ((hi * WB + lo) % y)) := by
 have h1 : ((y : Int) == 0) = false := by rw [beq_eq_false_iff_ne]; omega
 have h2 : ¬ ((y : Int) ≤ hi) := by omega
 have h3 : ((hi : Int) == 0) = false := by rw [beq_eq_false_iff_ne]; omega
 have hL := fun w => Tryz.bits_LeadingZeros64 (y : Int) w (by omega) (by omega)
 rw [Int.toNat_natCast, bitLen_eq y hy2] at hL
 have e : (64 : Int) - (dB y : Int) = (s : Int) := by omega
 rw [e] at hL
 have hs1 : s ≤ 64 := by omega
 obtain ⟨n1, n2, n3, n4, n5, n6, n7⟩ := JA hy hlo hy2 hs
 have eY : IntKind.u64.wrap ((y : Int) * 2 ^ s) = ((y * 2 ^ s : Nat) : Int) := by
  rw [show (y : Int) * 2 ^ s = ((y * 2 ^ s : Nat) : Int) by rw [Int.natCast_mul, Int.natCast_pow]; rfl, mV, Nat.mod_eq_of_lt n1]
 have hH : hi * 2 ^ s < WB := Nat.lt_trans (Nat.lt_of_le_of_lt (Nat.le_add_right _ _) n3) n1
 have eH : IntKind.u64.wrap ((hi : Int) * 2 ^ s) = ((hi * 2 ^ s : Nat) : Int) := by
  rw [show (hi : Int) * 2 ^ s = ((hi * 2 ^ s : Nat) : Int) by rw [Int.natCast_mul, Int.natCast_pow]; rfl, mV, Nat.mod_eq_of_lt hH]
 have eL : IntKind.u64.wrap ((lo : Int) * 2 ^ s) = ((lo * 2 ^ s % WB : Nat) : Int) := by
  rw [show (lo : Int) * 2 ^ s = ((lo * 2 ^ s : Nat) : Int) by rw [Int.natCast_mul, Int.natCast_pow]; rfl, mV]
 have eC := D6 lo s (by omega) hlo
 have eO := or_hi hi (lo * 2 ^ s / WB) s n4 hH n5
 have hl := Nat.mod_lt (lo * 2 ^ s) (show 0 < WB by decide)
 have eA1 := Jz (y * 2 ^ s) n1
 have eA2 := Jz (lo * 2 ^ s % WB) hl
 have HN := Lib.hid (And.intro n6 n7)
 have EE := Lib.hid (And.intro eY (And.intro eH (And.intro eL (And.intro eC (And.intro eO (And.intro eA1 eA2))))))
 clear eY eH eL eC eO eA1 eA2 n6 n7 hH n4
 go_enter Tryz.func221, Tryz.ntmps221
 go_upto_region 15 with (go_at_call 227; refine (hL _).mono ?_; rintro e w' ⟨rfl, rfl⟩)
 obtain ⟨eY, eH, eL, eC, eO, eA1, eA2⟩ := EE.out
 simp only [eY, eH, eL, eC, eO, eA1, eA2]
 have d1 : ((y * 2 ^ s : Nat) : Int) / 4294967296 = ((y * 2 ^ s / 4294967296 : Nat) : Int) := by rw [Int.natCast_ediv]; rfl
 have d2 : ((lo * 2 ^ s % WB : Nat) : Int) / 4294967296 = ((lo * 2 ^ s % WB / 4294967296 : Nat) : Int) := by rw [Int.natCast_ediv]; rfl
 simp only [d1, d2]
 clear eY eH eL eC eO eA1 eA2 d1 d2 EE
 generalize y * 2 ^ s = Y at *
 generalize hi * 2 ^ s + lo * 2 ^ s / WB = U at *
 generalize lo * 2 ^ s % WB = L at *
 generalize hi * 2 ^ s = H1 at *
 have hdm := Nat.div_add_mod Y 4294967296
 have hb := Nat.mod_lt Y (show 0 < 4294967296 by decide)
 have hD := Nat.mod_lt L (show 0 < 4294967296 by decide)
 have hD1 : L / 4294967296 < 4294967296 := Nat.div_lt_of_lt_mul hl
 generalize Y / 4294967296 = a at *
 generalize Y % 4294967296 = b at *
 rw [Nat.mul_comm] at hdm
 subst hdm
 have hW : WB = 18446744073709551616 := rfl
 have ha2 : a < 4294967296 := by omega
 have ha1 : 2147483648 ≤ a := by omega
 have hU : U < 18446744073709551616 := by omega
 have HH := Lib.hid (halves U L (a * 4294967296 + b) (by omega))
 have HI := Lib.hid (kW.start (u := U) (d := L / 4294967296) (b := b) ha1 ha2 hD1)
 generalize L / 4294967296 = D at *
 generalize L % 4294967296 = F at *
 obtain ⟨Y, hYd⟩ : ∃ Y, Y = a * 4294967296 + b := ⟨_, rfl⟩
 have ha0 : ¬ a = 0 := by omega
 have hDW : D < 4294967296 := hD1
 have hUY : U < a * 4294967296 + b := n3
 rw [← hYd] at HH HN ⊢
 have hYb : Y < 18446744073709551616 := by omega
 have HYD := Lib.hid hYd
 clear hYd
 obtain ⟨q0, hq0⟩ : ∃ q0, q0 = U / a := ⟨_, rfl⟩
 obtain ⟨m0, hm0⟩ : ∃ m0, m0 = q0 * a := ⟨_, rfl⟩
 obtain ⟨r0, hr0⟩ : ∃ r0, r0 = U - m0 := ⟨_, rfl⟩
 have hm0le : m0 ≤ U := by rw [hm0, hq0]; exact Nat.div_mul_le_self _ _
 have g1 : IntKind.u64.wrap ((U : Int) / (a : Int)) = (q0 : Int) := by
  rw [hq0, ← Int.natCast_ediv, mV, Nat.mod_eq_of_lt (Nat.lt_of_le_of_lt (Nat.div_le_self _ _) (by omega))]
 have g2 : IntKind.u64.wrap ((q0 : Int) * (a : Int)) = (m0 : Int) := by
  rw [← Int.natCast_mul, ← hm0, mV, Nat.mod_eq_of_lt (by omega)]
 have g3 : IntKind.u64.wrap ((U : Int) - (m0 : Int)) = (r0 : Int) := IntWalk.u64_in _ (by omega) |>.trans (by omega)
 rw [← hq0, ← hm0, ← hr0] at HI
 clear hq0 hm0 hr0 hm0le
 go_upto_block 0 with fail
 go_cut [15] from 67 to 85 (fun t wx => t = .int .u64 ((rP U D (a * 4294967296 + b) : Nat) : Int) ∧ wx = w')
 case first =>
  go_wp2_with fail
  go_loop [15, 16] (fun t t2 => ∃ q r : Nat, t = .int .u64 q ∧ t2 = .int .u64 r ∧ kW U D a b q r) (fun t _ => (intOf t).toNat)
  case atStart => exact ⟨_, _, rfl, rfl, HI.out⟩
  case round =>
   obtain ⟨q, r, rfl, rfl, hinv⟩ := hrel
   have hqb := hinv.Qq ha1 (by omega)
   have hrb := hinv.small
   clear n1 n2 n3 hl hW HI
   by_cases hq : 4294967296 ≤ q
   ·have hqI : (4294967296 : Int) ≤ (q : Int) := by omega
    obtain ⟨k0, k1, k2⟩ := hinv.step hUY hDW (.inl hq)
    obtain ⟨q2, hq2'⟩ : ∃ q2, q2 = q - 1 := ⟨_, rfl⟩
    obtain ⟨r2, hr2'⟩ : ∃ r2, r2 = r + a := ⟨_, rfl⟩
    rw [← hq2'] at k1 k2
    rw [← hr2'] at k1
    have j1 : IntKind.u64.wrap ((q : Int) - 1) = (q2 : Int) := IntWalk.u64_in _ (by omega) |>.trans (by omega)
    have j2 : IntKind.u64.wrap ((r : Int) + (a : Int)) = (r2 : Int) := IntWalk.u64_in _ (by omega) |>.trans (by omega)
    have KK := Lib.hid (And.intro k1 k2)
    have hmeas : q2 < q := by omega
    clear k1 k2 hinv
    by_cases hbr : 4294967296 ≤ r2
    ·have hbI : (4294967296 : Int) ≤ (r2 : Int) := by omega
     have KB := Lib.hid (qg hb hUY KK.out.1 KK.out.2 hbr)
     clear hq2' hr2' hq hbr k0 hUY hqb hrb
     go_wp2
     go_meet
     exact ⟨Iw KB.out, rfl⟩
    ·have hbI : ¬ (4294967296 : Int) ≤ (r2 : Int) := by omega
     have KI := Lib.hid (kW.mk KK.out.1 KK.out.2 (by omega))
     clear hq2' hr2' hq hbr k0 hUY hqb hrb
     go_wp2
     go_round
     case rel => exact ⟨q2, r2, rfl, rfl, KI.out⟩
     case measure => simp only [intOf]; omega
   ·have hqI : ¬ (4294967296 : Int) ≤ (q : Int) := by omega
    obtain ⟨P, hP⟩ : ∃ P, P = q * b := ⟨_, rfl⟩
    have hPb : P < 18446744073709551616 := by
     have : q * b ≤ 4294967295 * 4294967295 := Nat.mul_le_mul (by omega) (by omega)
     omega
    obtain ⟨R, hR⟩ : ∃ R, R = r * 4294967296 := ⟨_, rfl⟩
    obtain ⟨S, hS⟩ : ∃ S, S = R + D := ⟨_, rfl⟩
    have i1 : IntKind.u64.wrap ((q : Int) * (b : Int)) = (P : Int) := by rw [← Int.natCast_mul, ← hP, mV, Nat.mod_eq_of_lt (by omega)]
    have i2 : IntKind.u64.wrap (4294967296 * (r : Int)) = (R : Int) := IntWalk.u64_in _ (by omega) |>.trans (by omega)
    have i3 : IntKind.u64.wrap ((R : Int) + (D : Int)) = (S : Int) := IntWalk.u64_in _ (by omega) |>.trans (by omega)
    by_cases ht : S < P
    ·obtain ⟨k0, k1, k2⟩ := hinv.step hUY hDW (.inr (by rw [← hR, ← hP]; omega))
     obtain ⟨q2, hq2'⟩ : ∃ q2, q2 = q - 1 := ⟨_, rfl⟩
     obtain ⟨r2, hr2'⟩ : ∃ r2, r2 = r + a := ⟨_, rfl⟩
     rw [← hq2'] at k1 k2
     rw [← hr2'] at k1
     have j1 : IntKind.u64.wrap ((q : Int) - 1) = (q2 : Int) := IntWalk.u64_in _ (by omega) |>.trans (by omega)
     have j2 : IntKind.u64.wrap ((r : Int) + (a : Int)) = (r2 : Int) := IntWalk.u64_in _ (by omega) |>.trans (by omega)
     have KK := Lib.hid (And.intro k1 k2)
     have hmeas : q2 < q := by omega
     clear k1 k2 hinv
     by_cases hbr : 4294967296 ≤ r2
     ·have hbI : (4294967296 : Int) ≤ (r2 : Int) := by omega
      have KB := Lib.hid (qg hb hUY KK.out.1 KK.out.2 hbr)
      clear hq2' hr2' hq hbr k0 hUY hqb hrb hP hR hS
      go_wp2
      go_meet
      exact ⟨Iw KB.out, rfl⟩
     ·have hbI : ¬ (4294967296 : Int) ≤ (r2 : Int) := by omega
      have KI := Lib.hid (kW.mk KK.out.1 KK.out.2 (by omega))
      clear hq2' hr2' hq hbr k0 hUY hqb hrb hP hR hS
      go_wp2
      go_round
      case rel => exact ⟨q2, r2, rfl, rfl, KI.out⟩
      case measure => simp only [intOf]; omega
    ·have KD := Lib.hid (hinv.OL (by omega) (by rw [← hP]; omega))
     clear hinv hP hR hS hq hUY hqb hrb
     go_wp2
     go_meet
     exact ⟨Iw KD.out, rfl⟩
 case rest =>
  obtain ⟨rfl, rfl⟩ := hcut
  clear HI
  have hQlt := AU hUY hDW
  have hsub := AX U D (a * 4294967296 + b)
  have hmul := half_mul_le U D (a * 4294967296 + b)
  have hRlt : uw U D (a * 4294967296 + b) < a * 4294967296 + b := Nat.mod_lt _ (by omega)
  rw [← HYD.out] at hsub hmul hRlt hQlt ⊢
  generalize rP U D Y = Q1 at *
  generalize uw U D Y = R1 at *
  obtain ⟨v1, hv1⟩ : ∃ v1, v1 = U * 4294967296 % 18446744073709551616 := ⟨_, rfl⟩
  obtain ⟨v2, hv2⟩ : ∃ v2, v2 = (v1 + D) % 18446744073709551616 := ⟨_, rfl⟩
  obtain ⟨Z, hZ⟩ : ∃ Z, Z = Q1 * Y := ⟨_, rfl⟩
  obtain ⟨v3, hv3⟩ : ∃ v3, v3 = Z % 18446744073709551616 := ⟨_, rfl⟩
  rw [← hZ] at hsub hmul
  have p1 : IntKind.u64.wrap ((U : Int) * 4294967296) = (v1 : Int) := by rw [IntKind.wrap_u64]; omega
  have p2 : IntKind.u64.wrap ((v1 : Int) + (D : Int)) = (v2 : Int) := by rw [IntKind.wrap_u64]; omega
  have p3 : IntKind.u64.wrap ((Q1 : Int) * (Y : Int)) = (v3 : Int) := by rw [← Int.natCast_mul, ← hZ, IntKind.wrap_u64]; omega
  have p4 : IntKind.u64.wrap ((v2 : Int) - (v3 : Int)) = (R1 : Int) := by rw [IntKind.wrap_u64]; omega
  clear hv1 hv2 hv3 hZ hsub hmul n3 hUY hDW
  have hUY : R1 < a * 4294967296 + b := by rw [← HYD.out]; exact hRlt
  have hDW : F < 4294967296 := hD
  have hn3 := hUY
  have HI := Lib.hid (kW.start (u := R1) (d := F) (b := b) ha1 ha2 hD)
  obtain ⟨q1, hq1⟩ : ∃ q1, q1 = R1 / a := ⟨_, rfl⟩
  obtain ⟨m1, hm1⟩ : ∃ m1, m1 = q1 * a := ⟨_, rfl⟩
  obtain ⟨r1, hr1⟩ : ∃ r1, r1 = R1 - m1 := ⟨_, rfl⟩
  have hm1le : m1 ≤ R1 := by rw [hm1, hq1]; exact Nat.div_mul_le_self _ _
  have f1 : IntKind.u64.wrap ((R1 : Int) / (a : Int)) = (q1 : Int) := by
   rw [hq1, ← Int.natCast_ediv, mV, Nat.mod_eq_of_lt (Nat.lt_of_le_of_lt (Nat.div_le_self _ _) (by omega))]
  have f2 : IntKind.u64.wrap ((q1 : Int) * (a : Int)) = (m1 : Int) := by
   rw [← Int.natCast_mul, ← hm1, mV, Nat.mod_eq_of_lt (by omega)]
  have f3 : IntKind.u64.wrap ((R1 : Int) - (m1 : Int)) = (r1 : Int) := IntWalk.u64_in _ (by omega) |>.trans (by omega)
  rw [← hq1, ← hm1, ← hr1] at HI
  clear hq1 hm1 hr1 hm1le
  go_upto_block 2 with fail
  go_cut [18] from 102 to 120 (fun t wx => t = .int .u64 ((rP R1 F (a * 4294967296 + b) : Nat) : Int) ∧ wx = wc)
  case first =>
   go_wp2_with fail
   go_loop [18, 16] (fun t t2 => ∃ q r : Nat, t = .int .u64 q ∧ t2 = .int .u64 r ∧ kW R1 F a b q r) (fun t _ => (intOf t).toNat)
   case atStart => exact ⟨_, _, rfl, rfl, HI.out⟩
   case round =>
    obtain ⟨q, r, rfl, rfl, hinv⟩ := hrel
    have hqb := hinv.Qq ha1 (by omega)
    have hrb := hinv.small
    clear n1 n2 hn3 hl hW HI hRlt hYb
    by_cases hq : 4294967296 ≤ q
    ·have hqI : (4294967296 : Int) ≤ (q : Int) := by omega
     obtain ⟨k0, k1, k2⟩ := hinv.step hUY hDW (.inl hq)
     obtain ⟨q2, hq2'⟩ : ∃ q2, q2 = q - 1 := ⟨_, rfl⟩
     obtain ⟨r2, hr2'⟩ : ∃ r2, r2 = r + a := ⟨_, rfl⟩
     rw [← hq2'] at k1 k2
     rw [← hr2'] at k1
     have j1 : IntKind.u64.wrap ((q : Int) - 1) = (q2 : Int) := IntWalk.u64_in _ (by omega) |>.trans (by omega)
     have j2 : IntKind.u64.wrap ((r : Int) + (a : Int)) = (r2 : Int) := IntWalk.u64_in _ (by omega) |>.trans (by omega)
     have KK := Lib.hid (And.intro k1 k2)
     have hmeas : q2 < q := by omega
     clear k1 k2 hinv
     by_cases hbr : 4294967296 ≤ r2
     ·have hbI : (4294967296 : Int) ≤ (r2 : Int) := by omega
      have KB := Lib.hid (qg hb hUY KK.out.1 KK.out.2 hbr)
      clear hq2' hr2' hq hbr k0 hUY hqb hrb
      go_wp2
      go_meet
      exact ⟨Iw KB.out, rfl⟩
     ·have hbI : ¬ (4294967296 : Int) ≤ (r2 : Int) := by omega
      have KI := Lib.hid (kW.mk KK.out.1 KK.out.2 (by omega))
      clear hq2' hr2' hq hbr k0 hUY hqb hrb
      go_wp2
      go_round
      case rel => exact ⟨q2, r2, rfl, rfl, KI.out⟩
      case measure => simp only [intOf]; omega
    ·have hqI : ¬ (4294967296 : Int) ≤ (q : Int) := by omega
     obtain ⟨P, hP⟩ : ∃ P, P = q * b := ⟨_, rfl⟩
     have hPb : P < 18446744073709551616 := by
      have : q * b ≤ 4294967295 * 4294967295 := Nat.mul_le_mul (by omega) (by omega)
      omega
     obtain ⟨R, hR⟩ : ∃ R, R = r * 4294967296 := ⟨_, rfl⟩
     obtain ⟨S, hS⟩ : ∃ S, S = R + F := ⟨_, rfl⟩
     have i1 : IntKind.u64.wrap ((q : Int) * (b : Int)) = (P : Int) := by rw [← Int.natCast_mul, ← hP, mV, Nat.mod_eq_of_lt (by omega)]
     have i2 : IntKind.u64.wrap (4294967296 * (r : Int)) = (R : Int) := IntWalk.u64_in _ (by omega) |>.trans (by omega)
     have i3 : IntKind.u64.wrap ((R : Int) + (F : Int)) = (S : Int) := IntWalk.u64_in _ (by omega) |>.trans (by omega)
     by_cases ht : S < P
     ·obtain ⟨k0, k1, k2⟩ := hinv.step hUY hDW (.inr (by rw [← hR, ← hP]; omega))
      obtain ⟨q2, hq2'⟩ : ∃ q2, q2 = q - 1 := ⟨_, rfl⟩
      obtain ⟨r2, hr2'⟩ : ∃ r2, r2 = r + a := ⟨_, rfl⟩
      rw [← hq2'] at k1 k2
      rw [← hr2'] at k1
      have j1 : IntKind.u64.wrap ((q : Int) - 1) = (q2 : Int) := IntWalk.u64_in _ (by omega) |>.trans (by omega)
      have j2 : IntKind.u64.wrap ((r : Int) + (a : Int)) = (r2 : Int) := IntWalk.u64_in _ (by omega) |>.trans (by omega)
      have KK := Lib.hid (And.intro k1 k2)
      have hmeas : q2 < q := by omega
      clear k1 k2 hinv
      by_cases hbr : 4294967296 ≤ r2
      ·have hbI : (4294967296 : Int) ≤ (r2 : Int) := by omega
       have KB := Lib.hid (qg hb hUY KK.out.1 KK.out.2 hbr)
       clear hq2' hr2' hq hbr k0 hUY hqb hrb hP hR hS
       go_wp2
       go_meet
       exact ⟨Iw KB.out, rfl⟩
      ·have hbI : ¬ (4294967296 : Int) ≤ (r2 : Int) := by omega
       have KI := Lib.hid (kW.mk KK.out.1 KK.out.2 (by omega))
       clear hq2' hr2' hq hbr k0 hUY hqb hrb hP hR hS
       go_wp2
       go_round
       case rel => exact ⟨q2, r2, rfl, rfl, KI.out⟩
       case measure => simp only [intOf]; omega
     ·have KD := Lib.hid (hinv.OL (by omega) (by rw [← hP]; omega))
      clear hinv hP hR hS hq hUY hqb hrb
      go_wp2
      go_meet
      exact ⟨Iw KD.out, rfl⟩
  case rest =>
   obtain ⟨rfl, rfl⟩ := hcut
   clear HI
   have hQlt2 := AU hUY hDW
   have hsub := AX R1 F (a * 4294967296 + b)
   have hmul := half_mul_le R1 F (a * 4294967296 + b)
   have hRlt2 : uw R1 F (a * 4294967296 + b) < a * 4294967296 + b := Nat.mod_lt _ (by omega)
   rw [← HYD.out] at hsub hmul hRlt2 hQlt2 ⊢
   generalize rP R1 F Y = Q2 at *
   generalize uw R1 F Y = R2 at *
   obtain ⟨u1, hu1⟩ : ∃ u1, u1 = R1 * 4294967296 % 18446744073709551616 := ⟨_, rfl⟩
   obtain ⟨u2, hu2⟩ : ∃ u2, u2 = (u1 + F) % 18446744073709551616 := ⟨_, rfl⟩
   obtain ⟨Z, hZ⟩ : ∃ Z, Z = Q2 * Y := ⟨_, rfl⟩
   obtain ⟨u3, hu3⟩ : ∃ u3, u3 = Z % 18446744073709551616 := ⟨_, rfl⟩
   rw [← hZ] at hsub hmul
   have t1 : IntKind.u64.wrap ((R1 : Int) * 4294967296) = (u1 : Int) := by rw [IntKind.wrap_u64]; omega
   have t2 : IntKind.u64.wrap ((u1 : Int) + (F : Int)) = (u2 : Int) := by rw [IntKind.wrap_u64]; omega
   have t3 : IntKind.u64.wrap ((Q2 : Int) * (Y : Int)) = (u3 : Int) := by rw [← Int.natCast_mul, ← hZ, IntKind.wrap_u64]; omega
   have t4 : IntKind.u64.wrap ((u2 : Int) - (u3 : Int)) = (R2 : Int) := by rw [IntKind.wrap_u64]; omega
   clear hu1 hu2 hu3 hZ hsub hmul
   obtain ⟨x1, hx1⟩ : ∃ x1, x1 = Q1 * 4294967296 := ⟨_, rfl⟩
   obtain ⟨x2, hx2⟩ : ∃ x2, x2 = x1 + Q2 := ⟨_, rfl⟩
   have t5 : IntKind.u64.wrap ((Q1 : Int) * 4294967296) = (x1 : Int) := by rw [IntKind.wrap_u64]; omega
   have t6 : IntKind.u64.wrap ((x1 : Int) + (Q2 : Int)) = (x2 : Int) := by rw [IntKind.wrap_u64]; omega
   have HX := Lib.hid (show Q1 * 4294967296 + Q2 = x2 by omega)
   clear hx1 hx2 n1 n2 hn3 hl hW hRlt hRlt2 hYb hUY hDW hQlt hQlt2 hD hD1
   go_wp2
   go_ret2
   obtain ⟨z1, z2⟩ := HN.out
   obtain ⟨z3, z4⟩ := HH.out
   refine ⟨FB (pO ?_) (pO ?_), 0, rfl⟩
   ·rw [z1, ← HX.out, ← z3]
   ·rw [z2, yj, ← z4]
theorem JB (hi lo y : Nat) (hy : hi < y) (hy2 : y < WB) (hlo : lo < WB) (w : World) :
  Calls Tryz.prog 221 #[.int .u64 (hi : Int), .int .u64 (lo : Int), .int .u64 (y : Int)] w (yH w ((hi * WB + lo) / y) ((hi * WB + lo) % y)) := by
 by_cases h0 : hi = 0
 ·subst h0
  have := MN lo y hy hy2 hlo w
  rw [Nat.zero_mul, Nat.zero_add]
  exact this
 ·exact MO hi lo y (64 - dB y) (by omega) hy hy2 hlo (by have := mY (v := y) (k := 64) hy2; omega) w
end Go.Proofs.YtafikkmnkeddpaaGreatDoor
namespace Go.Proofs.YtafikkmnkeddpaaGreatDoor
open Go.RowKit
theorem drop_cons (xs : List Nat) (j : Nat) (h : j < xs.length) : xs.drop j = xs.getD j 0 :: xs.drop (j + 1) := by
 rw [List.drop_eq_getElem_cons h, List.getD_eq_getElem?_getD, List.getElem?_eq_getElem h]
 rfl
theorem uT (xs : List Nat) (j : Nat) (h : j < xs.length) : val (xs.drop j) = xs.getD j 0 + WB * val (xs.drop (j + 1)) := by
 rw [drop_cons xs j h]; rfl
theorem getD_take (xs : List Nat) (n j : Nat) (h : j < n) : (xs.take n).getD j 0 = xs.getD j 0 := by
 rw [List.getD_eq_getElem?_getD, List.getElem?_take_of_lt h, List.getD_eq_getElem?_getD]
theorem xk (xs : List Nat) (j k y : Nat) (h : j < k) : (xs.set j y).drop k = xs.drop k := by
 rw [List.drop_set, if_pos h]
structure qR (zs : List Nat) (n d j : Nat) (ys : List Nat) (r : Nat) : Prop where
 len : ys.length = zs.length
 wd : Wd ys
 lt : r < d
 low : ∀ k, k < j → ys.getD k 0 = zs.getD k 0
 sum : val ((ys.take n).drop j) * d + r = val ((zs.take n).drop j)
theorem qR.start {zs : List Nat} {n d : Nat} (hn : n ≤ zs.length) (hw : Wd zs) (hd : 0 < d) : qR zs n d n zs 0 := by
 refine ⟨rfl, hw, hd, fun _ _ => rfl, ?_⟩
 rw [List.drop_of_length_le (by rw [List.length_take]; omega)]
 simp [val]
theorem Iq {V d r x q s B W : Nat} (h : V * d + r = W) (h2 : r * B + x = q * d + s) : (q + B * V) * d + s = x + B * W := by
 subst h
 have e1 : (q + B * V) * d = q * d + B * (V * d) := by rw [Nat.add_mul, Nat.mul_assoc]
 have e2 : B * (V * d + r) = B * (V * d) + r * B := by rw [Nat.mul_add, Nat.mul_comm B r]
 omega
theorem qR.step {zs ys : List Nat} {n d j r : Nat} (h : qR zs n d (j + 1) ys r) (hn : n ≤ zs.length) (hj : j < n) (hd : d ≤ WB) :
  qR zs n d j (ys.set j ((r * WB + ys.getD j 0) / d)) ((r * WB + ys.getD j 0) % d) := by
 have hd0 : 0 < d := Nat.lt_of_le_of_lt (Nat.zero_le _) h.lt
 have hx := h.wd.get j
 have hq : (r * WB + ys.getD j 0) / d < WB := by
  rw [Nat.div_lt_iff_lt_mul hd0, Nat.mul_comm WB d]
  have := Nat.mul_le_mul_right WB (show r + 1 ≤ d from h.lt)
  rw [Nat.succ_mul] at this
  exact Nat.lt_of_lt_of_le (Nat.add_lt_add_left hx _) this
 have hl := h.len
 refine ⟨by rw [List.length_set]; exact hl, h.wd.set _ _ hq, Nat.mod_lt _ hd0, fun k hk => ?_, ?_⟩
 ·rw [getD_set_ne _ _ _ _ (by omega)]
  exact h.low k (by omega)
 ·rw [uT _ _ (by rw [List.length_take, List.length_set]; omega), uT (zs.take n) _ (by rw [List.length_take]; omega), getD_take _ _ _ hj, getD_take _ _ _ hj,
   kR _ _ _ (by omega), List.take_set, xk _ _ _ _ (by omega), ← h.low j (by omega)]
  exact Iq h.sum (by have := Nat.div_add_mod (r * WB + ys.getD j 0) d; rw [Nat.mul_comm] at this; exact this.symm)
theorem qR.done {zs ys : List Nat} {n d r : Nat} (h : qR zs n d 0 ys r) : val (ys.take n) = val (zs.take n) / d ∧ r = val (zs.take n) % d := by
 have hs := h.sum
 rw [List.drop_zero, List.drop_zero] at hs
 have hd0 : 0 < d := Nat.lt_of_le_of_lt (Nat.zero_le _) h.lt
 rw [← hs, Nat.add_comm, Nat.mul_comm]
 exact ⟨by rw [Nat.add_mul_div_left _ _ hd0, Nat.div_eq_of_lt h.lt, Nat.zero_add], by rw [Nat.add_mul_mod_self_left, Nat.mod_eq_of_lt h.lt]⟩
def ByW (w : World) (g : Nat) (zs : List Nat) (n c d : Nat) (e : Ending) (w' : World) : Prop := ∃ ys k,
 e = .returned (.tuple #[.slice (some ⟨g, 0, none⟩) (toW (val (zs.take n) / d)).length c, .int .u64 ((val (zs.take n) % d : Nat) : Int)]) ∧
 w' = (setB w g (.cells (cO ys) 22 (0, 0))).drewN k ∧ ys.length = zs.length ∧ Wd ys ∧ ys.take (toW (val (zs.take n) / d)).length = toW (val (zs.take n) / d) ∧ (toW (val (zs.take n) / d)).length ≤ n
set_option maxRecDepth 10000 in
set_option maxHeartbeats 1000000 in
theorem iw (w : World) (g : Nat) (zs : List Nat) (n c d : Nat) (hr : Row w g zs) (hw : Wd zs) (hn : n ≤ zs.length) (hc : n ≤ c) (hs : c ≤ 1000000000000) (hd0 : 0 < d) (hd : d < WB) :
  Calls Tryz.prog 173 #[.slice (some ⟨g, 0, none⟩) n c, .int .u64 (d : Int)] w (ByW w g zs n c d) := by
 have HROW := Lib.hid hr
 have HW := Lib.hid hw
 have HSELF := Lib.hid (lJ hr)
 have HST := Lib.hid (qR.start hn hw hd0)
 have hnb : n ≤ 1000000000000 := by omega
 go_enter Tryz.func173, Tryz.ntmps173
 go_wp2
 go_loopw [7, 6] (fun t t2 wr => ∃ (j r k : Nat) (ys : List Nat), t = .int .i64 ((j : Int) - 1) ∧ t2 = .int .u64 r ∧ j ≤ n ∧ qR zs n d j ys r ∧ Hid (wr = (setB w g (.cells (cO ys) 22 (0, 0))).drewN k)) (fun t _ _ => (intOf t + 1).toNat)
 case atStart => exact ⟨n, 0, 0, zs, rfl, rfl, Nat.le_refl _, HST.out, Lib.hid HSELF.out.symm⟩
 case round =>
  obtain ⟨j, r, k, ys, rfl, rfl, hj, hinv, hwr⟩ := hrel
  have hrow : Row wr g ys := by rw [hwr.out]; exact HROW.out.setB
  have hyl := hinv.len
  cases j with
  | zero =>
   obtain ⟨hv, hrem⟩ := hinv.done
   have hsl : Sl wr (some ⟨g, 0, none⟩) c (ys.take n) := ⟨(hrow.nw hrow.lt).take n, hinv.wd.take n, by rw [List.length_take]; omega, by rw [List.length_take]; omega⟩
   have htr := cZ _ _ _ _ hsl
   have htk := qI (hinv.wd.take n)
   have hle := eu (hinv.wd.take n)
   rw [show (ys.take n).length = n by rw [List.length_take]; omega] at htr
   rw [hv] at htr htk hle
   rw [List.length_take] at hle
   have HF := Lib.hid (show ys.take (toW (val (zs.take n) / d)).length = toW (val (zs.take n) / d) ∧ (toW (val (zs.take n) / d)).length ≤ n ∧ Wd ys ∧ r = val (zs.take n) % d from ⟨by rw [htk, List.take_take, List.length_take]; congr 1; omega, by omega, hinv.wd, hrem⟩)
   clear hv hrem hsl htk hle hinv hrow
   go_wp2_with (go_at_call 112; refine htr.mono ?_; rintro e w' ⟨rfl, rfl⟩)
   go_ret2
   exact ⟨ys, k, FB rfl (pO (by rw [HF.out.2.2.2])), hwr.out, hyl, HF.out.2.2.1, HF.out.1, HF.out.2.1⟩
  | succ i =>
   have e : (((i + 1 : Nat) : Int) - 1) = (i : Int) := by omega
   have hcell : wr.cell? ⟨g, i, none⟩ = some (.int .u64 ((ys.getD i 0 : Nat) : Int)) := hrow.cell (by omega)
   have hfz : wr.frozen? ⟨g, i, none⟩ = false := hrow.frozen _
   have hxw := hinv.wd.get i
   have HNEXT := Lib.hid (hinv.step hn (by omega) (Nat.le_of_lt hd))
   have hdv := fun w => JB r (ys.getD i 0) d hinv.lt hd hxw w
   unfold yH at hdv
   have hin : (i : Int) < n := by omega
   have hi1 : IntKind.i64.wrap ((i : Int) - 1) = (i : Int) - 1 := IntWalk.i64_in _ (by omega)
   generalize (r * WB + ys.getD i 0) / d = q at *
   generalize (r * WB + ys.getD i 0) % d = s at *
   have HROW2 := Lib.hid hrow
   simp only [e]
   clear e hinv hrow hxw hyl
   go_wp2_with (go_at_call 221; refine (hdv _).mono ?_; rintro e' w' ⟨rfl, m, rfl⟩)
   go_roundw
   case rel => exact ⟨i, s, k + m, _, rfl, rfl, by omega, HNEXT.out, Lib.hid (by
    have hr2 : Row (wr.drewN m) g ys := HROW2.out
    rw [hr2.set, hwr.out]; simp only [kK, iL, World.drewN_drewN])⟩
   case measure => simp only [intOf]; omega
end Go.Proofs.YtafikkmnkeddpaaGreatDoor
namespace Go.Proofs.YtafikkmnkeddpaaGreatDoor
open Go.RowKit
def win (zs : List Nat) (o i : Nat) : List Nat := (zs.drop o).take i
theorem win_zero (zs : List Nat) (o : Nat) : win zs o 0 = [] := by simp [win]
theorem ML (zs : List Nat) (o i : Nat) (h : o + i ≤ zs.length) : (win zs o i).length = i := by simp [win]; omega
theorem AY (zs : List Nat) (o i : Nat) : (zs.drop o).getD i 0 = zs.getD (o + i) 0 := by
 rw [List.getD_eq_getElem?_getD, List.getElem?_drop, List.getD_eq_getElem?_getD]
theorem jL (zs : List Nat) (o i : Nat) : val (win zs o (i + 1)) = val (win zs o i) + WB ^ i * zs.getD (o + i) 0 := by
 unfold win
 rw [dG, AY]
theorem xU (zs : List Nat) (o i y : Nat) : win (zs.set (o + i) y) o i = win zs o i := by
 unfold win
 rw [List.drop_set, if_neg (by omega), Nat.add_sub_cancel_left, List.take_set, List.set_eq_of_length_le (by rw [List.length_take]; omega)]
theorem O1 {zs : List Nat} (h : Wd zs) (o i : Nat) : Wd (win zs o i) := (h.drop o).take i
theorem yE {zs : List Nat} (h : Wd zs) (o i : Nat) : val (win zs o i) < WB ^ i := by
 refine Nat.lt_of_lt_of_le (oO (O1 h o i)) (Nat.pow_le_pow_right (by decide) ?_)
 unfold win
 rw [List.length_take]
 omega
structure oP (zs vs : List Nat) (o x i : Nat) (ys : List Nat) (c b : Nat) : Prop where
 len : ys.length = zs.length
 wd : Wd ys
 cw : c < WB
 bw : b ≤ 1
 out : ∀ k, k < o ∨ o + i ≤ k → ys.getD k 0 = zs.getD k 0
 sum : val (win ys o i) + x * val (vs.take i) = val (win zs o i) + (c + b) * WB ^ i
theorem oP.start {zs : List Nat} (vs : List Nat) (o x : Nat) (h : Wd zs) : oP zs vs o x 0 zs 0 0 :=
 ⟨rfl, h, by decide, by decide, fun _ _ => rfl, by simp [win_zero, val]⟩
theorem yF (P N V U x y u s c b c' b' lo B : Nat) (h : N + x * V = U + (c + b) * P) (h1 : x * y + c = c' * B + lo) (h2 : u + b' * B = s + lo + b) :
  N + P * s + x * (V + P * y) = U + P * u + (c' + b') * (P * B) := by
 have e1 : x * (V + P * y) = x * V + P * (x * y) := by rw [Nat.mul_add, Nat.mul_left_comm]
 have e2 : P * (x * y) + P * c = P * (c' * B) + P * lo := by rw [← Nat.mul_add, h1, Nat.mul_add]
 have e3 : P * u + P * (b' * B) = P * s + P * lo + P * b := by rw [← Nat.mul_add, h2, Nat.mul_add, Nat.mul_add]
 have e4 : (c + b) * P = P * c + P * b := by rw [Nat.add_mul, Nat.mul_comm c, Nat.mul_comm b]
 have e5 : (c' + b') * (P * B) = P * (c' * B) + P * (b' * B) := by rw [Nat.add_mul, Nat.mul_left_comm c', Nat.mul_left_comm b']
 omega
theorem oP.step {zs vs ys : List Nat} {o x i c b lo c' s b' : Nat} (h : oP zs vs o x i ys c b) (hi : o + i < zs.length) (hlo : x * vs.getD i 0 + c = c' * WB + lo)
  (hc : c' < WB) (hb : b' ≤ 1) (hs : s < WB) (hu : ys.getD (o + i) 0 + b' * WB = s + lo + b) : oP zs vs o x (i + 1) (ys.set (o + i) s) c' b' := by
 refine ⟨by rw [List.length_set, h.len], h.wd.set _ _ hs, hc, hb, fun k hk => ?_, ?_⟩
 ·rw [getD_set_ne _ _ _ _ (by omega)]
  exact h.out k (by omega)
 ·rw [jL, xU, kR _ _ _ (by rw [h.len]; exact hi), jL zs, dG, Nat.pow_succ]
  rw [← h.out (o + i) (by omega)]
  exact yF _ _ _ _ _ _ _ _ _ _ _ _ _ _ h.sum hlo hu
theorem oP.done {zs vs ys : List Nat} {o x c b s b' : Nat} (h : oP zs vs o x vs.length ys c b) (hi : o + vs.length < zs.length) (hs : s < WB)
  (hu : ys.getD (o + vs.length) 0 + b' * WB = s + c + b) :
  val (win (ys.set (o + vs.length) s) o (vs.length + 1)) + x * val vs = val (win zs o (vs.length + 1)) + b' * WB ^ (vs.length + 1) := by
 rw [jL, xU, kR _ _ _ (by rw [h.len]; exact hi), jL zs, Nat.pow_succ, ← h.out (o + vs.length) (by omega)]
 have hsum := h.sum
 rw [List.take_length] at hsum
 have := yF (WB ^ vs.length) (val (win ys o vs.length)) (val vs) (val (win zs o vs.length)) x 0 (ys.getD (o + vs.length) 0) s c b 0 b' c WB hsum (by omega) (by omega)
 rw [Nat.mul_zero, Nat.add_zero, Nat.zero_add] at this
 exact this
structure oQ (zs vs : List Nat) (o i : Nat) (ys : List Nat) (c : Nat) : Prop where
 len : ys.length = zs.length
 wd : Wd ys
 cw : c ≤ 1
 out : ∀ k, k < o ∨ o + i ≤ k → ys.getD k 0 = zs.getD k 0
 sum : val (win ys o i) + c * WB ^ i = val (win zs o i) + val (vs.take i)
theorem oQ.start {zs : List Nat} (vs : List Nat) (o : Nat) (h : Wd zs) : oQ zs vs o 0 zs 0 :=
 ⟨rfl, h, by decide, fun _ _ => rfl, by simp [win_zero, val]⟩
theorem yG (P N V U y u s c c' B : Nat) (h : N + c * P = U + V) (h2 : u + y + c = s + c' * B) : N + P * s + c' * (P * B) = U + P * u + (V + P * y) := by
 have e1 : P * u + P * y + P * c = P * s + P * (c' * B) := by rw [← Nat.mul_add, ← Nat.mul_add, h2, Nat.mul_add]
 have e2 : c * P = P * c := Nat.mul_comm _ _
 have e3 : c' * (P * B) = P * (c' * B) := Nat.mul_left_comm _ _ _
 omega
theorem oQ.step {zs vs ys : List Nat} {o i c s c' : Nat} (h : oQ zs vs o i ys c) (hi : o + i < zs.length) (hc : c' ≤ 1) (hs : s < WB) (hu : ys.getD (o + i) 0 + vs.getD i 0 + c = s + c' * WB) :
  oQ zs vs o (i + 1) (ys.set (o + i) s) c' := by
 refine ⟨by rw [List.length_set, h.len], h.wd.set _ _ hs, hc, fun k hk => ?_, ?_⟩
 ·rw [getD_set_ne _ _ _ _ (by omega)]
  exact h.out k (by omega)
 ·rw [jL, xU, kR _ _ _ (by rw [h.len]; exact hi), jL zs, dG, Nat.pow_succ, ← h.out (o + i) (by omega)]
  exact yG _ _ _ _ _ _ _ _ _ _ h.sum hu
theorem oQ.done {zs vs ys : List Nat} {o c s c' : Nat} (h : oQ zs vs o vs.length ys c) (hi : o + vs.length < zs.length) (hs : s < WB) (hu : ys.getD (o + vs.length) 0 + 0 + c = s + c' * WB) :
  val (win (ys.set (o + vs.length) s) o (vs.length + 1)) + c' * WB ^ (vs.length + 1) = val (win zs o (vs.length + 1)) + val vs := by
 rw [jL, xU, kR _ _ _ (by rw [h.len]; exact hi), jL zs, Nat.pow_succ, ← h.out (o + vs.length) (by omega)]
 have hsum := h.sum
 rw [List.take_length] at hsum
 have := yG (WB ^ vs.length) (val (win ys o vs.length)) (val vs) (val (win zs o vs.length)) 0 (ys.getD (o + vs.length) 0) s c c' WB hsum hu
 rw [Nat.mul_zero, Nat.add_zero] at this
 exact this
end Go.Proofs.YtafikkmnkeddpaaGreatDoor
namespace Go.Proofs.YtafikkmnkeddpaaGreatDoor
open Go.RowKit
theorem qU {P a b : Nat} (h : P * a < P * b) : a < b := Nat.lt_of_mul_lt_mul_left h
theorem Ju {P B u2 u1 u0 ur v1 v0 vr q : Nat} (hB : u0 < B) (hr : ur < P) (hv1 : 0 < v1)
  (hq : q * (vr + P * (v0 + B * v1)) ≤ ur + P * (u0 + B * (u1 + B * u2))) : q ≤ (u2 * B + u1) / v1 := by
 rw [Nat.le_div_iff_mul_le hv1]
 have e1 : q * (vr + P * (v0 + B * v1)) = q * vr + P * (q * v0) + P * (B * (q * v1)) := by
  rw [Nat.mul_add, Nat.mul_left_comm, Nat.mul_add, Nat.mul_left_comm q B v1, Nat.mul_add, Nat.add_assoc]
 have e2 : P * (B * (q * v1)) < P * (B * (u2 * B + u1 + 1)) := by
  have e3 : B * (u2 * B + u1 + 1) = B * (u1 + B * u2) + B := by rw [Nat.mul_add, Nat.mul_one, Nat.mul_comm u2 B, Nat.add_comm (B * u2)]
  have e4 : P * (u0 + B * (u1 + B * u2) + 1) ≤ P * (B * (u1 + B * u2) + B) := Nat.mul_le_mul_left P (by omega)
  have e5 : P * (u0 + B * (u1 + B * u2) + 1) = P * (u0 + B * (u1 + B * u2)) + P := by rw [Nat.mul_add, Nat.mul_one]
  rw [e3]
  omega
 have := qU (qU e2)
 omega
theorem Jv {P B u2 u1 u0 ur v1 v0 vr q g r : Nat} (hr : ur < P) (hg : g * v1 + r = u2 * B + u1) (ht : r * B + u0 < g * v0)
  (hq : q * (vr + P * (v0 + B * v1)) ≤ ur + P * (u0 + B * (u1 + B * u2))) : q < g := by
 refine Nat.lt_of_not_le fun hle => ?_
 have h1 : g * (vr + P * (v0 + B * v1)) ≤ ur + P * (u0 + B * (u1 + B * u2)) := Nat.le_trans (Nat.mul_le_mul_right _ hle) hq
 have e1 : g * (vr + P * (v0 + B * v1)) = g * vr + P * (g * v0 + B * (g * v1)) := by
  rw [Nat.mul_add, Nat.mul_left_comm, Nat.mul_add, Nat.mul_left_comm g B v1]
 have e2 : P * (g * v0 + B * (g * v1)) < P * (u0 + B * (u1 + B * u2) + 1) := by
  rw [Nat.mul_add P _ 1, Nat.mul_one]
  omega
 have h2 := qU e2
 have e3 : B * (u1 + B * u2) = B * (g * v1) + r * B := by
  rw [Nat.mul_comm r B, ← Nat.mul_add, hg, Nat.mul_comm u2 B, Nat.add_comm]
 omega
theorem Jw (vs : List Nat) (m : Nat) (h : vs.length = m + 2) : val vs = val (vs.take m) + WB ^ m * (vs.getD m 0 + WB * vs.getD (m + 1) 0) := by
 have h1 := dG vs m
 have h2 := dG vs (m + 1)
 rw [List.take_of_length_le (by omega)] at h2
 rw [h2, h1, Nat.pow_succ, Nat.mul_add, Nat.mul_assoc, Nat.add_assoc]
theorem ES (a P B x y z : Nat) : a + P * x + P * B * y + P * B * B * z = a + P * (x + B * (y + B * z)) := by
 simp only [Nat.mul_add, Nat.mul_assoc, Nat.add_assoc]
theorem Jy (zs : List Nat) (o m : Nat) : val (win zs o (m + 3)) = val (win zs o m) + WB ^ m * (zs.getD (o + m) 0 + WB * (zs.getD (o + m + 1) 0 + WB * zs.getD (o + m + 2) 0)) := by
 rw [jL, jL, jL, Nat.pow_succ, Nat.pow_succ]
 exact ES _ _ _ _ _ _
theorem xq {U V R g q : Nat} (hV : 0 < V) (hq : q = U / V) (hge : q ≤ g) (h : R + g * V = U) : g = q ∧ R = U % V := by
 subst hq
 have h1 : g ≤ U / V := (Nat.le_div_iff_mul_le hV).2 (by omega)
 have h2 : g = U / V := Nat.le_antisymm h1 hge
 subst h2
 refine ⟨rfl, ?_⟩
 have := Nat.div_add_mod U V
 rw [Nat.mul_comm] at this
 omega
theorem ET {U V R g q W : Nat} (hV : 0 < V) (hq : q = U / V) (hR : R < W) (h : R + g * V = U + W) : 0 < g ∧ q ≤ g - 1 := by
 have h1 : U < g * V := by omega
 have h2 : q < g := by rw [hq]; exact (Nat.div_lt_iff_lt_mul hV).2 h1
 exact ⟨by omega, by omega⟩
theorem EU {U V R R' g c W : Nat} (hg : 0 < g) (h : R + g * V = U + W) (hb : R' + c * W = R + V) : R' + c * W + (g - 1) * V = U + W := by
 obtain ⟨p, rfl⟩ : ∃ p, g = p + 1 := ⟨g - 1, by omega⟩
 rw [Nat.succ_mul] at h
 rw [show p + 1 - 1 = p from rfl]
 omega
end Go.Proofs.YtafikkmnkeddpaaGreatDoor
namespace Go.Proofs.YtafikkmnkeddpaaGreatDoor
open Go.RowKit
theorem AQ {x y c hi lo lo' c1 : Nat} (hx : x < WB) (hy : y < WB) (hc : c < WB) (h1 : x * y = hi * WB + lo) (h2 : lo + c + 0 = lo' + c1 * WB) : x * y + c = (hi + c1) * WB + lo' ∧ hi + c1 < WB := by
 have e : x * y + c = (hi + c1) * WB + lo' := by rw [Nat.add_mul]; omega
 refine ⟨e, ?_⟩
 have h3 : x * y ≤ (WB - 1) * (WB - 1) := Nat.mul_le_mul (Nat.le_sub_one_of_lt hx) (Nat.le_sub_one_of_lt hy)
 have h4 : (WB - 1) * (WB - 1) + (WB - 1) < WB * WB := by decide +kernel
 have h5 : (hi + c1) * WB < WB * WB := Nat.lt_of_le_of_lt (Nat.le_trans (Nat.le_add_right _ lo') (Nat.le_of_eq e.symm)) (Nat.lt_of_le_of_lt (Nat.add_le_add h3 (Nat.le_sub_one_of_lt hc)) h4)
 exact Nat.lt_of_mul_lt_mul_right h5
def OI (w : World) (g : Nat) (zs vs : List Nat) (o x : Nat) (e : Ending) (w' : World) : Prop := ∃ ys b k,
 e = .returned (.bool (b != 0)) ∧ b ≤ 1 ∧ w' = (setB w g (.cells (cO ys) 22 (0, 0))).drewN k ∧ ys.length = zs.length ∧ Wd ys ∧ (∀ k, k < o ∨ o + vs.length < k → ys.getD k 0 = zs.getD k 0) ∧
 val (win ys o (vs.length + 1)) + x * val vs = val (win zs o (vs.length + 1)) + b * WB ^ (vs.length + 1)
set_option maxRecDepth 10000 in
set_option maxHeartbeats 2000000 in
theorem Jr (w : World) (g : Nat) (zs vs : List Nat) (o cu cv x : Nat) (A : Option Addr) (hr : Row w g zs) (hw : Wd zs) (ho : o + vs.length < zs.length) (hv : Nw w g A vs) (hvw : Wd vs) (hx : x < WB)
  (hl : zs.length ≤ 1000000000000) :
  Calls Tryz.prog 258 #[.slice (some ⟨g, o, none⟩) (vs.length + 1) cu, .slice A vs.length cv, .int .u64 (x : Int)] w (OI w g zs vs o x) := by
 have HROW := Lib.hid hr
 have HV := Lib.hid hv
 have HVW := Lib.hid hvw
 have HSELF := Lib.hid (lJ hr)
 have HST := Lib.hid (oP.start vs o x hw)
 have hn : vs.length ≤ 1000000000000 := by omega
 go_enter Tryz.func258, Tryz.ntmps258
 go_wp2
 go_loopw [7, 8, 17] (fun co bo t wr => ∃ (i c b k : Nat) (ys : List Nat), t = .int .i64 (i : Int) ∧ co = .int .u64 c ∧ bo = .int .u64 b ∧ i ≤ vs.length ∧ oP zs vs o x i ys c b ∧ Hid (wr = (setB w g (.cells (cO ys) 22 (0, 0))).drewN k)) (fun _ _ t _ => vs.length - (intOf t).toNat)
 case atStart => exact ⟨0, 0, 0, 0, zs, rfl, rfl, rfl, Nat.zero_le _, HST.out, Lib.hid HSELF.out.symm⟩
 case round =>
  obtain ⟨i, c, b, k, ys, rfl, rfl, rfl, hi, hinv, hwr⟩ := hrel
  have hrow : Row wr g ys := by rw [hwr.out]; exact HROW.out.setB
  have hyl := Lib.hid hinv.len
  have HROW2 := Lib.hid hrow
  by_cases hlt : i < vs.length
  ·obtain ⟨b3, o3, rfl, hb3, hc3⟩ := HV.out.at_ hlt
   have hcy : wr.cell? ⟨b3, o3 + i, none⟩ = some (.int .u64 ((vs.getD i 0 : Nat) : Int)) := by
    refine (World.cell?_of_block (w := w) ?_).trans hc3
    rw [hwr.out]
    exact jY (by show b3 ≠ g; omega)
   have hcz : wr.cell? ⟨g, o + i, none⟩ = some (.int .u64 ((ys.getD (o + i) 0 : Nat) : Int)) := hrow.cell (by rw [hyl.out]; omega)
   have hfz : wr.frozen? ⟨g, o + i, none⟩ = false := hrow.frozen _
   have hyw := HVW.out.get i
   have huw := hinv.wd.get (o + i)
   have hcw := hinv.cw
   have hbw := hinv.bw
   obtain ⟨hi', lo, hmul, hhi, hlo, hm⟩ := CV x (vs.getD i 0) hx hyw
   obtain ⟨lo', c1, hrun1, hs1, hc1, he1⟩ := oN lo c 0 hlo hcw (by omega)
   obtain ⟨s, b', hrun2, hs2, hb2, he2⟩ := CU (ys.getD (o + i) 0) lo' b huw hs1 hbw
   obtain ⟨hsum, hcb⟩ := AQ hx hyw hcw hm.out he1.out
   have HNEXT := Lib.hid (hinv.step (by omega) hsum hcb hb2 hs2 he2.out)
   rw [show ((0 : Nat) : Int) = 0 from rfl] at hrun1
   have hcb' : hi' + c1 ≤ 18446744073709551615 := by have hW : WB = 18446744073709551616 := rfl; omega
   generalize hyj : vs.getD i 0 = y at *
   generalize hpz : ys.getD (o + i) 0 = p at *
   clear hyj hpz hc3 hsum hcb hrow hinv
   go_wp2_with (go_at_call 190; refine (hmul _).mono ?_; rintro e w' ⟨rfl, rfl⟩)
   go_roundw
   case rel => exact ⟨i + 1, hi' + c1, b', k, ys.set (o + i) s, by go_num, by simp only [Int.natCast_add], rfl, by omega, HNEXT.out, Lib.hid (by rw [HROW2.out.set, hwr.out]; simp only [kK, iL])⟩
   case measure => simp only [intOf]; omega
  ·obtain rfl : i = vs.length := by omega
   have hcz : wr.cell? ⟨g, o + vs.length, none⟩ = some (.int .u64 ((ys.getD (o + vs.length) 0 : Nat) : Int)) := hrow.cell (by rw [hyl.out]; omega)
   have hfz : wr.frozen? ⟨g, o + vs.length, none⟩ = false := hrow.frozen _
   have huw := hinv.wd.get (o + vs.length)
   have hcw := hinv.cw
   have hbw := hinv.bw
   obtain ⟨s, b', hrun2, hs2, hb2, he2⟩ := CU (ys.getD (o + vs.length) 0) c b huw hcw hbw
   have HD := Lib.hid (hinv.done ho hs2 he2.out)
   have HO := Lib.hid hinv
   generalize hpz : ys.getD (o + vs.length) 0 = p at *
   clear hpz hrow hinv
   go_wp2
   go_ret
   refine ⟨ys.set (o + vs.length) s, b', k, oZ (qZ ?_), hb2, by rw [HROW2.out.set, hwr.out]; simp only [kK, iL], by rw [List.length_set]; exact hyl.out, HO.out.wd.set _ _ hs2, fun j hj => ?_, HD.out⟩
   ·have hb01 : b' = 0 ∨ b' = 1 := by omega
    rcases hb01 with rfl | rfl <;> rfl
   ·rw [getD_set_ne _ _ _ _ (by omega)]
    exact HO.out.out j (by omega)
def OJ (w : World) (g : Nat) (zs vs : List Nat) (o : Nat) (e : Ending) (w' : World) : Prop := ∃ ys c k,
 e = .returned (.bool (c != 0)) ∧ c ≤ 1 ∧ w' = (setB w g (.cells (cO ys) 22 (0, 0))).drewN k ∧ ys.length = zs.length ∧ Wd ys ∧ (∀ k, k < o ∨ o + vs.length < k → ys.getD k 0 = zs.getD k 0) ∧
 val (win ys o (vs.length + 1)) + c * WB ^ (vs.length + 1) = val (win zs o (vs.length + 1)) + val vs
set_option maxRecDepth 10000 in
set_option maxHeartbeats 2000000 in
theorem Js (w : World) (g : Nat) (zs vs : List Nat) (o cu cv : Nat) (A : Option Addr) (hr : Row w g zs) (hw : Wd zs) (ho : o + vs.length < zs.length) (hv : Nw w g A vs) (hvw : Wd vs)
  (hl : zs.length ≤ 1000000000000) :
  Calls Tryz.prog 259 #[.slice (some ⟨g, o, none⟩) (vs.length + 1) cu, .slice A vs.length cv] w (OJ w g zs vs o) := by
 have HROW := Lib.hid hr
 have HV := Lib.hid hv
 have HVW := Lib.hid hvw
 have HSELF := Lib.hid (lJ hr)
 have HST := Lib.hid (oQ.start vs o hw)
 have hn : vs.length ≤ 1000000000000 := by omega
 go_enter Tryz.func259, Tryz.ntmps259
 go_wp2
 go_loopw [5, 11] (fun co t wr => ∃ (i c k : Nat) (ys : List Nat), t = .int .i64 (i : Int) ∧ co = .int .u64 c ∧ i ≤ vs.length ∧ oQ zs vs o i ys c ∧ Hid (wr = (setB w g (.cells (cO ys) 22 (0, 0))).drewN k)) (fun _ t _ => vs.length - (intOf t).toNat)
 case atStart => exact ⟨0, 0, 0, zs, rfl, rfl, Nat.zero_le _, HST.out, Lib.hid HSELF.out.symm⟩
 case round =>
  obtain ⟨i, c, k, ys, rfl, rfl, hi, hinv, hwr⟩ := hrel
  have hrow : Row wr g ys := by rw [hwr.out]; exact HROW.out.setB
  have hyl := Lib.hid hinv.len
  have HROW2 := Lib.hid hrow
  by_cases hlt : i < vs.length
  ·obtain ⟨b3, o3, rfl, hb3, hc3⟩ := HV.out.at_ hlt
   have hcy : wr.cell? ⟨b3, o3 + i, none⟩ = some (.int .u64 ((vs.getD i 0 : Nat) : Int)) := by
    refine (World.cell?_of_block (w := w) ?_).trans hc3
    rw [hwr.out]
    exact jY (by show b3 ≠ g; omega)
   have hcz : wr.cell? ⟨g, o + i, none⟩ = some (.int .u64 ((ys.getD (o + i) 0 : Nat) : Int)) := hrow.cell (by rw [hyl.out]; omega)
   have hfz : wr.frozen? ⟨g, o + i, none⟩ = false := hrow.frozen _
   have hyw := HVW.out.get i
   have huw := hinv.wd.get (o + i)
   have hcw := hinv.cw
   obtain ⟨s, c', hrun2, hs2, hc2, he2⟩ := oN (ys.getD (o + i) 0) (vs.getD i 0) c huw hyw hcw
   have HNEXT := Lib.hid (hinv.step (by omega) hc2 hs2 he2.out)
   generalize hyj : vs.getD i 0 = y at *
   generalize hpz : ys.getD (o + i) 0 = p at *
   clear hyj hpz hc3 hrow hinv
   go_wp2
   go_roundw
   case rel => exact ⟨i + 1, c', k, ys.set (o + i) s, by go_num, rfl, by omega, HNEXT.out, Lib.hid (by rw [HROW2.out.set, hwr.out]; simp only [kK, iL])⟩
   case measure => simp only [intOf]; omega
  ·obtain rfl : i = vs.length := by omega
   have hcz : wr.cell? ⟨g, o + vs.length, none⟩ = some (.int .u64 ((ys.getD (o + vs.length) 0 : Nat) : Int)) := hrow.cell (by rw [hyl.out]; omega)
   have hfz : wr.frozen? ⟨g, o + vs.length, none⟩ = false := hrow.frozen _
   have huw := hinv.wd.get (o + vs.length)
   have hcw := hinv.cw
   obtain ⟨s, c', hrun2, hs2, hc2, he2⟩ := oN (ys.getD (o + vs.length) 0) 0 c huw (by decide) hcw
   have HD := Lib.hid (hinv.done ho hs2 he2.out)
   have HO := Lib.hid hinv
   rw [show ((0 : Nat) : Int) = 0 from rfl] at hrun2
   generalize hpz : ys.getD (o + vs.length) 0 = p at *
   clear hpz hrow hinv
   go_wp2
   go_ret
   refine ⟨ys.set (o + vs.length) s, c', k, oZ (qZ ?_), hc2, by rw [HROW2.out.set, hwr.out]; simp only [kK, iL], by rw [List.length_set]; exact hyl.out, HO.out.wd.set _ _ hs2, fun j hj => ?_, HD.out⟩
   ·have hb01 : c' = 0 ∨ c' = 1 := by omega
    rcases hb01 with rfl | rfl <;> rfl
   ·rw [getD_set_ne _ _ _ _ (by omega)]
    exact HO.out.out j (by omega)
end Go.Proofs.YtafikkmnkeddpaaGreatDoor
namespace Go.Proofs.YtafikkmnkeddpaaGreatDoor
open Go.RowKit
def EO (w : World) (g : Nat) (zs vs : List Nat) (o : Nat) (e : Ending) (w' : World) : Prop := ∃ ys k,
 e = .returned (.int .u64 ((val (win zs o (vs.length + 1)) / val vs : Nat) : Int)) ∧ w' = (setB w g (.cells (cO ys) 22 (0, 0))).drewN k ∧ ys.length = zs.length ∧ Wd ys ∧
 (∀ k, k < o ∨ o + vs.length < k → ys.getD k 0 = zs.getD k 0) ∧ val (win ys o (vs.length + 1)) = val (win zs o (vs.length + 1)) % val vs
set_option maxRecDepth 10000 in
set_option maxHeartbeats 2000000 in
theorem Ir (w : World) (g : Nat) (zs vs : List Nat) (o m cu cv : Nat) (A : Option Addr) (hr : Row w g zs) (hw : Wd zs) (hm : vs.length = m + 2) (ho : o + m + 2 < zs.length) (hv : Nw w g A vs) (hvw : Wd vs)
  (hl : zs.length ≤ 1000000000000) (hv1 : 9223372036854775808 ≤ vs.getD (m + 1) 0) (hlt : val (win zs o (m + 3)) < WB * val vs) :
  Calls Tryz.prog 228 #[.slice (some ⟨g, o, none⟩) (m + 3) cu, .slice A (m + 2) cv] w (EO w g zs vs o) := by
 obtain ⟨gv, ov, rfl, hgv, hcv⟩ := hv (by omega)
 have hcv1 := hcv (m + 1) (by omega)
 have hcv0 := hcv m (by omega)
 have hcu2 : w.cell? ⟨g, o + (m + 2), none⟩ = _ := hr.cell (by omega)
 have hcu1 : w.cell? ⟨g, o + (m + 1), none⟩ = _ := hr.cell (by omega)
 have hcu0 : w.cell? ⟨g, o + m, none⟩ = _ := hr.cell (by omega)
 have hwv1 := hvw.get (m + 1)
 have hwv0 := hvw.get m
 have hwu2 := hw.get (o + (m + 2))
 have hwu1 := hw.get (o + (m + 1))
 have hwu0 := hw.get (o + m)
 have hmb : m ≤ 1000000000000 := by omega
 have ht2 := Jw vs m hm
 have ht3 := Jy zs o m
 have ha2 : zs.getD (o + m + 2) 0 = zs.getD (o + (m + 2)) 0 := rfl
 have ha1 : zs.getD (o + m + 1) 0 = zs.getD (o + (m + 1)) 0 := rfl
 rw [ha1, ha2] at ht3
 have hub := yE hw o m
 have hq : val (win zs o (m + 3)) / val vs * val vs ≤ val (win zs o (m + 3)) := Nat.div_mul_le_self _ _
 have hVpos : 0 < val vs := Nat.pos_of_ne_zero fun h0 => by rw [h0, Nat.mul_zero] at hlt; omega
 have hqw : val (win zs o (m + 3)) / val vs < WB := (Nat.div_lt_iff_lt_mul hVpos).2 hlt
 have hq2 : val (win zs o (m + 3)) / val vs * (val (vs.take m) + WB ^ m * (vs.getD m 0 + WB * vs.getD (m + 1) 0)) ≤
   val (win zs o m) + WB ^ m * (zs.getD (o + m) 0 + WB * (zs.getD (o + (m + 1)) 0 + WB * zs.getD (o + (m + 2)) 0)) := by rw [← ht2, ← ht3]; exact hq
 have G1 := Lib.hid (Ju hwu0 hub (show 0 < vs.getD (m + 1) 0 by omega) hq2)
 have G2 := Lib.hid (fun g r (hg : g * vs.getD (m + 1) 0 + r = zs.getD (o + (m + 2)) 0 * WB + zs.getD (o + (m + 1)) 0) (ht : r * WB + zs.getD (o + m) 0 < g * vs.getD m 0) => Jv hub hg ht hq2)
 have HQW := Lib.hid hqw
 have HVP := Lib.hid hVpos
 have HR := Lib.hid hr
 have HW := Lib.hid hw
 have HV := Lib.hid hv
 have HVW := Lib.hid hvw
 have HVS := Lib.hid hlt
 unfold EO
 rw [hm]
 clear hq hq2 hqw hVpos hlt ht2 ht3 ha2 ha1 hub hcv hr hw hv hvw
 obtain ⟨Q, hQ⟩ : ∃ Q, Q = val (win zs o (m + 3)) / val vs := ⟨_, rfl⟩
 rw [← hQ] at G1 G2 HQW
 have HQ := Lib.hid hQ
 clear hQ
 generalize vs.getD (m + 1) 0 = v1 at *
 generalize vs.getD m 0 = v0 at *
 generalize zs.getD (o + (m + 2)) 0 = u2 at *
 generalize zs.getD (o + (m + 1)) 0 = u1 at *
 generalize zs.getD (o + m) 0 = u0 at *
 have w1 : IntKind.i64.wrap ((m : Int) + 2 - 1) = (m : Int) + 1 := IntWalk.i64_in _ (by omega) |>.trans (by omega)
 have w2 : IntKind.i64.wrap ((m : Int) + 2 - 2) = (m : Int) := IntWalk.i64_in _ (by omega) |>.trans (by omega)
 have w3 : (0 : Int) ≤ (m : Int) + 1 := by omega
 have w4 : (0 : Int) ≤ (m : Int) + 2 := by omega
 have w5 : ((m : Int) + 1).toNat = m + 1 := by omega
 have w6 : ((m : Int) + 2).toNat = m + 2 := by omega
 have w7 : (m : Int) + 1 < (m : Int) + 2 := by omega
 have w8 : (m : Int) + 2 < (m : Int) + 3 := by omega
 have w9 : (m : Int) + 1 < (m : Int) + 3 := by omega
 have w10 : (m : Int) < (m : Int) + 2 := by omega
 have w11 : (m : Int) < (m : Int) + 3 := by omega
 go_enter Tryz.func228, Tryz.ntmps228
 go_upto_region 3 with fail
 go_quiet (fail)
 go_upto_if 22 with fail
 go_cut [6] from 22 to 81 (fun t wx => ∃ G k : Nat, t = .int .u64 (G : Int) ∧ Q ≤ G ∧ G < WB ∧ wx = w.drewN k)
 case first =>
  by_cases hlt : u2 < v1
  ·have hltB : decide (u2 < v1) = true := decide_eq_true hlt
   have hdv := fun W => JB u2 u1 v1 hlt hwv1 hwu1 W
   unfold yH at hdv
   have hdm := Nat.div_add_mod (u2 * WB + u1) v1
   have hrm := Nat.mod_lt (u2 * WB + u1) (show 0 < v1 by omega)
   have hgq := G1.out
   have hgw : (u2 * WB + u1) / v1 < WB := by
    rw [Nat.div_lt_iff_lt_mul (by omega), Nat.mul_comm WB v1]
    have := Nat.mul_le_mul_right WB (show u2 + 1 ≤ v1 from hlt)
    rw [Nat.succ_mul] at this
    exact Nat.lt_of_lt_of_le (Nat.add_lt_add_left hwu1 _) this
   generalize (u2 * WB + u1) / v1 = q0 at *
   generalize (u2 * WB + u1) % v1 = r0 at *
   rw [Nat.mul_comm] at hdm
   have HDM := Lib.hid hdm
   have HI := Lib.hid (show q0 * v1 + r0 = u2 * WB + u1 ∧ Q ≤ q0 ∧ q0 < WB ∧ r0 < WB from ⟨hdm, hgq, hgw, by omega⟩)
   clear hdm hrm hgq hgw hv1
   go_upto_region 5 with fail
   go_quiet ((go_at_call 221; refine (hdv _).mono ?_; rintro e' w' ⟨rfl, n, rfl⟩; exact ⟨rfl, _, by rw [World.drewN_drewN, Nat.add_assoc]⟩))
   go_wp2_with fail
   simp only [World.drewN_drewN]
   generalize hwq : w.drewN _ = wq
   have b0 : wq.cell? ⟨gv, ov + m, none⟩ = some (.int .u64 (v0 : Int)) := by rw [← hwq]; exact hcv0
   have b1 : wq.cell? ⟨gv, ov + (m + 1), none⟩ = some (.int .u64 (v1 : Int)) := by rw [← hwq]; exact hcv1
   have b2 : wq.cell? ⟨g, o + m, none⟩ = some (.int .u64 (u0 : Int)) := by rw [← hwq]; exact hcu0
   have HWQ := Lib.hid hwq
   clear hwq hcv0 hcv1 hcu0 hcu1 hcu2
   simp only [hltB]
   go_loopw [6, 7] (fun t t2 wr => ∃ q r : Nat, t = .int .u64 q ∧ t2 = .int .u64 r ∧ Hid (q * v1 + r = u2 * WB + u1) ∧ Hid (Q ≤ q) ∧ q < WB ∧ r < WB ∧ Hid (wr = wq)) (fun t _ _ => (intOf t).toNat)
   case atStart => exact ⟨q0, r0, rfl, rfl, Lib.hid HI.out.1, Lib.hid HI.out.2.1, HI.out.2.2.1, HI.out.2.2.2, Lib.hid rfl⟩
   case round =>
    obtain ⟨q, r, rfl, rfl, hqr, hQq, hqw, hrw, hwr⟩ := hrel
    obtain rfl := hwr.out
    clear hwr
    obtain ⟨hi', lo, hmul, hhi, hlo, hm⟩ := CV q v0 hqw hwv0
    by_cases c1 : hi' < r
    ·have c1B : decide (hi' < r) = true := decide_eq_true c1
     go_wp2_with (go_at_call 190; refine (hmul _).mono ?_; rintro e' w' ⟨rfl, rfl⟩)
     go_meet
     exact ⟨q, _, rfl, hQq.out, hqw, HWQ.out.symm⟩
    ·have c1B : decide (hi' < r) = false := decide_eq_false c1
     by_cases c2 : hi' = r
     ·subst c2
      by_cases c3 : lo ≤ u0
      ·have c3B : decide (lo ≤ u0) = true := decide_eq_true c3
       go_wp2_with (go_at_call 190; refine (hmul _).mono ?_; rintro e' w' ⟨rfl, rfl⟩)
       go_meet
       exact ⟨q, _, rfl, hQq.out, hqw, HWQ.out.symm⟩
      ·have c3B : decide (lo ≤ u0) = false := decide_eq_false c3
       obtain ⟨hk, hqq⟩ : 0 < q ∧ Q ≤ q - 1 := by
        have := G2.out q hi' hqr.out (by rw [hm.out]; omega)
        omega
       obtain ⟨q', hq'⟩ : ∃ q', q' = q - 1 := ⟨_, rfl⟩
       obtain ⟨s, c', hrun, hs, hc, he⟩ := oN hi' v1 0 hrw hwv1 (by omega)
       rw [show ((0 : Nat) : Int) = 0 from rfl] at hrun
       have hsub : q' * v1 + (hi' + v1) = u2 * WB + u1 := by
        rw [hq', ← hqr.out]
        obtain ⟨p, rfl⟩ : ∃ p, q = p + 1 := ⟨q - 1, by omega⟩
        rw [show p + 1 - 1 = p from rfl, Nat.succ_mul]
        omega
       rw [← hq'] at hqq
       have hqw' : q' < WB := by omega
       have hmeas : q' < q := by omega
       have j1 : IntKind.u64.wrap ((q : Int) - 1) = (q' : Int) := IntWalk.u64_in _ (by have hW : WB = 18446744073709551616 := rfl; omega) |>.trans (by omega)
       have HE := Lib.hid he.out
       have HS := Lib.hid hsub
       have HQQ := Lib.hid hqq
       clear hq' hsub hqq he hk
       clear c1
       have hc01 : c' = 0 ∨ c' = 1 := by omega
       try clear c2
       try clear c3
       rcases hc01 with rfl | rfl
       ·have HS2 := Lib.hid (show q' * v1 + s = u2 * WB + u1 by have h1 := HE.out; have h2 := HS.out; omega)
        rw [show ((0 : Nat) : Int) = 0 from rfl] at hrun
        go_wp2_with (go_at_call 190; refine (hmul _).mono ?_; rintro e' w' ⟨rfl, rfl⟩)
        go_roundw
        case rel => exact ⟨q', s, rfl, rfl, Lib.hid HS2.out, Lib.hid HQQ.out, hqw', hs, Lib.hid (by trivial)⟩
        case measure => simp only [intOf]; omega
       ·go_wp2_with (go_at_call 190; refine (hmul _).mono ?_; rintro e' w' ⟨rfl, rfl⟩)
        go_meet
        exact ⟨q', _, rfl, HQQ.out, hqw', HWQ.out.symm⟩
     ·have c2B : ((hi' : Int) == (r : Int)) = false := by rw [beq_eq_false_iff_ne]; omega
      have c2C : (hi' == r) = false := by rw [beq_eq_false_iff_ne]; exact c2
      obtain ⟨hk, hqq⟩ : 0 < q ∧ Q ≤ q - 1 := by
       have := G2.out q r hqr.out (by rw [hm.out]; have h5 := Nat.mul_le_mul_right WB (show r + 1 ≤ hi' by omega); rw [Nat.succ_mul] at h5; omega)
       omega
      obtain ⟨q', hq'⟩ : ∃ q', q' = q - 1 := ⟨_, rfl⟩
      obtain ⟨s, c', hrun, hs, hc, he⟩ := oN r v1 0 hrw hwv1 (by omega)
      rw [show ((0 : Nat) : Int) = 0 from rfl] at hrun
      have hsub : q' * v1 + (r + v1) = u2 * WB + u1 := by
       rw [hq', ← hqr.out]
       obtain ⟨p, rfl⟩ : ∃ p, q = p + 1 := ⟨q - 1, by omega⟩
       rw [show p + 1 - 1 = p from rfl, Nat.succ_mul]
       omega
      rw [← hq'] at hqq
      have hqw' : q' < WB := by omega
      have hmeas : q' < q := by omega
      have j1 : IntKind.u64.wrap ((q : Int) - 1) = (q' : Int) := IntWalk.u64_in _ (by have hW : WB = 18446744073709551616 := rfl; omega) |>.trans (by omega)
      have HE := Lib.hid he.out
      have HS := Lib.hid hsub
      have HQQ := Lib.hid hqq
      clear hq' hsub hqq he hk
      clear c1
      have hc01 : c' = 0 ∨ c' = 1 := by omega
      try clear c2
      try clear c3
      rcases hc01 with rfl | rfl
      ·have HS2 := Lib.hid (show q' * v1 + s = u2 * WB + u1 by have h1 := HE.out; have h2 := HS.out; omega)
       rw [show ((0 : Nat) : Int) = 0 from rfl] at hrun
       go_wp2_with (go_at_call 190; refine (hmul _).mono ?_; rintro e' w' ⟨rfl, rfl⟩)
       go_roundw
       case rel => exact ⟨q', s, rfl, rfl, Lib.hid HS2.out, Lib.hid HQQ.out, hqw', hs, Lib.hid (by trivial)⟩
       case measure => simp only [intOf]; omega
      ·go_wp2_with (go_at_call 190; refine (hmul _).mono ?_; rintro e' w' ⟨rfl, rfl⟩)
       go_meet
       exact ⟨q', _, rfl, HQQ.out, hqw', HWQ.out.symm⟩
  ·have hltB : decide (u2 < v1) = false := decide_eq_false hlt
   go_wp2
   go_meet
   exact ⟨18446744073709551615, _, rfl, Nat.le_sub_one_of_lt HQW.out, by decide, rfl⟩
 case rest =>
  obtain ⟨G, k, rfl, hQG, hGw, rfl⟩ := hcut
  have htk := Jr (w.drewN k) g zs vs o cu cv G (some ⟨gv, ov, none⟩) HR.out HW.out (by omega) HV.out HVW.out hGw hl
  unfold OI at htk
  rw [hm] at htk
  go_wp2_with (go_at_call 258; refine htk.mono ?_; rintro e' w' ⟨ys, b, k2, rfl, hb, rfl, hyl, hyw, hout, hsum⟩; have HS := Lib.hid hsum; have HO := Lib.hid hout; clear hsum hout; obtain rfl | rfl : b = 0 ∨ b = 1 := by omega)
  ·go_ret
   obtain ⟨z1, z2⟩ := xq HVP.out HQ.out hQG (R := val (win ys o (m + 2 + 1))) (by have := HS.out; rw [Nat.zero_mul, Nat.add_zero] at this; exact this)
   exact ⟨ys, k + k2, oZ (pO (by rw [z1, HQ.out])), by simp only [kK, World.drewN_drewN], hyl, hyw, HO.out, z2⟩
  ·go_loopw [6] (fun t wr => ∃ (G j : Nat) (xs : List Nat), t = .int .u64 (G : Int) ∧ Hid (val (win xs o (m + 2 + 1)) + G * val vs = val (win zs o (m + 2 + 1)) + WB ^ (m + 2 + 1)) ∧ G < WB ∧ Hid (wr = (setB w g (.cells (cO xs) 22 (0, 0))).drewN j) ∧
     Hid (xs.length = zs.length ∧ Wd xs ∧ (∀ k, k < o ∨ o + (m + 2) < k → xs.getD k 0 = zs.getD k 0)) ∧ Hid (Q ≤ G)) (fun t _ => (intOf t).toNat)
   case atStart => exact ⟨G, k + k2, ys, rfl, Lib.hid (by have := HS.out; rw [Nat.one_mul] at this; exact this), hGw, Lib.hid (by simp only [kK, World.drewN_drewN]), Lib.hid ⟨hyl, hyw, HO.out⟩, Lib.hid hQG⟩
   case round =>
    obtain ⟨G, j, xs, rfl, hS, hG, hwr, hX, hq⟩ := hrel
    have hrow : Row wr g xs := by rw [hwr.out]; exact HR.out.setB
    have hR := yE hX.out.2.1 o (m + 2 + 1)
    obtain ⟨g0, hq1⟩ := ET HVP.out HQ.out hR hS.out
    obtain ⟨G', hG'⟩ : ∃ G', G' = G - 1 := ⟨_, rfl⟩
    have j1 : IntKind.u64.wrap ((G : Int) - 1) = (G' : Int) := IntWalk.u64_in _ (by have hW : WB = 18446744073709551616 := rfl; omega) |>.trans (by omega)
    have hnw : Nw wr g (some ⟨gv, ov, none⟩) vs := HV.out.keep fun b o hb => by
     rw [hwr.out]
     exact World.cell?_of_block (w := w) (jY (by show b ≠ g; omega))
    have hbk := Js wr g xs vs o cu cv (some ⟨gv, ov, none⟩) hrow hX.out.2.1 (by rw [hX.out.1]; omega) hnw HVW.out (by rw [hX.out.1]; exact hl)
    unfold OJ at hbk
    rw [hm] at hbk
    have HB := Lib.hid fun (R' c : Nat) (h : R' + c * WB ^ (m + 2 + 1) = val (win xs o (m + 2 + 1)) + val vs) => EU g0 hS.out h
    rw [← hG'] at hq1 HB
    have HQ1 := Lib.hid hq1
    have hmeas : G' < G := by omega
    have hGw' : G' < WB := by omega
    clear hq1 hG' hR hrow hnw g0
    go_wp2_with (go_at_call 259; refine hbk.mono ?_; rintro e' w' ⟨ys2, c, k3, rfl, hc, rfl, hyl2, hyw2, hout2, hsum2⟩; have HS2 := Lib.hid hsum2; have HO2 := Lib.hid hout2; clear hsum2 hout2; obtain rfl | rfl : c = 0 ∨ c = 1 := by omega)
    ·go_roundw
     case rel => exact ⟨G', j + k3, ys2, rfl, Lib.hid (by have h1 := HB.out _ 0 HS2.out; rw [Nat.zero_mul, Nat.add_zero] at h1; exact h1), hGw', Lib.hid (by rw [hwr.out]; simp only [kK, iL, World.drewN_drewN]),
      Lib.hid ⟨hyl2.trans hX.out.1, hyw2, fun k hk => (HO2.out k hk).trans (hX.out.2.2 k hk)⟩, Lib.hid HQ1.out⟩
     case measure => simp only [intOf]; omega
    ·go_ret
     have h1 := HB.out _ 1 HS2.out
     obtain ⟨z1, z2⟩ := xq HVP.out HQ.out HQ1.out (R := val (win ys2 o (m + 2 + 1))) (by rw [Nat.one_mul, Nat.add_right_comm] at h1; exact Nat.add_right_cancel h1)
     exact ⟨ys2, j + k3, oZ (pO (by rw [z1, HQ.out])), by rw [hwr.out]; simp only [kK, iL, World.drewN_drewN], hyl2.trans hX.out.1, hyw2, fun k hk => (HO2.out k hk).trans (hX.out.2.2 k hk), z2⟩
end Go.Proofs.YtafikkmnkeddpaaGreatDoor
namespace Go.Proofs.YtafikkmnkeddpaaGreatDoor
open Go.RowKit
theorem wS {xs : List Nat} (h : val xs = 0) (k : Nat) : xs.getD k 0 = 0 := by
 induction xs generalizing k with
 | nil => simp
 | cons x xs ih =>
  have h1 : x + WB * val xs = 0 := h
  have hx : x = 0 := by omega
  have hv : val xs = 0 := by
   have : WB * val xs = 0 := by omega
   rcases Nat.mul_eq_zero.1 this with h2 | h2
   ·exact absurd h2 (by decide)
   ·exact h2
  cases k with
  | zero => simpa using hx
  | succ k => simpa using ih hv k
theorem zO (zs : List Nat) (o n : Nat) (h : o ≤ zs.length) : val zs = val (zs.take o) + WB ^ o * (val (win zs o n) + WB ^ (win zs o n).length * val (zs.drop (o + n))) := by
 have h1 := kZ zs o
 have h2 := kZ (zs.drop o) n
 rw [h1, h2, List.drop_drop]
 by_cases hl : o + n ≤ zs.length
 ·rw [ML _ _ _ hl]; rfl
 ·have e : zs.drop (o + n) = [] := List.drop_of_length_le (by omega)
  rw [e]
  simp [val, win]
theorem BD {zs : List Nat} (hw : Wd zs) (o n : Nat) (hl : o + n ≤ zs.length) (h : val zs < WB ^ (o + n)) : val zs = val (zs.take o) + WB ^ o * val (win zs o n) ∧ ∀ k, o + n ≤ k → zs.getD k 0 = 0 := by
 have h1 := kZ zs (o + n)
 have hz : val (zs.drop (o + n)) = 0 := by
  rcases Nat.eq_zero_or_pos (val (zs.drop (o + n))) with h2 | h2
  ·exact h2
  ·exfalso
   have : WB ^ (o + n) * 1 ≤ WB ^ (o + n) * val (zs.drop (o + n)) := Nat.mul_le_mul_left _ h2
   omega
 have h3 := zO zs o n (by omega)
 rw [hz, Nat.mul_zero, Nat.add_zero] at h3
 refine ⟨h3, fun k hk => ?_⟩
 have := wS hz (k - (o + n))
 rw [AY, Nat.add_sub_cancel' hk] at this
 exact this
structure pz (A V n j : Nat) (zs qs : List Nat) : Prop where
 wd : Wd zs
 wq : Wd qs
 low : ∀ k, k < j → qs.getD k 0 = 0
 small : val zs < V * WB ^ j
 sum : val qs * V + val zs = A
theorem C_ {qs : List Nat} {j : Nat} (hj : j < qs.length) (h : qs.getD j 0 = 0) (d : Nat) : val (qs.set j d) = val qs + WB ^ j * d := by
 have h1 := kZ (qs.set j d) j
 have h2 := kZ qs j
 rw [h1, h2]
 have e1 : (qs.set j d).take j = qs.take j := by rw [List.take_set, List.set_eq_of_length_le (by rw [List.length_take]; omega)]
 rw [e1, uT (qs.set j d) j (by rw [List.length_set]; exact hj), uT qs j hj, kR _ _ _ hj, h, xk _ _ _ _ (by omega)]
 rw [Nat.zero_add, Nat.mul_add]
 omega
theorem Ob {P B V t W z : Nat} (hP : 0 < P) (h : z = t + P * W) (hs : z < V * (P * B)) : W < B * V := by
 have h1 : P * W < P * (B * V) := by
  have : V * (P * B) = P * (B * V) := by rw [Nat.mul_left_comm, Nat.mul_comm V B]
  omega
 exact Nat.lt_of_mul_lt_mul_left h1
theorem pz.window {A V n j : Nat} {zs qs : List Nat} (h : pz A V n (j + 1) zs qs) (hV : V < WB ^ n) (hl : j + (n + 1) ≤ zs.length) :
  val zs = val (zs.take j) + WB ^ j * val (win zs j (n + 1)) ∧ (∀ k, j + (n + 1) ≤ k → zs.getD k 0 = 0) ∧ val (win zs j (n + 1)) < WB * V := by
 have hs := h.small
 have h1 : val zs < WB ^ (j + (n + 1)) := by
  refine Nat.lt_of_lt_of_le hs ?_
  have : V * WB ^ (j + 1) ≤ WB ^ n * WB ^ (j + 1) := Nat.mul_le_mul_right _ (Nat.le_of_lt hV)
  rw [← Nat.pow_add] at this
  rw [show j + (n + 1) = n + (j + 1) by omega]
  exact this
 obtain ⟨h2, h3⟩ := BD h.wd j (n + 1) hl h1
 refine ⟨h2, h3, ?_⟩
 rw [Nat.pow_succ] at hs
 exact Ob (Nat.pow_pos (by decide)) h2 hs
theorem pz.step {A V n j : Nat} {zs qs ys : List Nat} (h : pz A V n (j + 1) zs qs) (hV0 : 0 < V) (hV : V < WB ^ n) (hl : j + (n + 1) ≤ zs.length) (hq : j < qs.length)
  (yl : ys.length = zs.length) (yw : Wd ys) (yo : ∀ k, k < j ∨ j + n < k → ys.getD k 0 = zs.getD k 0) (yv : val (win ys j (n + 1)) = val (win zs j (n + 1)) % V) :
  pz A V n j ys (qs.set j (val (win zs j (n + 1)) / V)) := by
 obtain ⟨h1, h2, h3⟩ := h.window hV hl
 have e1 : ys.take j = zs.take j := by
  apply List.ext_getElem
  ·rw [List.length_take, List.length_take, yl]
  ·intro k k1 k2
   rw [List.length_take] at k1
   have := yo k (.inl (by omega))
   rw [List.getD_eq_getElem?_getD, List.getD_eq_getElem?_getD, List.getElem?_eq_getElem (by omega), List.getElem?_eq_getElem (by omega)] at this
   simpa using this
 have e2 : val ys = val (zs.take j) + WB ^ j * (val (win zs j (n + 1)) % V) := by
  have hz : val (ys.drop (j + (n + 1))) = 0 := by
   have : ys.drop (j + (n + 1)) = zs.drop (j + (n + 1)) := vJ yl _ fun k hk => yo k (.inr (by omega))
   rw [this]
   have e := kZ zs (j + (n + 1))
   have e' : zs.drop (j + (n + 1)) = List.replicate (zs.drop (j + (n + 1))).length 0 := by
    apply List.ext_getElem
    ·simp
    ·intro k k1 k2
     have := h2 (j + (n + 1) + k) (by omega)
     rw [List.length_drop] at k1
     rw [List.getD_eq_getElem?_getD, List.getElem?_eq_getElem (by omega)] at this
     simpa using this
   rw [e', lF]
  have := zO ys j (n + 1) (by omega)
  rw [hz, Nat.mul_zero, Nat.add_zero, yv, e1] at this
  exact this
 have hd : val (win zs j (n + 1)) / V < WB := (Nat.div_lt_iff_lt_mul hV0).2 h3
 refine ⟨yw, h.wq.set _ _ hd, fun k hk => ?_, ?_, ?_⟩
 ·rw [getD_set_ne _ _ _ _ (by omega)]
  exact h.low k (by omega)
 ·rw [e2]
  have k1 : val (zs.take j) < WB ^ j := Nat.lt_of_lt_of_le (oO (h.wd.take j)) (Nat.pow_le_pow_right (by decide) (by rw [List.length_take]; omega))
  have k2 : WB ^ j * (val (win zs j (n + 1)) % V + 1) ≤ WB ^ j * V := Nat.mul_le_mul_left _ (Nat.mod_lt _ hV0)
  rw [Nat.mul_add, Nat.mul_one, Nat.mul_comm (WB ^ j) V] at k2
  omega
 ·rw [C_ hq (h.low j (by omega)), e2]
  have hs := h.sum
  rw [h1] at hs
  rw [← hs, Nat.add_mul, Nat.mul_assoc]
  have := Nat.div_add_mod (val (win zs j (n + 1))) V
  have e : WB ^ j * (val (win zs j (n + 1)) / V * V) + WB ^ j * (val (win zs j (n + 1)) % V) = WB ^ j * val (win zs j (n + 1)) := by
   rw [← Nat.mul_add, Nat.mul_comm (_ / V) V, this]
  omega
theorem pz.done {A V n : Nat} {zs qs : List Nat} (h : pz A V n 0 zs qs) : val qs = A / V ∧ val zs = A % V := by
 have hs := h.small
 rw [Nat.pow_zero, Nat.mul_one] at hs
 have hV : 0 < V := by omega
 rw [← h.sum, Nat.add_comm, Nat.mul_comm]
 exact ⟨by rw [Nat.add_mul_div_left _ _ hV, Nat.div_eq_of_lt hs, Nat.zero_add], by rw [Nat.add_mul_mod_self_left, Nat.mod_eq_of_lt hs]⟩
theorem Oc {b m s : Nat} (hn : (toW b).length = m + 1) (hs : dB ((toW b).getD m 0) + s = 64) :
  b * 2 ^ s < WB ^ (m + 1) ∧ WB ^ m * 9223372036854775808 ≤ b * 2 ^ s ∧ s < 64 ∧ (toW (b * 2 ^ s)).length = m + 1 ∧ 9223372036854775808 ≤ (toW (b * 2 ^ s)).getD m 0 := by
 have hp := Nat.two_pow_pos s
 have ht0 := zI hn
 have htw := (kX b).get m
 have hb := dG (toW b) m
 rw [List.take_of_length_le (by omega), dI] at hb
 have hlow : val ((toW b).take m) < WB ^ m := Nat.lt_of_lt_of_le (oO ((kX b).take m)) (Nat.pow_le_pow_right (by decide) (by rw [List.length_take]; omega))
 have hb1 : 1 ≤ dB ((toW b).getD m 0) := by rw [lC ht0]; omega
 have e64 : WB = 2 ^ dB ((toW b).getD m 0) * 2 ^ s := by rw [← Nat.pow_add, hs]
 have e63 : 9223372036854775808 = 2 ^ (dB ((toW b).getD m 0) - 1) * 2 ^ s := by rw [← Nat.pow_add, show dB ((toW b).getD m 0) - 1 + s = 63 by omega]
 have h1 := kP ((toW b).getD m 0)
 have h2 := oG ht0
 generalize (toW b).getD m 0 = t at *
 generalize val ((toW b).take m) = low at *
 have k1 : (t + 1) * 2 ^ s ≤ WB := by rw [e64]; exact Nat.mul_le_mul_right _ h1
 have k2 : 9223372036854775808 ≤ t * 2 ^ s := by rw [e63]; exact Nat.mul_le_mul_right _ h2
 have hV : b * 2 ^ s = low * 2 ^ s + WB ^ m * (t * 2 ^ s) := by rw [hb, Nat.add_mul, Nat.mul_assoc]
 have hlt : b * 2 ^ s < WB ^ (m + 1) := by
  have k3 : WB ^ m * ((t + 1) * 2 ^ s) ≤ WB ^ m * WB := Nat.mul_le_mul_left _ k1
  have k4 : low * 2 ^ s < WB ^ m * 2 ^ s := Nat.mul_lt_mul_of_pos_right hlow hp
  rw [Nat.succ_mul, Nat.mul_add] at k3
  rw [hV, Nat.pow_succ]
  omega
 have hge : WB ^ m * 9223372036854775808 ≤ b * 2 ^ s := by
  rw [hV]
  exact Nat.le_trans (Nat.mul_le_mul_left _ k2) (Nat.le_add_left _ _)
 have hlen : (toW (b * 2 ^ s)).length = m + 1 := by
  have l1 := jZ hlt
  have l2 : m < (toW (b * 2 ^ s)).length := ug (Nat.lt_of_le_of_lt (Nat.le_trans (by have := Nat.mul_le_mul_left (WB ^ m) (show 1 ≤ 9223372036854775808 by decide); rw [Nat.mul_one] at this; exact this) hge) (nV _))
  omega
 refine ⟨hlt, hge, by omega, hlen, ?_⟩
 have hv := dG (toW (b * 2 ^ s)) m
 rw [List.take_of_length_le (by omega), dI] at hv
 have hlow2 : val ((toW (b * 2 ^ s)).take m) < WB ^ m := Nat.lt_of_lt_of_le (oO ((kX _).take m)) (Nat.pow_le_pow_right (by decide) (by rw [List.length_take]; omega))
 refine Nat.le_of_not_lt fun hc => ?_
 have k5 : WB ^ m * ((toW (b * 2 ^ s)).getD m 0 + 1) ≤ WB ^ m * 9223372036854775808 := Nat.mul_le_mul_left _ hc
 rw [Nat.mul_add, Nat.mul_one] at k5
 omega
theorem Gg {a V m k s : Nat} (hs : s < 64) (ha : a < WB ^ (m + k)) (hV : WB ^ m * 9223372036854775808 ≤ V) : a * 2 ^ s < V * WB ^ k := by
 have h1 : a * 2 ^ s < WB ^ (m + k) * 2 ^ s := Nat.mul_lt_mul_of_pos_right ha (Nat.two_pow_pos s)
 have h2 : 2 ^ s ≤ 9223372036854775808 := Nat.pow_le_pow_right (n := 2) (by decide) (show s ≤ 63 by omega)
 have h3 : WB ^ (m + k) * 2 ^ s ≤ WB ^ (m + k) * 9223372036854775808 := Nat.mul_le_mul_left _ h2
 have h4 : WB ^ m * 9223372036854775808 * WB ^ k ≤ V * WB ^ k := Nat.mul_le_mul_right _ hV
 have h5 : WB ^ m * 9223372036854775808 * WB ^ k = WB ^ (m + k) * 9223372036854775808 := by rw [Nat.pow_add, Nat.mul_right_comm]
 omega
end Go.Proofs.YtafikkmnkeddpaaGreatDoor
namespace Go.Proofs.YtafikkmnkeddpaaGreatDoor
open Go.RowKit
def Gf (A A' : Option Addr) : Prop := ∀ b b' : Addr, A = some b → A' = some b' → b.block ≠ b'.block
theorem ku.apart {B : Nat} {w : World} {A : Option Addr} {c v : Nat} (h : ku B w A c v) {a : Addr} (hg : a.block < B) : Gf (some a) A := fun b b' h1 h2 => by
 rcases h.row with h3 | ⟨g, zs, h3, h4, _⟩
 ·rw [h3.1] at h2; cases h2
 ·rw [h3] at h2; cases h2; cases h1; show a.block ≠ g; omega
def Oa (w : World) (q r : Nat) (e : Ending) (w' : World) : Prop := ∃ A c A' c', e = .returned (.tuple #[.slice A (toW q).length c, .slice A' (toW r).length c']) ∧ ku w.heap.size w' A c q ∧ ku w.heap.size w' A' c' r ∧ Below w.heap.size w w' ∧ Gf A A'
theorem Row.drewN {w : World} {g : Nat} {xs : List Nat} (h : Row w g xs) (n : Nat) : Row (w.drewN n) g xs := h
set_option maxRecDepth 10000 in
set_option maxHeartbeats 1000000 in
theorem zN (w : World) (A B : Option Addr) (ca cb : Nat) (xs ys : List Nat) (hA : Sl w A ca xs) (hB : Sl w B cb ys) (hlt : val xs < val ys) :
  Calls Tryz.prog 184 #[.slice A xs.length ca, .slice B ys.length cb] w (Oa w (val xs / val ys) (val xs % val ys)) := by
 have hcmp := iy w A B ca cb _ _ hA.trim hB.trim
 rw [dI, dI, rC hlt] at hcmp
 have hcp := fun W h => jd W A ca (toW (val xs)) h
 rw [dI] at hcp
 rw [Nat.div_eq_of_lt hlt, Nat.mod_eq_of_lt hlt]
 have HA := Lib.hid hA.trim
 clear hlt
 go_enter Tryz.func184, Tryz.ntmps184
 go_wp2_with (first
  | (go_at_call 112; refine (cZ _ _ _ _ (by assumption)).mono ?_; rintro e w' ⟨rfl, rfl⟩)
  | (go_at_call 103; refine hcmp.mono ?_; rintro e w' ⟨rfl, n, rfl⟩)
  | (go_at_call 172; refine (hcp _ (HA.out.drewN _)).mono ?_; rintro e w1 ⟨g, rfl, hg, hrow, hb⟩))
 go_ret2
 exact ⟨none, 0, _, _, FB (qj (by rw [jv]; rfl)) rfl, ku.zero jv, ku.oh hrow (kX _) hg (dI _) rfl HA.out.small, (below_drewN (Below.refl _ _) _).trans hb, fun _ _ h => by cases h⟩
set_option maxRecDepth 10000 in
set_option maxHeartbeats 1000000 in
theorem xO (w : World) (A B : Option Addr) (ca cb : Nat) (xs ys : List Nat) (hA : Sl w A ca xs) (hB : Sl w B cb ys) (hge : val ys ≤ val xs) (h1 : (toW (val ys)).length = 1) :
  Calls Tryz.prog 184 #[.slice A xs.length ca, .slice B ys.length cb] w (Oa w (val xs / val ys) (val xs % val ys)) := by
 have hcmp := iy w A B ca cb _ _ hA.trim hB.trim
 have hneg : ¬ (nX (val xs) (val ys) < 0) := by
  unfold nX
  rw [if_neg (by omega)]
  split <;> omega
 rw [dI, dI] at hcmp
 generalize nX (val xs) (val ys) = cm at *
 have hcp := fun W h => jd W A ca (toW (val xs)) h
 rw [dI] at hcp
 have HA := Lib.hid hA.trim
 have HB := Lib.hid hB.trim
 have hd : val ys = (toW (val ys)).getD 0 0 := by
  have := dG (toW (val ys)) 0
  rw [List.take_of_length_le (by omega), dI] at this
  simpa [val] using this
 have hd0 : (toW (val ys)).getD 0 0 ≠ 0 := zI h1
 have hdw := (kX (val ys)).get 0
 obtain ⟨gb, ob, rfl, hgb, hcb⟩ := hB.trim.nw.at_ (k := 0) (by omega)
 have HD := Lib.hid hd
 clear hge hd
 generalize (toW (val ys)).getD 0 0 = d at *
 rw [h1] at hcmp
 have HH := Lib.hid (And.intro hA hB)
 have htA := cZ w A ca xs hA
 have htB := cZ w (some ⟨gb, ob, none⟩) cb ys hB
 rw [h1] at htB
 clear hA hB
 generalize hlx : (toW (val xs)).length = lx at *
 have HLX := Lib.hid hlx
 clear hlx h1
 have HDW := Lib.hid (And.intro hd0 hdw)
 have HCB := Lib.hid (And.intro hgb hcb)
 have HCP := Lib.hid hcp
 have hneg' : (decide (cm < 0)) = false := by simpa using hneg
 clear hd0 hdw hgb hcb hcp hneg
 go_enter Tryz.func184, Tryz.ntmps184
 go_upto_region 5 with (first
  | (go_at_call_of 112 ca; refine htA.mono ?_; rintro e w' ⟨rfl, rfl⟩)
  | (go_at_call_of 112 cb; refine htB.mono ?_; rintro e w' ⟨rfl, rfl⟩)
  | (go_at_call 103; refine hcmp.mono ?_; rintro e w' ⟨rfl, n, rfl⟩))
 have HAD := Lib.hid (HA.out.drewN n)
 have hcbd : (w.drewN n).cell? ⟨gb, ob + 0, none⟩ = some (.int .u64 (d : Int)) := HCB.out.2
 have HBD := Lib.hid (show Below w.heap.size w (w.drewN n) from below_drewN (Below.refl _ _) _)
 have hgbd : gb < (w.drewN n).heap.size := HCB.out.1
 generalize w.drewN n = W at *
 rw [Nat.add_zero] at hcbd
 have hbW : ∀ W g, Row W g (toW (val xs)) → Calls Tryz.prog 173 #[.slice (some ⟨g, 0, none⟩) lx lx, .int .u64 (d : Int)] W (ByW W g (toW (val xs)) lx lx d) := fun W g hr =>
  iw W g (toW (val xs)) lx lx d hr (kX _) (by rw [HLX.out]; exact Nat.le_refl _) (Nat.le_refl _) (by have h1 := HA.out.cap; have h2 := HA.out.small; have h3 := HLX.out; omega) (Nat.pos_of_ne_zero HDW.out.1) HDW.out.2
 have hbV : ∀ W g, Row W g (toW (val xs)) → Calls Tryz.prog 173 #[.slice (some ⟨g, 0, none⟩) lx lx, .int .u64 (d : Int)] W (fun e w' => ∃ ys k,
   e = .returned (.tuple #[.slice (some ⟨g, 0, none⟩) (toW (val xs / d)).length lx, .int .u64 ((val xs % d : Nat) : Int)]) ∧
   w' = (setB W g (.cells (cO ys) 22 (0, 0))).drewN k ∧ ys.length = lx ∧ Wd ys ∧ ys.take (toW (val xs / d)).length = toW (val xs / d) ∧ (toW (val xs / d)).length ≤ lx) := fun W g hr => by
  have h := hbW W g hr
  unfold ByW at h
  rw [List.take_of_length_le (by rw [HLX.out]; exact Nat.le_refl _), dI, HLX.out] at h
  exact h
 have hrw : val xs % d < WB := Nat.lt_of_lt_of_le (Nat.mod_lt _ (Nat.pos_of_ne_zero HDW.out.1)) (Nat.le_of_lt HDW.out.2)
 have HQ := Lib.hid (show val xs / val ys = val xs / d ∧ val xs % val ys = val xs % d by rw [HD.out]; exact ⟨rfl, rfl⟩)
 generalize val xs % d = r at *
 generalize val xs / d = q at *
 generalize hlq : (toW q).length = lq at *
 have HLQ := Lib.hid hlq
 have HBW := Lib.hid hbV
 have hval1 : val [r] = r := by simp [val]
 have htr : ∀ W A', Sl W A' 1 [r] → Calls Tryz.prog 112 #[.slice A' 1 1] W fun e w' => e = .returned (.slice A' (toW r).length 1) ∧ W = w' := fun W A' h => by
  have := cZ W A' 1 [r] h
  rw [hval1] at this
  exact this
 have HTR := Lib.hid htr
 have HRW := Lib.hid (show Wd [r] from fun x hx => by simp at hx; subst hx; exact hrw)
 have HLS := Lib.hid (show lx ≤ 1000000000000 by have h1 := HA.out.cap; have h2 := HA.out.small; have h3 := HLX.out; omega)
 clear htA htB hcmp hneg' hbW hbV htr hlq hrw hval1
 go_region_with (first
  | (go_at_call 172; refine (HCP.out _ (by exact HAD.out.drewN 1)).mono ?_; rintro e1 w1 ⟨g, rfl, hg, hrow, hb⟩; have hq : w1.cell? ⟨gb, ob, none⟩ = some (.int .u64 (d : Int)) := ((Qy hb).1 _ _ hgbd).trans hcbd)
  | (go_at_call 173; refine (HBW.out _ _ hrow).mono ?_; rintro e2 w2 ⟨ys', k, rfl, rfl, hyl, hyw, hyt, hyn⟩))
 all_goals
  have hrow2 : Row ((setB w1 g (.cells (cO ys') 22 (0, 0))).drewN k) g ys' := (hrow.setB).drewN k
  have hb2 : Below w.heap.size w ((setB w1 g (.cells (cO ys') 22 (0, 0))).drewN k) := below_drewN (kJ (HBD.out.trans (((Below.drew (Below.refl _ _)).trans hb).mono HBD.out.size)) (Nat.le_trans HBD.out.size hg) _) _
  generalize (setB w1 g (.cells (cO ys') 22 (0, 0))).drewN k = w5 at *
  have hs6 : Sl (w5.alloc (.cells #[.int .u64 (r : Int)] 22)) (some ⟨w5.heap.size, 0, none⟩) 1 [r] := (Row.new w5 [r]).sl HRW.out (Nat.le_refl _) (by decide)
  have HF := Lib.hid (And.intro hrow2 hb2)
  have HG := Lib.hid (Nat.le_trans HBD.out.size hg)
  clear hrow2 hb2 hrow hb
  go_wp2_with (go_at_call 112; refine (HTR.out _ _ hs6).mono ?_; rintro e3 w6 ⟨rfl, rfl⟩)
  go_ret2
  rw [HQ.out.1, HQ.out.2]
  refine ⟨_, lx, _, 1, FB (qj HLQ.out.symm) rfl, ?_, ?_, HF.out.2.alloc HF.out.2.size _, fun b b' h1 h2 => by cases h1; cases h2; exact Nat.ne_of_lt HF.out.1.lt⟩
  ·refine ku.alloc ⟨?_, .inr ⟨g, ys', rfl, HG.out, HF.out.1, hyl, hyw, by rw [HLQ.out]; exact hyt, HLS.out⟩⟩ _
   have h1 := (HF.out.1.sl hyw (Nat.le_of_eq hyl) HLS.out).take lq
   rw [hyt] at h1
   exact h1
  ·exact ku.oh (Row.new w5 [r]) HRW.out HF.out.2.size (by simp [val]) rfl (by decide)
end Go.Proofs.YtafikkmnkeddpaaGreatDoor
namespace Go.Proofs.YtafikkmnkeddpaaGreatDoor
open Go.RowKit
set_option maxRecDepth 10000 in
set_option maxHeartbeats 1000000 in
theorem wR (w : World) (A B : Option Addr) (ca cb : Nat) (xs ys : List Nat) (hA : Sl w A ca xs) (hB : Sl w B cb ys) (hge : val ys ≤ val xs) (m : Nat) (hm : (toW (val ys)).length = m + 2) (hl : xs.length ≤ 1000000000) (hl2 : ys.length ≤ 1000000000) :
  Calls Tryz.prog 184 #[.slice A xs.length ca, .slice B ys.length cb] w (Oa w (val xs / val ys) (val xs % val ys)) := by
 have hcmp := iy w A B ca cb _ _ hA.trim hB.trim
 have hneg : ¬ (nX (val xs) (val ys) < 0) := by
  unfold nX
  rw [if_neg (by omega)]
  split <;> omega
 rw [dI, dI, hm] at hcmp
 generalize nX (val xs) (val ys) = cm at *
 have hyl := eu hB.wd
 have hm9 : m + 2 ≤ 1000000000 := by omega
 have hxl := eu hA.wd
 have hlx9 : (toW (val xs)).length ≤ 1000000000 := by omega
 have HA := Lib.hid hA.trim
 have HB := Lib.hid hB.trim
 have htw := (kX (val ys)).get (m + 1)
 obtain ⟨gb, ob, rfl, hgb, hcb⟩ := hB.trim.nw.at_ (k := m + 1) (by omega)
 have htA := cZ w A ca xs hA
 have htB := cZ w (some ⟨gb, ob, none⟩) cb ys hB
 rw [hm] at htB
 have hmb : m ≤ 1000000000000 := by have h1 := HB.out.cap; have h2 := HB.out.small; omega
 have hone : ((((m + 2 : Nat)) : Int) == 1) = false := by simp; omega
 have HM0 := Lib.hid hm
 have hmono := iO hge
 rw [hm] at hmono
 generalize hlx : (toW (val xs)).length = lx at *
 have HLX := Lib.hid hlx
 have HM := Lib.hid hm
 clear hA hB hlx hm
 have htw2 : (toW (val ys)).getD (m + 1) 0 < 18446744073709551616 := htw
 have hblt : dB ((toW (val ys)).getD (m + 1) 0) ≤ 64 := mY htw2
 obtain ⟨s, hs⟩ : ∃ s, dB ((toW (val ys)).getD (m + 1) 0) + s = 64 := ⟨64 - dB ((toW (val ys)).getD (m + 1) 0), by omega⟩
 have HUP := Lib.hid (Oc HM0.out hs)
 have hlz : ∀ W, Calls Tryz.prog 227 #[.int .u64 (((toW (val ys)).getD (m + 1) 0 : Nat) : Int)] W fun e w' => e = .returned (.int .i64 (s : Int)) ∧ w' = W := fun W => by
  have h := Tryz.bits_LeadingZeros64 (((toW (val ys)).getD (m + 1) 0 : Nat) : Int) W (by omega) (by omega)
  rw [Int.toNat_natCast, bitLen_eq _ htw2, show (64 : Int) - (dB ((toW (val ys)).getD (m + 1) 0) : Int) = (s : Int) by omega] at h
  exact h
 have hlB : ∀ W, Sl W (some ⟨gb, ob, none⟩) cb (toW (val ys)) → Calls Tryz.prog 171 #[.slice (some ⟨gb, ob, none⟩) (m + 2) cb, .int .i64 (s : Int)] W (lK W (val ys * 2 ^ s)) := fun W h => by
  have h2 := zD W _ cb (toW (val ys)) h s (by rw [HM0.out]; omega) (by omega)
  rw [HM0.out, dI] at h2
  exact h2
 have hlA : ∀ W, Sl W A ca (toW (val xs)) → Calls Tryz.prog 171 #[.slice A lx ca, .int .i64 (s : Int)] W (lK W (val xs * 2 ^ s)) := fun W h => by
  have h2 := zD W _ ca (toW (val xs)) h s (by rw [HLX.out]; omega) (by omega)
  rw [HLX.out, dI] at h2
  exact h2
 have hcle : (toW (val xs * 2 ^ s)).length ≤ lx + 1 := jZ (by
  have h1 := nV (val xs)
  rw [HLX.out] at h1
  have h2 : 2 ^ s ≤ WB := Nat.pow_le_pow_right (n := 2) (by decide) (show s ≤ 64 by omega)
  rw [Nat.pow_succ]
  exact Nat.lt_of_lt_of_le (Nat.mul_lt_mul_of_pos_right h1 (Nat.two_pow_pos s)) (Nat.mul_le_mul_left _ h2))
 have HCLE := Lib.hid hcle
 have hVl : (toW (val ys * 2 ^ s)).length = m + 2 := HUP.out.2.2.2.1
 clear hblt hs htw2 hcle
 generalize hd : (toW (val ys)).getD (m + 1) 0 = d at *
 have HD := Lib.hid hd
 clear hd
 go_enter Tryz.func184, Tryz.ntmps184
 have HNL := Lib.hid (And.intro hlB hlA)
 clear hlB hlA
 unfold lK at HNL
 have hmk1 : ∀ W, (Instr.makeSlice 73 (.int .i64 ((lx : Int) + 1)) (.int .i64 ((lx : Int) + 1))).run Tryz.prog W = .ok (.slice (some ⟨W.heap.size, 0, none⟩) (lx + 1) (lx + 1)) (W.alloc (.cells (cO (List.replicate (lx + 1) 0)) 22)) := fun W => by
  have := oJ (lx + 1) (by omega) W
  simpa only [Int.natCast_add, Int.natCast_one] using this
 go_upto_region 10 with (first
  | (go_at_call_of 112 ca; refine htA.mono ?_; rintro e w' ⟨rfl, rfl⟩)
  | (go_at_call_of 112 cb; refine htB.mono ?_; rintro e w' ⟨rfl, rfl⟩)
  | (go_at_call 103; refine hcmp.mono ?_; rintro e w' ⟨rfl, n, rfl⟩)
  | (go_at_call 227; refine (hlz _).mono ?_; rintro e w' ⟨rfl, rfl⟩)
  | (go_at_call 171; refine (HNL.out.1 _ (HB.out.drewN n)).mono ?_; rintro e w1 ⟨gv, cv, rfl, hV, hbV⟩))
 have HVN := Lib.hid hV.sl.nw
 have hb1 : Below w.heap.size w w1 := (below_drewN (Below.refl _ _) n).trans hbV
 have hr0 := Row.new w1 (List.replicate (lx + 1) 0)
 have hb2 : Below w.heap.size w (w1.alloc (.cells (cO (List.replicate (lx + 1) 0)) 22)) := hb1.alloc hb1.size _
 have hb12 : Below w1.heap.size w1 (w1.alloc (.cells (cO (List.replicate (lx + 1) 0)) 22)) := (Below.refl _ _).alloc (Nat.le_refl _) _
 have HU1 := Lib.hid (And.intro hb1.size hb12)
 generalize w1.alloc (.cells (cO (List.replicate (lx + 1) 0)) 22) = w2 at *
 have hV2 := hV.sl.below hb12
 have hA2 := HA.out.below hb2
 have HS2 := Lib.hid (And.intro hV2 (And.intro hA2 hb2))
 obtain ⟨K, hK⟩ : ∃ K, lx = K + (m + 1) := ⟨lx - (m + 1), by omega⟩
 have hmk2 : ∀ W, (Instr.makeSlice 73 (.int .i64 ((lx : Int) + 1 - ((m : Int) + 2))) (.int .i64 ((lx : Int) + 1 - ((m : Int) + 2)))).run Tryz.prog W = .ok (.slice (some ⟨W.heap.size, 0, none⟩) K K) (W.alloc (.cells (cO (List.replicate K 0)) 22)) := fun W => by
  have := oJ K (by omega) W
  rwa [show ((K : Nat) : Int) = (lx : Int) + 1 - ((m : Int) + 2) by omega] at this
 have HK := Lib.hid hK
 have HVL := Lib.hid hVl
 have hKb : K ≤ 1000000000 := by omega
 have HBW := Lib.hid hb1
 clear hV hb1 hb2 hb12 hA2 htA htB hcmp hlz hmk1 hbV hneg hone hV2 hK hVl
 go_wp2_with (first
  | (go_at_call 171; refine (HNL.out.2 _ HS2.out.2.1).mono ?_; rintro e w3 ⟨ga, ca3, rfl, hS3, hb3⟩; have hr3 : Row w3 w1.heap.size (List.replicate (lx + 1) 0) := hr0.below hb3 hr0.lt)
  | (refine mg rfl (.tmp 53) (.tmp 56) rfl w1.heap.size (lx + 1) (lx + 1) ga ca3 (toW (val xs * 2 ^ s)) (List.replicate (lx + 1) 0) rfl rfl hr3 (by simp) HCLE.out w3.heap.size hS3.sl.nw ?_; intro w4 hr4 hb4; clear hr3))
 have hB4 : Below w1.heap.size w1 w4 := (HU1.out.2.trans (hb3.mono HU1.out.2.size)).trans hb4
 have hRQ := Row.new w4 (List.replicate K 0)
 have hRU : Row (w4.alloc (.cells (cO (List.replicate K 0)) 22)) w1.heap.size _ := hr4.below ((Below.refl w4.heap.size w4).alloc (Nat.le_refl _) _) hr4.lt
 have hgq : w1.heap.size < w4.heap.size := hr4.lt
 have hB5 : Below w1.heap.size w1 (w4.alloc (.cells (cO (List.replicate K 0)) 22)) := hB4.alloc (Nat.le_of_lt hgq) _
 have hul : (toW (val xs * 2 ^ s) ++ List.drop (toW (val xs * 2 ^ s)).length (List.replicate (lx + 1) 0)).length = lx + 1 := by
  have := HCLE.out
  rw [List.length_append, List.length_drop, List.length_replicate]; omega
 have huv : val (toW (val xs * 2 ^ s) ++ List.drop (toW (val xs * 2 ^ s)).length (List.replicate (lx + 1) 0)) = val xs * 2 ^ s := by
  rw [val_append, List.drop_replicate, lF, Nat.mul_zero, Nat.add_zero, dI]
 have huw : Wd (toW (val xs * 2 ^ s) ++ List.drop (toW (val xs * 2 ^ s)).length (List.replicate (lx + 1) 0)) := (kX _).append (by rw [List.drop_replicate]; exact Wd.replicate _)
 generalize toW (val xs * 2 ^ s) ++ List.drop (toW (val xs * 2 ^ s)).length (List.replicate (lx + 1) 0) = u0 at *
 have hst : val xs * 2 ^ s < val ys * 2 ^ s * WB ^ K := Gg (m := m + 1) HUP.out.2.2.1 (by
  have h1 := nV (val xs)
  rw [HLX.out] at h1
  rw [show m + 1 + K = lx by have := HK.out; omega]
  exact h1) HUP.out.2.1
 have HINV0 : Hid (pz (val xs * 2 ^ s) (val ys * 2 ^ s) (m + 2) K u0 (List.replicate K 0)) := Lib.hid ⟨huw, Wd.replicate _, fun k hk => by rw [List.getD_eq_getElem?_getD, List.getElem?_replicate]; split <;> rfl, by rw [huv]; exact hst, by rw [lF, Nat.zero_mul, Nat.zero_add]; exact huv⟩
 have HST : Hid (Row (w4.alloc (.cells (cO (List.replicate K 0)) 22)) w1.heap.size u0 ∧ Row (w4.alloc (.cells (cO (List.replicate K 0)) 22)) w4.heap.size (List.replicate K 0) ∧ Below w1.heap.size w1 (w4.alloc (.cells (cO (List.replicate K 0)) 22))) := Lib.hid ⟨hRU, hRQ, hB5⟩
 have HUL := Lib.hid hul
 have HB1w := Lib.hid HU1.out.1
 clear hr4 hb4 hr0 HS2 hB4 hRQ hRU hB5 hul huv huw hst hS3 hb3 HNL HU1
 generalize w4.alloc (.cells (cO (List.replicate K 0)) 22) = w5 at *
 generalize w4.heap.size = gq at *
 generalize hgu : w1.heap.size = gu at *
 clear hgu
 go_loopw [12] (fun t wr => ∃ (k : Nat) (zs qs : List Nat), t = .int .i64 ((k : Int) - 1) ∧ k ≤ K ∧ zs.length = lx + 1 ∧ qs.length = K ∧ Hid (pz (val xs * 2 ^ s) (val ys * 2 ^ s) (m + 2) k zs qs) ∧ Hid (Row wr gu zs ∧ Row wr gq qs ∧ Below gu w1 wr)) (fun t _ => (intOf t + 1).toNat)
 case atStart => exact ⟨K, u0, List.replicate K 0, rfl, Nat.le_refl _, HUL.out, by simp, HINV0, HST⟩
 case round =>
  obtain ⟨k, zs, qs, rfl, hk, hzl, hql, HINV, HR⟩ := hrel
  cases k with
  | zero =>
   obtain ⟨hru, hrq, hB⟩ := HR.out
   obtain ⟨hvq, hvu⟩ := HINV.out.done
   have hq0 : 0 < val ys * 2 ^ s := by have := HUP.out.2.1; have h2 : 0 < WB ^ (m + 1) := Nat.pow_pos (by decide); omega
   have hp := Nat.two_pow_pos s
   rw [Nat.mul_div_mul_right _ _ hp] at hvq
   rw [Nat.mul_mod_mul_right] at hvu
   have hzn : val (zs.take (m + 2)) = val xs % val ys * 2 ^ s := by
    rw [sS, hvu]
    intro j hj
    have hlt : val zs < WB ^ (m + 2) := by
     rw [hvu, ← Nat.mul_mod_mul_right]
     exact Nat.lt_trans (Nat.mod_lt _ hq0) HUP.out.1
    exact (BD HINV.out.wd 0 (m + 2) (by omega) (by rw [Nat.zero_add]; exact hlt)).2 j (by omega)
   have hsq : Sl wr (some ⟨gq, 0, none⟩) K qs := hrq.sl HINV.out.wq (by omega) (by omega)
   have hsu : Sl wr (some ⟨gu, 0, none⟩) (lx + 1) (zs.take (m + 2)) := (hru.sl HINV.out.wd (by omega) (by omega)).take (m + 2)
   have htl : (zs.take (m + 2)).length = m + 2 := by rw [List.length_take]; omega
   have HTR : Hid (∀ W, Below wr.heap.size wr W → Calls Tryz.prog 112 #[.slice (some ⟨gq, 0, none⟩) K K] W fun e w' => e = .returned (.slice (some ⟨gq, 0, none⟩) (toW (val xs / val ys)).length K) ∧ W = w') := Lib.hid fun W hb => by
    have := cZ W _ K qs (hsq.below hb)
    rwa [hql, hvq] at this
   have HRT : Hid (∀ W, Below wr.heap.size wr W → Calls Tryz.prog 229 #[.slice (some ⟨gu, 0, none⟩) (m + 2) (lx + 1), .int .i64 (s : Int)] W (lK W (val xs % val ys))) := Lib.hid fun W hb => by
    have := Bo W _ (lx + 1) _ (hsu.below hb) s (by omega) (by have := HUP.out.2.2.1; omega)
    rwa [htl, hzn, Nat.mul_div_cancel _ hp] at this
   have HF : Hid (Row wr gq qs ∧ Wd qs ∧ val qs = val xs / val ys ∧ qs.length = K ∧ Below gu w1 wr) := Lib.hid ⟨hrq, HINV.out.wq, hvq, hql, hB⟩
   clear hru hrq hB hvq hvu hq0 hp hzn hsq hsu htl
   unfold lK at HRT
   go_wp2_with fail
   go_region_with (first
    | (go_at_call 112; refine (HTR.out _ (by first | exact Below.drew (Below.refl _ _) | exact (Below.drew (Below.refl _ _)).trans hb6)).mono ?_; rintro e5 w5' ⟨rfl, rfl⟩)
    | (go_at_call 229; refine (HRT.out _ (by exact Below.drew (Below.refl _ _))).mono ?_; rintro e6 w6 ⟨A6, c6, rfl, hs6, hb6⟩))
   all_goals
    have hb7 : Below wr.heap.size wr w6 := (Below.drew (Below.refl _ _)).trans hb6
    have hle : w.heap.size ≤ wr.heap.size := Nat.le_trans HB1w.out (Nat.le_trans (Nat.le_of_lt hgq) (Nat.le_of_lt HF.out.1.lt))
    have hB6 : Below w.heap.size w w6 := (HBW.out.trans (HF.out.2.2.2.2.mono HB1w.out)).trans (hb7.mono hle)
    go_wp2
    go_ret2
    exact ⟨_, K, A6, c6, rfl, ku.oh (HF.out.1.below hb7 HF.out.1.lt) HF.out.2.1 (Nat.le_trans HB1w.out (Nat.le_of_lt hgq)) HF.out.2.2.1 HF.out.2.2.2.1 (by omega), hs6.lower hle, hB6, hs6.apart HF.out.1.lt⟩
  | succ k =>
   have hkl : k + m + 3 ≤ lx + 1 := by have := HK.out; omega
   obtain ⟨hru, hrq, hB⟩ := HR.out
   have hwin := HINV.out.window HUP.out.1 (by omega)
   have hdg := Ir wr gu zs (toW (val ys * 2 ^ s)) k m (lx + 1 - k) cv gv hru HINV.out.wd HVL.out (by omega) (HVN.out.below hB) (kX _) (by omega) HUP.out.2.2.2.2 (by rw [dI]; exact hwin.2.2)
   rw [show m + 3 = k + (m + 2) + 1 - k by omega] at hdg
   unfold EO at hdg
   rw [dI, HVL.out] at hdg
   have hk0 : (0 : Int) ≤ (k : Int) := Int.natCast_nonneg k
   have hKk : k < K := hk
   have e : (((k + 1 : Nat) : Int) - 1) = (k : Int) := by omega
   have hq0 : 0 < val ys * 2 ^ s := by have := HUP.out.2.1; have h2 : 0 < WB ^ (m + 1) := Nat.pow_pos (by decide); omega
   have HSTEP := Lib.hid (fun (ys' : List Nat) h1 h2 h3 h4 => HINV.out.step (ys := ys') hq0 HUP.out.1 (by omega) (by omega) h1 h2 h3 h4)
   simp only [e]
   have HRR := Lib.hid (And.intro hru (And.intro hrq hB))
   clear hwin hru hrq hB e
   go_wp2_with fail
   refine hdg.mono ?_
   rintro e' w' ⟨ys', kk, rfl, rfl, hyl, hyw, hyo, hyv⟩
   have HNEXT := Lib.hid (HSTEP.out ys' hyl hyw hyo hyv)
   have hru2 : Row ((setB wr gu (.cells (cO ys') 22 (0, 0))).drewN kk) gu ys' := (HRR.out.1.setB).drewN kk
   have hrq2 : Row ((setB wr gu (.cells (cO ys') 22 (0, 0))).drewN kk) gq qs := Hl HRR.out.2.1 _ (by omega)
   have hB2 : Below gu w1 ((setB wr gu (.cells (cO ys') 22 (0, 0))).drewN kk) := below_drewN (kJ HRR.out.2.2 (Nat.le_refl _) _) _
   clear hyw hyo hyv HSTEP HINV hdg HRR HR
   generalize (setB wr gu (.cells (cO ys') 22 (0, 0))).drewN kk = W2 at *
   generalize val (win zs k (m + 2 + 1)) / (val ys * 2 ^ s) = Q at *
   have hcz : W2.cell? ⟨gq, k, none⟩ = some (.int .u64 ((qs.getD k 0 : Nat) : Int)) := hrq2.cell (by omega)
   have hfz : W2.frozen? ⟨gq, k, none⟩ = false := hrq2.frozen _
   have HSET := Lib.hid (hrq2.set k Q)
   have HH := Lib.hid (And.intro hru2 (And.intro hrq2 hB2))
   have hi1 : IntKind.i64.wrap ((k : Int) - 1) = (k : Int) - 1 := IntWalk.i64_in _ (by omega)
   clear hru2 hrq2 hB2
   go_wp2
   go_roundw
   case rel => exact ⟨k, ys', qs.set k Q, rfl, by omega, by omega, by rw [List.length_set]; omega, HNEXT, Lib.hid (by rw [HSET.out]; exact ⟨Hl HH.out.1 _ (by omega), HH.out.2.1.setB, kJ HH.out.2.2 (by omega) _⟩)⟩
   case measure => simp only [intOf]; omega
end Go.Proofs.YtafikkmnkeddpaaGreatDoor
namespace Go.Proofs.YtafikkmnkeddpaaGreatDoor
open Go.RowKit
theorem Eh (w : World) (A B : Option Addr) (ca cb : Nat) (xs ys : List Nat) (hA : Sl w A ca xs) (hB : Sl w B cb ys) (h0 : val ys ≠ 0) (hl : xs.length ≤ 1000000000) (hl2 : ys.length ≤ 1000000000) :
  Calls Tryz.prog 184 #[.slice A xs.length ca, .slice B ys.length cb] w (Oa w (val xs / val ys) (val xs % val ys)) := by
 by_cases h : val xs < val ys
 ·exact zN w A B ca cb xs ys hA hB h
 ·have hp := kC h0
  by_cases h1 : (toW (val ys)).length = 1
  ·exact xO w A B ca cb xs ys hA hB (by omega) h1
  ·exact wR w A B ca cb xs ys hA hB (by omega) ((toW (val ys)).length - 2) (by omega) hl hl2
def QO (w : World) (q r : Nat) (e : Ending) (w' : World) : Prop := ∃ A c A' c', e = .returned (.tuple #[.slice A (toW q).length c, .slice A' (toW r).length c', .int .i64 0]) ∧ ku w.heap.size w' A c q ∧ ku w.heap.size w' A' c' r ∧ Below w.heap.size w w' ∧ Gf A A'
set_option maxRecDepth 10000 in
set_option maxHeartbeats 1000000 in
theorem iq (w : World) (A B : Option Addr) (ca cb : Nat) (xs ys : List Nat) (hA : Sl w A ca xs) (hB : Sl w B cb ys) (h0 : val ys ≠ 0) (hl : xs.length ≤ 1000000000) (hl2 : ys.length ≤ 1000000000)
  (h1 : (toW (val xs)).length ≤ 1024) (h2 : (toW (val ys)).length ≤ 1024) :
  Calls Tryz.prog 101 #[.slice A xs.length ca, .slice B ys.length cb] w (QO w (val xs / val ys) (val xs % val ys)) := by
 have hd1 : decide (1024 < (toW (val xs)).length) = false := by simp; omega
 have hd2 : decide (1024 < (toW (val ys)).length) = false := by simp; omega
 have hg1 := zC (w.alloc (.cells #[.slice A xs.length ca, .slice B ys.length cb] 73)) w.heap.size A ca xs B cb ys (by simp) (hA.alloc _) (by simp) (hB.alloc _)
 have htr := cZ (w.alloc (.cells #[.slice A xs.length ca, .slice B ys.length cb] 73)) B cb ys (hB.alloc _)
 have hdv := Eh (w.alloc (.cells #[.slice A xs.length ca, .slice B ys.length cb] 73)) A B ca cb xs ys (hA.alloc _) (hB.alloc _) h0 hl hl2
 have hne : ((((toW (val ys)).length : Nat) : Int) == 0) = false := by
  have := kC h0
  rw [beq_eq_false_iff_ne]; omega
 rw [hd1, hd2] at hg1
 have HB := Lib.hid ((Below.refl w.heap.size w).alloc (Nat.le_refl _) (.cells #[.slice A xs.length ca, .slice B ys.length cb] 73))
 clear hd1 hd2 h1 h2 h0 hA hB
 go_enter Tryz.func101, Tryz.ntmps101
 go_wp2_with fail
 refine hg1.mono ?_
 rintro e w' ⟨rfl, rfl⟩
 go_wp2_with fail
 refine htr.mono ?_
 rintro e w' ⟨rfl, rfl⟩
 go_wp2_with fail
 refine hdv.mono ?_
 rintro e w1 ⟨A1, c1, A2, c2, rfl, hs1, hs2, hb1, hap⟩
 go_wp2
 go_ret3
 exact ⟨_, _, _, _, rfl, hs1.lower HB.out.size, hs2.lower HB.out.size, HB.out.trans (hb1.mono HB.out.size), hap⟩
end Go.Proofs.YtafikkmnkeddpaaGreatDoor
namespace Go.Proofs.YtafikkmnkeddpaaGreatDoor
open Go.RowKit
def QB : Go.Shelf.Ren := ⟨fun | 29 => 189 | n => n, fun | 0 => 0 | 3 => 3 | 4 => 4 | 5 => 5 | 22 => 22 | 25 => 61 | 54 => 261 | n => n, fun | 1 => 3 | n => n⟩
theorem lays29 : Lays7.n29 Tryz.prog QB := {
 mixed := by kernel_rfl
 f29 := by kernel_rfl
 t0 := by kernel_rfl
 a0 := fun _ => by kernel_rfl
 z0 := fun _ => by kernel_rfl
 v0 := fun _ => by kernel_rfl
 i0 := by kernel_rfl
 t3 := by kernel_rfl
 a3 := fun _ => by kernel_rfl
 z3 := fun _ => by kernel_rfl
 v3 := fun _ => by kernel_rfl
 i3 := by kernel_rfl
 t4 := by kernel_rfl
 a4 := fun _ => by kernel_rfl
 z4 := fun _ => by kernel_rfl
 v4 := fun _ => by kernel_rfl
 i4 := by kernel_rfl
 t5 := by kernel_rfl
 a5 := fun _ => by kernel_rfl
 z5 := fun _ => by kernel_rfl
 v5 := fun _ => by kernel_rfl
 i5 := by kernel_rfl
 t22 := by kernel_rfl
 a22 := fun _ => by kernel_rfl
 z22 := fun _ => by kernel_rfl
 v22 := fun _ => by kernel_rfl
 i22 := by kernel_rfl
 t25 := by kernel_rfl
 a25 := fun _ => by kernel_rfl
 z25 := fun _ => by kernel_rfl
 v25 := fun _ => by kernel_rfl
 i25 := by kernel_rfl
 t54 := by kernel_rfl
 a54 := fun _ => by kernel_rfl
 z54 := fun _ => by kernel_rfl
 g1 := by kernel_rfl }
def D7 (w : World) : Prop := 3 < w.heap.size ∧ TabAt 3 Lib.deBruijn64tab w
theorem D7.below {w w' : World} (h : D7 w) (hb : Below w.heap.size w w') : D7 w' :=
 ⟨Nat.lt_of_lt_of_le h.1 hb.size, fun j hj => (hb.cell (p := ⟨3, j, none⟩) h.1).trans (h.2 j hj)⟩
theorem QC (x : Nat) (hx : x < WB) (w : World) (hT : D7 w) : Calls Tryz.prog 189 #[.int .u64 (x : Int)] w fun e w' => e = .returned (.int .i64 (Lib.ctz 64 x)) ∧ w = w' :=
 (Any7.bits_TrailingZeros64 lays29 x hx w fun _ => hT.2).mono fun _ _ h => ⟨h.1, h.2.symm⟩
theorem D8 {v t m n : Nat} (h : v = 2 ^ t * (2 * m + 1)) : v % 2 ^ n = 0 ↔ n ≤ t := by
 constructor
 ·intro h0
  rcases Nat.lt_or_ge t n with hlt | hge
  ·exfalso
   obtain ⟨k, hk⟩ := Nat.dvd_of_mod_eq_zero h0
   rw [h, show n = t + (n - t - 1 + 1) by omega, Nat.pow_add, Nat.mul_assoc, Nat.pow_succ] at hk
   have := Nat.eq_of_mul_eq_mul_left (Nat.two_pow_pos t) hk
   rw [Nat.mul_assoc, Nat.mul_left_comm] at this
   omega
  ·exact hge
 ·intro hle
  refine Nat.mod_eq_zero_of_dvd ?_
  rw [h]
  exact Nat.dvd_trans (Nat.pow_dvd_pow 2 hle) (Nat.dvd_mul_right _ _)
theorem NH {xs : List Nat} {i : Nat} (hx : Wd xs) (hz : ∀ j, j < i → xs.getD j 0 = 0) (hne : xs.getD i 0 ≠ 0) (hi : i < xs.length) : ∃ m, val xs = 2 ^ (64 * i + Lib.ctz 64 (xs.getD i 0)) * (2 * m + 1) := by
 obtain ⟨m, hm, hc⟩ := Lib.ctzFrom_spec 64 (xs.getD i 0) (by omega) (hx.get i)
 have e : Lib.ctz 64 (xs.getD i 0) = Lib.ctzFrom 64 (xs.getD i 0) := by unfold Lib.ctz; rw [if_neg hne]
 rw [← e] at hm hc
 have h0 : val (xs.take i) = 0 := by
  have : xs.take i = List.replicate i 0 := by
   apply List.ext_getElem
   ·simp; omega
   ·intro j h1 h2
    have hj : j < i := by simpa using h2
    have := hz j hj
    rw [List.getD_eq_getElem?_getD, List.getElem?_eq_getElem (by omega)] at this
    simpa using this
  rw [this, lF]
 rw [kZ xs i, h0, qy, Nat.zero_add]
 refine ⟨m + 2 ^ (63 - Lib.ctz 64 (xs.getD i 0)) * val (xs.drop (i + 1)), ?_⟩
 have e1 : WB = 2 ^ Lib.ctz 64 (xs.getD i 0) * (2 * 2 ^ (63 - Lib.ctz 64 (xs.getD i 0))) := by
  rw [Nat.mul_comm 2, ← Nat.pow_succ, ← Nat.pow_add, show Lib.ctz 64 (xs.getD i 0) + (63 - Lib.ctz 64 (xs.getD i 0) + 1) = 64 by omega]
 rw [Nat.pow_add, show WB ^ i = 2 ^ (64 * i) by rw [Nat.pow_mul], Nat.mul_assoc]
 congr 1
 conv => lhs; rw [e1]; arg 1; rw [hm]
 rw [Nat.mul_assoc, ← Nat.mul_add]
 congr 1
 rw [Nat.mul_add, Nat.mul_assoc]
 omega
set_option maxRecDepth 10000 in
set_option maxHeartbeats 1000000 in
theorem xG (w : World) (hT : D7 w) (A : Option Addr) (c : Nat) (xs : List Nat) (h : Sl w A c xs) (n : Nat) (hl : xs.length ≤ 10000000000) (hn : n ≤ 100000000000000) :
  Calls Tryz.prog 274 #[.slice A xs.length c, .int .i64 (n : Int)] w fun e w' => e = .returned (.bool (decide (val xs % 2 ^ n = 0))) ∧ w = w' := by
 have hnA := eu h.wd
 have HT := Lib.hid h.trim
 have HTZ := Lib.hid hT
 clear hT
 go_enter Tryz.func274, Tryz.ntmps274
 go_wp2_with (first
  | (go_at_call 112; refine (cZ _ _ _ _ (by assumption)).mono ?_; rintro e w' ⟨rfl, rfl⟩))
 clear h
 go_loop [10] (fun t => ∃ k : Nat, t = .int .i64 k ∧ k ≤ (toW (val xs)).length ∧ Hid (∀ j, j < k → (toW (val xs)).getD j 0 = 0)) (fun t => (toW (val xs)).length - (intOf t).toNat)
 case atStart => exact ⟨0, rfl, Nat.zero_le _, Lib.hid fun j hj => by omega⟩
 case round =>
  obtain ⟨k, rfl, hk, hz⟩ := hrel
  by_cases hlt : k < (toW (val xs)).length
  ·obtain ⟨b, o, rfl, hb, hcell⟩ := HT.out.nw.at_ hlt
   have hxw := HT.out.wd.get k
   by_cases hx : (toW (val xs)).getD k 0 = 0
   ·have HZ : Hid (∀ j, j < k + 1 → (toW (val xs)).getD j 0 = 0) := Lib.hid fun j hj => by
     rcases Nat.lt_or_ge j k with h1 | h1
     ·exact hz.out j h1
     ·rw [show j = k by omega]; exact hx
    rw [hx] at hcell
    clear hx hxw
    go_wp2
    go_round
    case rel => exact ⟨k + 1, by go_num, by omega, HZ⟩
    case measure => simp only [intOf]; omega
   ·obtain ⟨m, hm⟩ := NH HT.out.wd hz.out hx hlt
    rw [dI] at hm
    have hfin : decide (val xs % 2 ^ n = 0) = decide (n ≤ 64 * k + Lib.ctz 64 ((toW (val xs)).getD k 0)) := by
     simp only [D8 hm]
    have HF := Lib.hid hfin
    have hct : Lib.ctz 64 ((toW (val xs)).getD k 0) < 64 := (Lib.lowest_bit 64 _ hx hxw).2
    have hnz : ((((toW (val xs)).getD k 0 : Nat) : Int) != 0) = true := by rw [bne_iff_ne]; omega
    generalize hxk : (toW (val xs)).getD k 0 = x at *
    have htz := QC x hxw w HTZ.out
    generalize Lib.ctz 64 x = ct at *
    clear hfin hm hx hxk
    go_wp2_with (go_at_call 189; refine htz.mono ?_; rintro e w' ⟨rfl, rfl⟩)
    go_ret
    refine ⟨oZ (qZ ?_), rfl⟩
    rw [HF.out]
    simp only [decide_eq_decide]
    omega
  ·have hfin : val xs = 0 := by
    have h1 : toW (val xs) = List.replicate k 0 := by
     apply List.ext_getElem
     ·simp; omega
     ·intro j h1 h2
      have hj : j < k := by simpa using h2
      have := hz.out j hj
      rw [List.getD_eq_getElem?_getD, List.getElem?_eq_getElem (by omega)] at this
      simpa using this
    have h2 := dI (val xs)
    rw [h1, lF] at h2
    exact h2.symm
   have HF := Lib.hid (show decide (val xs % 2 ^ n = 0) = true by rw [hfin]; simp)
   clear hfin
   go_wp2
   go_ret
   exact ⟨oZ (qZ HF.out.symm), rfl⟩
theorem ru : toW 1 = [1] := by
 rw [mZ (by decide), show (1 : Nat) / WB = 0 by decide, jv]; rfl
def wM (v n : Nat) : Nat := if v % 2 ^ n = 0 then v / 2 ^ n else v / 2 ^ n + 1 - v / 2 ^ n % 2
theorem Hq {q : Nat} (h : q ≠ 0) : toW (q + 1 - q % 2) = (toW q).set 0 ((toW q).getD 0 0 ||| 1) := by
 have hne : q + 1 - q % 2 ≠ 0 := by omega
 rw [mZ h, mZ hne]
 have e1 : (q + 1 - q % 2) / WB = q / WB := by
  show (q + 1 - q % 2) / 18446744073709551616 = q / 18446744073709551616
  omega
 have e2 : (q + 1 - q % 2) % WB = q % WB ||| 1 := by
  have h1 : q % WB ||| 1 = 2 * (q % WB / 2) + 1 := by
   have := Nat.two_pow_add_eq_or_of_lt (i := 1) (b := 1) (by omega) (q % WB / 2)
   rw [show (2 : Nat) ^ 1 = 2 from rfl] at this
   rw [this]
   apply Nat.eq_of_testBit_eq
   intro i
   rw [Nat.testBit_or, Nat.testBit_or]
   cases i with
   | zero => simp
   | succ i => simp [Nat.testBit_succ]
  rw [h1]
  show (q + 1 - q % 2) % 18446744073709551616 = 2 * (q % 18446744073709551616 / 2) + 1
  omega
 rw [e1, e2]
 rfl
set_option maxRecDepth 10000 in
set_option maxHeartbeats 1000000 in
theorem lg (w : World) (hT : D7 w) (A : Option Addr) (c : Nat) (xs : List Nat) (h : Sl w A c xs) (n : Nat) (hl : xs.length ≤ 10000000000) (hn : n ≤ 100000000000000) :
  Calls Tryz.prog 249 #[.slice A xs.length c, .int .i64 (n : Int)] w (Bj w (wM (val xs) n)) := by
 have hr := uH w A c xs h n hl hn
 have HJ : Hid (wM (val xs) n = if val xs % 2 ^ n = 0 then val xs / 2 ^ n else val xs / 2 ^ n + 1 - val xs / 2 ^ n % 2) := Lib.hid rfl
 by_cases hd : val xs % 2 ^ n = 0
 ·rw [if_pos hd] at HJ
  have hdt : decide (val xs % 2 ^ n = 0) = true := by simp [hd]
  have hdv := fun W hS hTz => xG W hTz A c xs hS n hl hn
  rw [hdt] at hdv
  clear hd hdt
  go_enter Tryz.func249, Tryz.ntmps249
  go_wp2_with (first
   | (go_at_call 229; refine hr.mono ?_; rintro e w1 ⟨A1, c1, rfl, hs1, hb1, _⟩)
   | (go_at_call 274; refine (hdv _ (h.below hb1) (hT.below hb1)).mono ?_; rintro e w' ⟨rfl, rfl⟩))
  go_ret2
  rw [HJ.out]
  exact ⟨_, _, rfl, hs1, hb1⟩
 ·rw [if_neg hd] at HJ
  have hdt : decide (val xs % 2 ^ n = 0) = false := by simp [hd]
  have hdv := fun W hS hTz => xG W hTz A c xs hS n hl hn
  rw [hdt] at hdv
  clear hd hdt
  by_cases h0 : val xs / 2 ^ n = 0
  ·have HF := Lib.hid (show wM (val xs) n = 1 by rw [HJ.out, h0])
   have h00 : ((((toW (val xs / 2 ^ n)).length : Nat) : Int) == 0) = true := by simp [h0, jv]
   clear h0
   go_enter Tryz.func249, Tryz.ntmps249
   go_wp2_with (first
    | (go_at_call 229; refine hr.mono ?_; rintro e w1 ⟨A1, c1, rfl, hs1, hb1, _⟩)
    | (go_at_call 274; refine (hdv _ (h.below hb1) (hT.below hb1)).mono ?_; rintro e w' ⟨rfl, rfl⟩))
   go_ret2
   rw [HF.out]
   exact ⟨some ⟨w1.heap.size, 0, none⟩, 1, FB (qj (by rw [ru]; rfl)) rfl, ku.oh (Row.new w1 [1]) (Wd.cons (by decide) Wd.nil) hb1.size (by simp [val]) rfl (by decide), hb1.alloc hb1.size _⟩
  ·have hlen : (toW (wM (val xs) n)).length = (toW (val xs / 2 ^ n)).length := by rw [HJ.out, Hq h0, List.length_set]
   have HT := Lib.hid (HJ.out.symm ▸ Hq h0)
   have hpos : 0 < (toW (val xs / 2 ^ n)).length := by
    rw [mZ h0]; simp
   have hne : ((((toW (val xs / 2 ^ n)).length : Nat) : Int) == 0) = false := by
    rw [beq_eq_false_iff_ne]; omega
   go_enter Tryz.func249, Tryz.ntmps249
   go_wp2_with (first
    | (go_at_call 229; refine hr.mono ?_; rintro e w1 ⟨A1, c1, rfl, hs1, hb1, hown⟩)
    | (go_at_call 274; refine (hdv _ (h.below hb1) (hT.below hb1)).mono ?_; rintro e w' ⟨rfl, rfl⟩))
   obtain ⟨g, zs, rfl, hg, hrow, hwz, htk⟩ := hown hpos
   have hcell : w1.cell? ⟨g, 0, none⟩ = some (.int .u64 ((zs.getD 0 0 : Nat) : Int)) := hrow.cell (by
    have : (zs.take (toW (val xs / 2 ^ n)).length).length = (toW (val xs / 2 ^ n)).length := by rw [htk]
    rw [List.length_take] at this; omega)
   have hzl : 0 < zs.length := by
    have : (zs.take (toW (val xs / 2 ^ n)).length).length = (toW (val xs / 2 ^ n)).length := by rw [htk]
    rw [List.length_take] at this; omega
   have hfz : w1.frozen? ⟨g, 0, none⟩ = false := hrow.frozen _
   have hzw := hwz.get 0
   have HSET := Lib.hid (hrow.set 0 (zs.getD 0 0 ||| 1))
   have hz0 : zs.getD 0 0 = (toW (val xs / 2 ^ n)).getD 0 0 := by
    rw [← htk, List.getD_eq_getElem?_getD, List.getD_eq_getElem?_getD, List.getElem?_take_of_lt hpos]
   have HR : Hid (Row (setB w1 g (.cells (cO (zs.set 0 (zs.getD 0 0 ||| 1))) 22 (0, 0))) g (zs.set 0 (zs.getD 0 0 ||| 1)) ∧ (zs.set 0 (zs.getD 0 0 ||| 1)).take (toW (val xs / 2 ^ n)).length = toW (wM (val xs) n)) :=
    Lib.hid ⟨hrow.setB, by rw [List.take_set, htk, HT.out, hz0]⟩
   have hwz' : Wd (zs.set 0 (zs.getD 0 0 ||| 1)) := hwz.set _ _ (Nat.or_lt_two_pow (n := 64) hzw (by decide))
   have HC := Lib.hid hs1.sl.cap
   have HS := Lib.hid hs1.sl.small
   have hcg : (toW (val xs / 2 ^ n)).length ≤ c1 := hs1.sl.cap
   have HCZ : Hid (zs.length = c1 ∧ c1 ≤ 1000000000000) := Lib.hid (by
    rcases hs1.row with h1 | ⟨g2, zs2, h1, h2, h3, h4, h5, h6, h7⟩
    ·exact absurd h1.1 (by simp)
    ·obtain rfl : g = g2 := by simpa using h1
     have h8 := h3.symm.trans hrow
     simp only [Option.some.injEq, Obj.cells.injEq] at h8
     have h9 := congrArg Array.size h8.1
     rw [sO, sO] at h9
     exact ⟨h9 ▸ h4, h7⟩)
   generalize hx : zs.getD 0 0 = x at *
   generalize hL : (toW (val xs / 2 ^ n)).length = L at *
   clear hz0 hs1 hown hx
   go_wp2_with fail
   have hq0 : (0 : Int) < (L : Int) := by omega
   go_simp
   go_wp2_with fail
   go_simp
   go_wp2_with fail
   have hor : bits BinOp.or IntKind.u64 ((x : Nat) : Int) 1 = ((x ||| 1 : Nat) : Int) := u64_or_nat x 1 hzw (by decide)
   simp only [hor, HSET.out]
   go_ret2
   refine ⟨some ⟨g, 0, none⟩, c1, FB (qj hlen.symm) rfl, ?_, kJ hb1 hg _⟩
   exact ⟨⟨by rw [← HR.out.2]; exact (HR.out.1.nw HR.out.1.lt).take L, kX _, by rw [hlen]; exact HC.out, by rw [hlen]; exact HS.out⟩, .inr ⟨g, _, rfl, hg, HR.out.1, by rw [List.length_set]; exact HCZ.out.1, hwz', by rw [hlen]; exact HR.out.2, HCZ.out.2⟩⟩
end Go.Proofs.YtafikkmnkeddpaaGreatDoor
namespace Go.Proofs.YtafikkmnkeddpaaGreatDoor
open Go.RowKit
theorem NU (a b : Nat) : (toW (a * b)).length ≤ (toW a).length + (toW b).length := jZ (by
 rw [Nat.pow_add]
 exact Nat.mul_lt_mul'' (nV a) (nV b))
theorem Lc (m : Nat) (h : m ≤ 20000) : bits .and .i64 (m : Int) 1 = ((m % 2 : Nat) : Int) := by
 have := bits_mask .i64 63 (by decide) (fun n h0 h1 => by rw [IntKind.wrap_i64]; omega) 1 (by decide) (m : Int) (by omega) (by omega)
 simpa using this
theorem Ld {P B m v : Nat} (h : P * B ^ m = v) (hm : m % 2 = 0) : P * (B * B) ^ (m / 2) = v := by
 rw [← h, ← Nat.pow_two, ← Nat.pow_mul, show 2 * (m / 2) = m by omega]
theorem Bv {P B m v : Nat} (h : P * B ^ m = v) (hm : m % 2 = 1) : P * B * (B * B) ^ (m / 2) = v := by
 rw [← h, ← Nat.pow_two, ← Nat.pow_mul, Nat.mul_assoc, Nat.mul_comm B, ← Nat.pow_succ, show (2 * (m / 2)).succ = m by omega]
theorem Le {B v : Nat} (h : B ≤ v) (hl : (toW v).length ≤ 1024) : (toW (B * B)).length ≤ 2048 := by
 have h1 := iO h
 have h2 := NU B B
 omega
set_option maxRecDepth 10000 in
set_option maxHeartbeats 2000000 in
theorem gB (w : World) (b n : Nat) (hb2 : 2 ≤ b) (hbw : b < WB) (hn : n ≤ 20000) (hl : (toW (b ^ n)).length ≤ 1024) :
  Calls Tryz.prog 91 #[.int .u64 (b : Int), .int .i64 (n : Int)] w (Bj w (b ^ n)) := by
 have hbb : (b : Int) ≤ 18446744073709551615 := by have : WB = 18446744073709551616 := rfl; omega
 have hs1 : Sl ((w.alloc (.cells #[.int .u64 1] 22)).alloc (.cells #[.int .u64 (b : Int)] 22)) (some ⟨w.heap.size + 1, 0, none⟩) 1 [b] := by
  have := (Row.new (w.alloc (.cells #[.int .u64 1] 22)) [b]).sl (Wd.cons hbw Wd.nil) (c := 1) (by simp) (by decide)
  simpa [cO] using this
 have hp1 : ku w.heap.size ((w.alloc (.cells #[.int .u64 1] 22)).alloc (.cells #[.int .u64 (b : Int)] 22)) (some ⟨w.heap.size, 0, none⟩) 1 1 := by
  have := (ku.oh (B := w.heap.size) (v := 1) (Row.new w [1]) (Wd.cons (by decide) Wd.nil) (Nat.le_refl _) (by simp [val]) (c := 1) rfl (by decide)).alloc (.cells #[.int .u64 (b : Int)] 22)
  simpa [cO] using this
 have htr := cZ _ _ _ _ hs1
 have hvb : val [b] = b := by simp [val]
 have hsb := hs1.trim
 rw [hvb] at htr hsb
 have HS := Lib.hid (And.intro hp1 hsb)
 have hb0 : Below w.heap.size w ((w.alloc (.cells #[.int .u64 1] 22)).alloc (.cells #[.int .u64 (b : Int)] 22)) := ((Below.refl _ _).alloc (Nat.le_refl _) _).alloc (by simp) _
 have HB0 := Lib.hid hb0
 have HN1 := Lib.hid (show (toW 1).length = 1 by rw [ru]; rfl)
 clear hs1 hp1 hvb hsb hb0
 go_enter Tryz.func91, Tryz.ntmps91
 go_wp2_with (go_at_call 112; refine htr.mono ?_; rintro e w' ⟨rfl, rfl⟩)
 clear htr
 go_loopw [1, 6, 7] (fun tn tp tb wr => ∃ (m P B : Nat) (Ap : Option Addr) (cp : Nat) (Ab : Option Addr) (cb : Nat), tn = .int .i64 (m : Int) ∧ tp = .slice Ap (toW P).length cp ∧ tb = .slice Ab (toW B).length cb ∧ m ≤ n ∧
  Hid (ku w.heap.size wr Ap cp P ∧ Sl wr Ab cb (toW B) ∧ Below w.heap.size w wr) ∧ Hid (P * B ^ m = b ^ n) ∧ Hid (P ≤ b ^ n) ∧ Hid (2 ≤ B) ∧ Hid (0 < m → (toW B).length ≤ 2048)) (fun t _ _ _ => (intOf t).toNat)
 case atStart => exact ⟨n, 1, b, some ⟨w.heap.size, 0, none⟩, 1, some ⟨w.heap.size + 1, 0, none⟩, 1, rfl, qj HN1.out.symm, rfl, Nat.le_refl _, Lib.hid ⟨HS.out.1, HS.out.2, HB0.out⟩, Lib.hid (Nat.one_mul _), Lib.hid (Nat.pos_of_ne_zero (by have : 0 < b ^ n := Nat.pow_pos (by omega); omega)), Lib.hid hb2, Lib.hid fun _ => by have : (toW b).length ≤ 1 := jZ (by simpa using hbw); omega⟩
 case round =>
  obtain ⟨m, P, B, Ap, cp, Ab, cb, rfl, rfl, rfl, hmn, HR, HE0, HPL, HB2, HBM⟩ := hrel
  have hm2 : m ≤ 20000 := by omega
  have HBL : Hid (1 < m → B ≤ b ^ n) := Lib.hid fun hm => by
   rw [← HE0.out]
   have h1 : 0 < P := Nat.pos_of_ne_zero fun h0 => by
    have := HE0.out
    rw [h0, Nat.zero_mul] at this
    have h2 : 0 < b ^ n := Nat.pow_pos (by omega)
    omega
   have h2 : B ^ 1 ≤ B ^ m := Nat.pow_le_pow_right (by have := HB2.out; omega) (by omega)
   rw [Nat.pow_one] at h2
   exact Nat.le_trans h2 (Nat.le_mul_of_pos_left _ h1)
  by_cases hm0 : m = 0
  ·subst hm0
   have HP := HE0.out
   rw [Nat.pow_zero, Nat.mul_one] at HP
   subst HP
   go_wp2
   go_ret2
   exact ⟨_, _, rfl, HR.out.1, HR.out.2.2⟩
  have hand := Lc m hm2
  have hmi : (0 : Int) < (m : Int) := by omega
  by_cases hodd : m % 2 = 1
  ·rw [hodd] at hand
   have hpp := oK wr Ap Ab cp cb _ _ HR.out.1.sl HR.out.2.1 (by have h1 := iO HPL.out; omega) (by have := HBM.out (by omega); omega)
   rw [dI, dI] at hpp
   have HX : Hid (P * B * (B * B) ^ (m / 2) = b ^ n ∧ P * B ≤ b ^ n) := Lib.hid ⟨Bv HE0.out hodd, by
    rw [← Bv HE0.out hodd]
    exact Nat.le_mul_of_pos_right _ (Nat.pow_pos (Nat.mul_pos (by have := HB2.out; omega) (by have := HB2.out; omega)))⟩
   have HRR := Lib.hid HR.out
   clear HR
   go_wp2_with fail
   refine hpp.mono ?_
   rintro e W2 ⟨A2, c2, rfl, hO2', hb2'⟩
   obtain ⟨P2, hP2⟩ : ∃ P2, P2 = P * B := ⟨_, rfl⟩
   have hO2 : ku w.heap.size W2 A2 c2 P2 := by rw [hP2]; exact hO2'.lower HRR.out.2.2.size
   have hS2 := HRR.out.2.1.below hb2'
   have hB2 : Below w.heap.size w W2 := HRR.out.2.2.trans (hb2'.mono HRR.out.2.2.size)
   have hP2e : P2 * (B * B) ^ (m / 2) = b ^ n := by rw [hP2]; exact HX.out.1
   have hP2l : P2 ≤ b ^ n := by rw [hP2]; exact HX.out.2
   rw [← hP2]
   clear hO2' hb2' hP2 hpp HRR HX
   have HP2 : Hid (ku w.heap.size W2 A2 c2 P2 ∧ Sl W2 Ab cb (toW B) ∧ Below w.heap.size w W2 ∧ P2 * (B * B) ^ (m / 2) = b ^ n ∧ P2 ≤ b ^ n) := Lib.hid ⟨hO2, hS2, hB2, hP2e, hP2l⟩
   have hg1 := mG (W2.alloc (.cells #[.slice A2 (toW P2).length c2] 73)) W2.heap.size A2 c2 _ (by simp) (hO2.sl.alloc _)
   rw [dI, show decide (1024 < (toW P2).length) = false by have := iO hP2l; simp; omega] at hg1
   clear hO2 hS2 hB2 hP2e hP2l
   by_cases hm1 : 1 < m
   ·have hbl : (toW B).length ≤ 1024 := Nat.le_trans (iO (HBL.out hm1)) hl
    have hg2 : ∀ W, Sl W Ab cb (toW B) → Calls Tryz.prog 111 #[.slice (some ⟨W.heap.size, 0, none⟩) 1 1] (W.alloc (.cells #[.slice Ab (toW B).length cb] 73)) fun e w' => e = .returned (.bool false) ∧ W.alloc (.cells #[.slice Ab (toW B).length cb] 73) = w' := fun W h => by
     have := mG (W.alloc (.cells #[.slice Ab (toW B).length cb] 73)) W.heap.size Ab cb _ (by simp) (h.alloc _)
     rwa [dI, show decide (1024 < (toW B).length) = false by simp; omega] at this
    have hgB := hg2 (W2.alloc (.cells #[.slice A2 (toW P2).length c2] 73)) (HP2.out.2.1.alloc _)
    have hpb := oK ((W2.alloc (.cells #[.slice A2 (toW P2).length c2] 73)).alloc (.cells #[.slice Ab (toW B).length cb] 73)) Ab Ab cb cb _ _ ((HP2.out.2.1.alloc _).alloc _) ((HP2.out.2.1.alloc _).alloc _) (by omega) (by omega)
    rw [dI] at hpb
    have hsz : (W2.alloc (.cells #[.slice A2 (toW P2).length c2] 73)).heap.size = W2.heap.size + 1 := by simp
    rw [hsz] at hgB
    clear hg2 hsz
    go_wp2_with fail
    refine hg1.mono ?_
    rintro e w' ⟨rfl, rfl⟩
    go_wp2_with fail
    refine hgB.mono ?_
    rintro e w' ⟨rfl, rfl⟩
    go_wp2_with fail
    refine hpb.mono ?_
    rintro e w3 ⟨A3, c3, rfl, hs3, hb3⟩
    have HE : Hid (ku w.heap.size w3 A2 c2 P2 ∧ Sl w3 A3 c3 (toW (B * B)) ∧ Below w.heap.size w w3) := Lib.hid ⟨((HP2.out.1.alloc _).alloc _).below hb3, hs3.sl, ((HP2.out.2.2.1.alloc HP2.out.2.2.1.size _).alloc (Nat.le_trans HP2.out.2.2.1.size (by simp)) _).trans (hb3.mono (Nat.le_trans HP2.out.2.2.1.size (by simp; omega)))⟩
    clear hs3 hb3 hbl
    go_wp2
    go_roundw
    case rel => exact ⟨m / 2, P2, B * B, A2, c2, A3, c3, by go_num, rfl, rfl, by omega, HE, Lib.hid HP2.out.2.2.2.1, Lib.hid HP2.out.2.2.2.2, Lib.hid (by have := HB2.out; exact Nat.le_trans this (Nat.le_mul_of_pos_left _ (by omega))), Lib.hid fun _ => Le (HBL.out hm1) hl⟩
    case measure => simp only [intOf]; omega
   ·have hpb := oK (W2.alloc (.cells #[.slice A2 (toW P2).length c2] 73)) Ab Ab cb cb _ _ (HP2.out.2.1.alloc _) (HP2.out.2.1.alloc _) (by have := HBM.out (by omega); omega) (by have := HBM.out (by omega); omega)
    rw [dI] at hpb
    have hm1' : m = 1 := by omega
    subst hm1'
    have hn1 : ¬ (1 : Int) < ((1 : Nat) : Int) := by omega
    go_wp2_with fail
    refine hg1.mono ?_
    rintro e w' ⟨rfl, rfl⟩
    go_wp2_with fail
    refine hpb.mono ?_
    rintro e w3 ⟨A3, c3, rfl, hs3, hb3⟩
    have HE : Hid (ku w.heap.size w3 A2 c2 P2 ∧ Below w.heap.size w w3) := Lib.hid ⟨(HP2.out.1.alloc _).below hb3, (HP2.out.2.2.1.alloc HP2.out.2.2.1.size _).trans (hb3.mono (Nat.le_trans HP2.out.2.2.1.size (by simp)))⟩
    have HE2 := Lib.hid hs3.sl
    clear hs3 hb3
    go_wp2
    go_roundw
    case rel => exact ⟨0, P2, B * B, A2, c2, A3, c3, by go_num, rfl, rfl, by omega, Lib.hid ⟨HE.out.1, HE2.out, HE.out.2⟩, Lib.hid HP2.out.2.2.2.1, Lib.hid HP2.out.2.2.2.2, Lib.hid (by have := HB2.out; exact Nat.le_trans this (Nat.le_mul_of_pos_left _ (by omega))), Lib.hid fun h => absurd h (by omega)⟩
    case measure => simp only [intOf]; omega
  ·have hev : m % 2 = 0 := by omega
   rw [hev] at hand
   have hP2e : P * (B * B) ^ (m / 2) = b ^ n := Ld HE0.out hev
   have hO2 := HR.out.1
   have hS2 := HR.out.2.1
   have hB2 := HR.out.2.2
   have hP2l := HPL.out
   obtain ⟨P2, hP2⟩ : ∃ P2, P2 = P := ⟨_, rfl⟩
   obtain ⟨A2, c2, W2, hA2, hc2, hW2⟩ : ∃ A2 c2 W2, A2 = Ap ∧ c2 = cp ∧ W2 = wr := ⟨_, _, _, rfl, rfl, rfl⟩
   subst hP2 hA2 hc2 hW2
   clear HR
   have HP2 : Hid (ku w.heap.size W2 A2 c2 P2 ∧ Sl W2 Ab cb (toW B) ∧ Below w.heap.size w W2 ∧ P2 * (B * B) ^ (m / 2) = b ^ n ∧ P2 ≤ b ^ n) := Lib.hid ⟨hO2, hS2, hB2, hP2e, hP2l⟩
   have hg1 := mG (W2.alloc (.cells #[.slice A2 (toW P2).length c2] 73)) W2.heap.size A2 c2 _ (by simp) (hO2.sl.alloc _)
   rw [dI, show decide (1024 < (toW P2).length) = false by have := iO hP2l; simp; omega] at hg1
   clear hO2 hS2 hB2 hP2e hP2l
   by_cases hm1 : 1 < m
   ·have hbl : (toW B).length ≤ 1024 := Nat.le_trans (iO (HBL.out hm1)) hl
    have hg2 : ∀ W, Sl W Ab cb (toW B) → Calls Tryz.prog 111 #[.slice (some ⟨W.heap.size, 0, none⟩) 1 1] (W.alloc (.cells #[.slice Ab (toW B).length cb] 73)) fun e w' => e = .returned (.bool false) ∧ W.alloc (.cells #[.slice Ab (toW B).length cb] 73) = w' := fun W h => by
     have := mG (W.alloc (.cells #[.slice Ab (toW B).length cb] 73)) W.heap.size Ab cb _ (by simp) (h.alloc _)
     rwa [dI, show decide (1024 < (toW B).length) = false by simp; omega] at this
    have hgB := hg2 (W2.alloc (.cells #[.slice A2 (toW P2).length c2] 73)) (HP2.out.2.1.alloc _)
    have hpb := oK ((W2.alloc (.cells #[.slice A2 (toW P2).length c2] 73)).alloc (.cells #[.slice Ab (toW B).length cb] 73)) Ab Ab cb cb _ _ ((HP2.out.2.1.alloc _).alloc _) ((HP2.out.2.1.alloc _).alloc _) (by omega) (by omega)
    rw [dI] at hpb
    have hsz : (W2.alloc (.cells #[.slice A2 (toW P2).length c2] 73)).heap.size = W2.heap.size + 1 := by simp
    rw [hsz] at hgB
    clear hg2 hsz
    go_wp2_with fail
    refine hg1.mono ?_
    rintro e w' ⟨rfl, rfl⟩
    go_wp2_with fail
    refine hgB.mono ?_
    rintro e w' ⟨rfl, rfl⟩
    go_wp2_with fail
    refine hpb.mono ?_
    rintro e w3 ⟨A3, c3, rfl, hs3, hb3⟩
    have HE : Hid (ku w.heap.size w3 A2 c2 P2 ∧ Sl w3 A3 c3 (toW (B * B)) ∧ Below w.heap.size w w3) := Lib.hid ⟨((HP2.out.1.alloc _).alloc _).below hb3, hs3.sl, ((HP2.out.2.2.1.alloc HP2.out.2.2.1.size _).alloc (Nat.le_trans HP2.out.2.2.1.size (by simp)) _).trans (hb3.mono (Nat.le_trans HP2.out.2.2.1.size (by simp; omega)))⟩
    clear hs3 hb3 hbl
    go_wp2
    go_roundw
    case rel => exact ⟨m / 2, P2, B * B, A2, c2, A3, c3, by go_num, rfl, rfl, by omega, HE, Lib.hid HP2.out.2.2.2.1, Lib.hid HP2.out.2.2.2.2, Lib.hid (by have := HB2.out; exact Nat.le_trans this (Nat.le_mul_of_pos_left _ (by omega))), Lib.hid fun _ => Le (HBL.out hm1) hl⟩
    case measure => simp only [intOf]; omega
   ·exact absurd hm1 (by omega)
end Go.Proofs.YtafikkmnkeddpaaGreatDoor
