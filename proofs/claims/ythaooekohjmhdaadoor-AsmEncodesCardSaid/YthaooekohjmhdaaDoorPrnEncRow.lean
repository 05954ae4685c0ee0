/- AsmEncodes: every instruction is encoded and printed as the document says: the statement 'Rows.AsmEncodesCardSaid' (the row's variables tied to the program's text). No condition. -/
import Derived.Test.YthaooekohjmhdaaDoorRows
import Derived.Test.YthaooekohjmhdaaDoorCards
import Derived.Test.YthaooekohjmhdaaDoorTie
import Derived.Test.YthaooekohjmhdaaDoorPrnL
import Derived.WalkKit
import Derived.ProofKit
import Derived.LaidMore
import Derived.OpenShut
import Derived.Stop.Joined
import Derived.Stop.LaidErr
import Derived.Lib.LaidTab
import Derived.Lib.SmallJoins
import Derived.SevenTiedAt
namespace Go.Proofs.YthaooekohjmhdaaDoor
open Go.ChangeShapes Go.WideShapes Go.ChangeAt Go.RowKit Go.Joins
set_option linter.unusedVariables false
set_option linter.unusedSimpArgs false

theorem own : ownKnob Tryd.prog.godebug = none := by kernel_rfl

theorem array7 {α : Type} {cs : Array α} (h : cs.size = 7) : ∃ c0 c1 c2 c3 c4 c5 c6, cs = #[c0, c1, c2, c3, c4, c5, c6] := by
  obtain ⟨l⟩ := cs
  match l, h with
  | [c0, c1, c2, c3, c4, c5, c6], _ => exact ⟨c0, c1, c2, c3, c4, c5, c6, rfl⟩

theorem list7 {α : Type} {l : List α} (h : l.length = 7) : ∃ c0 c1 c2 c3 c4 c5 c6, l = [c0, c1, c2, c3, c4, c5, c6] := by
  match l, h with
  | [c0, c1, c2, c3, c4, c5, c6], _ => exact ⟨c0, c1, c2, c3, c4, c5, c6, rfl⟩
theorem wf_i64 {a : Int} (h : (Lit.int .i64 a).wf = true) : -9223372036854775808 ≤ a ∧ a ≤ 9223372036854775807 := by
  simp only [Lit.wf, IntKind.min, IntKind.max, IntKind.signed, IntKind.bits, Bool.and_eq_true, decide_eq_true_eq] at h
  simp at h
  omega
theorem wf_i32 {a : Int} (h : (Lit.int .i32 a).wf = true) : -2147483648 ≤ a ∧ a ≤ 2147483647 := by
  simp only [Lit.wf, IntKind.min, IntKind.max, IntKind.signed, IntKind.bits, Bool.and_eq_true, decide_eq_true_eq] at h
  simp at h
  omega
theorem wf_of64 {a : Int} (h0 : -9223372036854775808 ≤ a) (h1 : a ≤ 9223372036854775807) : (Lit.int .i64 a).wf = true := by
  simp only [Lit.wf, IntKind.min, IntKind.max, IntKind.signed, IntKind.bits, Bool.and_eq_true, decide_eq_true_eq]
  simp
  omega
theorem wf_of32 {a : Int} (h0 : -2147483648 ≤ a) (h1 : a ≤ 2147483647) : (Lit.int .i32 a).wf = true := by
  simp only [Lit.wf, IntKind.min, IntKind.max, IntKind.signed, IntKind.bits, Bool.and_eq_true, decide_eq_true_eq]
  simp
  omega

variable {H : Type} {enc : TypeId × Value → H}

set_option maxRecDepth 100000 in
/-- An instruction by value, opened. -/
theorem open_ins {w : World} {base : Nat} {spare : Nat → Bool} {held : Bool} {r : Reach} {b0 : Nat} {v : Value} {D : DataW H} {p : List MemPlace}
    (hv : Value.okWide Tryd.prog w r b0 25 v) (h : DataW.Trod enc Tryd.prog w base spare held 25 v D p) :
    ∃ i : Ins, v = .agg i.cells ∧ i.Ok ∧ p = [] ∧ D = .agg [.lit (.int .i64 i.c), .lit (.int .i64 i.f), .lit (.int .i64 i.d), .lit (.int .i64 i.a), .lit (.int .i64 i.b), .lit (.int .i64 i.e), .lit (.int .i32 i.m)] := by
  obtain ⟨cs, rfl, hsz⟩ := okWide_struct Tryd.underlying25 hv
  obtain ⟨c0, c1, c2, c3, c4, c5, c6, rfl⟩ := array7 (hsz.trans (show Tryd.prog.cellsOf 25 = 7 by kernel_rfl))
  obtain ⟨fuel, hf⟩ := h
  obtain ⟨xs, n, _, hx, _, hlen, hg⟩ := DataW.trod_struct Tryd.underlying25 hf
  obtain ⟨y0, y1, y2, y3, y4, y5, y6, rfl⟩ := list7 (show xs.length = 7 from hlen)
  have s0 : Tryd.prog.cellsOf 22 = 1 := by kernel_rfl
  have s1 : Tryd.prog.cellsOf 23 = 1 := by kernel_rfl
  have s2 : Tryd.prog.cellsOf 3 = 1 := by kernel_rfl
  have s6 : Tryd.prog.cellsOf 21 = 1 := by kernel_rfl
  have g0 : DataW.trod enc Tryd.prog w base spare held n 22 [c0] = some y0 := by simpa [Value.cells, s0] using hg 0 _ rfl
  have g1 : DataW.trod enc Tryd.prog w base spare held n 23 [c1] = some y1 := by simpa [Value.cells, s1] using hg 1 _ rfl
  have g2 : DataW.trod enc Tryd.prog w base spare held n 3 [c2] = some y2 := by simpa [Value.cells, s2] using hg 2 _ rfl
  have g3 : DataW.trod enc Tryd.prog w base spare held n 3 [c3] = some y3 := by simpa [Value.cells, s2] using hg 3 _ rfl
  have g4 : DataW.trod enc Tryd.prog w base spare held n 3 [c4] = some y4 := by simpa [Value.cells, s2] using hg 4 _ rfl
  have g5 : DataW.trod enc Tryd.prog w base spare held n 3 [c5] = some y5 := by simpa [Value.cells, s2] using hg 5 _ rfl
  have g6 : DataW.trod enc Tryd.prog w base spare held n 21 [c6] = some y6 := by simpa [Value.cells, s6] using hg 6 _ rfl
  obtain ⟨a0, e0, z0, w0⟩ := DataW.trod_int Tryd.underlying22 g0
  obtain ⟨a1, e1, z1, w1⟩ := DataW.trod_int Tryd.underlying23 g1
  obtain ⟨a2, e2, z2, w2⟩ := DataW.trod_int Tryd.underlying3 g2
  obtain ⟨a3, e3, z3, w3⟩ := DataW.trod_int Tryd.underlying3 g3
  obtain ⟨a4, e4, z4, w4⟩ := DataW.trod_int Tryd.underlying3 g4
  obtain ⟨a5, e5, z5, w5⟩ := DataW.trod_int Tryd.underlying3 g5
  obtain ⟨a6, e6, z6, w6⟩ := DataW.trod_int Tryd.underlying21 g6
  simp only [List.cons.injEq, and_true] at e0 e1 e2 e3 e4 e5 e6
  subst e0 z0 e1 z1 e2 z2 e3 z3 e4 z4 e5 z5 e6 z6
  simp only [Prod.mk.injEq] at hx
  obtain ⟨rfl, rfl⟩ := hx
  refine ⟨⟨a0, a1, a2, a3, a4, a5, a6⟩, rfl, ?_, rfl, rfl⟩
  exact ⟨(wf_i64 w0).1, (wf_i64 w0).2, (wf_i64 w1).1, (wf_i64 w1).2, (wf_i64 w2).1, (wf_i64 w2).2, (wf_i64 w3).1, (wf_i64 w3).2, (wf_i64 w4).1, (wf_i64 w4).2, (wf_i64 w5).1, (wf_i64 w5).2, (wf_i32 w6).1, (wf_i32 w6).2⟩

set_option maxRecDepth 100000 in
/-- .. and shut. -/
theorem shut_ins {w : World} {base : Nat} {spare : Nat → Bool} {held : Bool} (i : Ins) (hok : i.Ok) :
    DataW.Trod enc Tryd.prog w base spare held 25 (.agg i.cells) (.agg [.lit (.int .i64 i.c), .lit (.int .i64 i.f), .lit (.int .i64 i.d), .lit (.int .i64 i.a), .lit (.int .i64 i.b), .lit (.int .i64 i.e), .lit (.int .i32 i.m)]) [] := by
  have s0 : Tryd.prog.cellsOf 22 = 1 := by kernel_rfl
  have s1 : Tryd.prog.cellsOf 23 = 1 := by kernel_rfl
  have s2 : Tryd.prog.cellsOf 3 = 1 := by kernel_rfl
  have s6 : Tryd.prog.cellsOf 21 = 1 := by kernel_rfl
  have h0 := wf_of64 hok.c1 hok.c2
  have h1 := wf_of64 hok.f1 hok.f2
  have h2 := wf_of64 hok.d1 hok.d2
  have h3 := wf_of64 hok.a1 hok.a2
  have h4 := wf_of64 hok.b1 hok.b2
  have h5 := wf_of64 hok.e1 hok.e2
  have h6 := wf_of32 hok.m1 hok.m2
  have t0 := trod_int_mk (enc := enc) (w := w) (base := base) (spare := spare) (held := held) 0 Tryd.underlying22 h0
  have t1 := trod_int_mk (enc := enc) (w := w) (base := base) (spare := spare) (held := held) 0 Tryd.underlying23 h1
  have t2 := trod_int_mk (enc := enc) (w := w) (base := base) (spare := spare) (held := held) 0 Tryd.underlying3 h2
  have t3 := trod_int_mk (enc := enc) (w := w) (base := base) (spare := spare) (held := held) 0 Tryd.underlying3 h3
  have t4 := trod_int_mk (enc := enc) (w := w) (base := base) (spare := spare) (held := held) 0 Tryd.underlying3 h4
  have t5 := trod_int_mk (enc := enc) (w := w) (base := base) (spare := spare) (held := held) 0 Tryd.underlying3 h5
  have t6 := trod_int_mk (enc := enc) (w := w) (base := base) (spare := spare) (held := held) 0 Tryd.underlying21 h6
  refine ⟨2, ?_⟩
  have := trod_struct_mk (enc := enc) (w := w) (base := base) (spare := spare) (held := held) (n := 1) (cs := i.cells.toList)
    (xs := [(.lit (.int .i64 i.c), []), (.lit (.int .i64 i.f), []), (.lit (.int .i64 i.d), []), (.lit (.int .i64 i.a), []), (.lit (.int .i64 i.b), []), (.lit (.int .i64 i.e), []), (.lit (.int .i32 i.m), [])])
    Tryd.underlying25 (by kernel_rfl) (by simp [Ins.cells, s0, s1, s2, s6, t0, t1, t2, t3, t4, t5, t6])
  simpa [Value.cells] using this

set_option maxRecDepth 100000 in
/-- the tables, off the row's condition. -/
theorem tb_of {W : World} (h : laidMetH Tryd.prog Rows.asmEncodesRow.laid W) : Tb W := by
  rw [MakeChecks.laidMetH_plain _ _ _ (by kernel_rfl)] at h
  have hp := Go.laidMet.tail (Go.laidMet.tail h)
  have hs := Go.laidMet.tail (Go.laidMet.tail hp)
  have tp : Lib.TabIs Tryd.prog W "internal/strconv.uint64pow10" .u64 Lib.pow10Tab :=
    Lib.tabIs_of_head (g := 2) (t := 123) (e := 26) (n := 20) (by kernel_rfl) (by kernel_rfl) (by kernel_rfl) (by kernel_rfl) (by kernel_rfl) (by kernel_rfl) hp
  have ts : Lib.TabIs Tryd.prog W "strings.asciiSpace" .u8 Lib.asciiSpaceTab :=
    Lib.tabIs_of_head (g := 0) (t := 93) (e := 5) (n := 256) (by kernel_rfl) (by kernel_rfl) (by kernel_rfl) (by kernel_rfl) (by kernel_rfl) (by kernel_rfl) hs
  exact ⟨fun w' hb => Lib.tabBelow_of_tabIs tp w' hb, fun w' hb => Lib.tabBelow_of_tabIs ts w' hb⟩

/-- The door's own heap meets the condition. -/
theorem door_met (os : Os) (args : Array Value) : laidMetH Tryd.prog Rows.asmEncodesRow.laid ((World.doorLaid Tryd.prog 400 os).forCall (fun _ _ => 0) ⟨#[], args, []⟩).memory :=
  laidMetH_of_parts3 (fuel := 8) (laidMet_of_run' 8 (by kernel_rfl) (by kernel_rfl)) (by kernel_rfl) (by kernel_rfl)

def ins0 : Array Value := #[.int .i64 0, .int .i64 0, .int .i64 0, .int .i64 0, .int .i64 0, .int .i64 0, .int .i32 0]

set_option maxRecDepth 100000 in
theorem lifted (os : Os) (started : os.Started) (H : Type) (enc : TypeId × Value → H) :
    ReturnsInHanded {} Tryd.checked os 3 .any (fun w args => (Rows.asmEncodesSpec.pre enc Tryd.prog Tryd.f3 [] false w args ∧ laidMetH Tryd.prog Rows.asmEncodesRow.laid w) ∧ sizedMet enc Tryd.prog Tryd.f3 (OpenSpec.ofChange Rows.asmEncodesSpec) false w args)
      (Rows.asmEncodesSpec.post enc Tryd.prog Tryd.f3 false true false false) := by
  refine returnsInHanded_of_change_and (C := Tryd.checked) (X := fun w _ => laidMetH Tryd.prog Rows.asmEncodesRow.laid w) (fun _ _ _ hh h => h.of_heap hh) own started (by kernel_rfl) Tryd.func3
    (ChangeSpec.witness_shaped (enc := enc) (C := Tryd.checked) (os := os) (X := fun w _ => laidMetH Tryd.prog Rows.asmEncodesRow.laid w) false (World.doorLaid Tryd.prog 400 os) #[.agg ins0] 8 rfl (World.shaped_of_RefB (by kernel_rfl) (by kernel_rfl)) (by kernel_rfl) (by kernel_rfl) (by kernel_rfl) (door_met os _)) ?_
  intro W base args ds gs before hval0 hW _ _ hL _
  have hval : ∀ (j : Nat) t v, Tryd.f3.params[j]? = some t → args[j]? = some v → Value.okWide Tryd.prog W .any base t v := hval0
  have hW' := hW
  obtain ⟨p, q, hA0, hV, rfl, hfz, hnd⟩ := hW
  have hA : DataW.TrodAll enc Tryd.prog W 0 (fun _ => true) true Tryd.f3.params.toList args.toList ds p := hA0
  rw [Tryd.params3] at hA hval
  obtain ⟨v0, d0, rfl, rfl, h0⟩ := trodAll_one hA
  obtain ⟨rfl, rfl⟩ := trodVars_none hV
  obtain ⟨i, rfl, hok, rfl, rfl⟩ := open_ins (hval 0 25 v0 rfl rfl) h0
  have htb := tb_of hL
  clear hA0 hval0
  simp only [List.append_nil] at hW'
  refine (law_AsmEncodes i hok W htb).mono fun e W' ⟨he, hb⟩ => ?_
  subst he
  exact ⟨_, rfl, _, _, _, [], [], [], hW', trodAll_cons_mk (shut_bool Tryd.underlying4 _) trodAll_mk0, trodAll_cons_mk (shut_ins i hok) trodAll_mk0, rfl, hb.frame _, fun h => by cases h⟩

theorem holds : Rows.AsmEncodesSaid :=
  OpenClaim.holds_of_wide 3 Tryd.f3 rfl rfl rfl rfl rfl rfl rfl ⟨rfl, rfl, rfl, rfl, rfl⟩ rfl rfl rfl rfl rfl (by kernel_rfl) Tryd.func3 (by kernel_rfl)
    (of_decide_eq_true (by kernel_rfl)) (by unfold Func.isWrapper; first | (rw [if_pos (by decide +kernel)]; kernel_rfl) | (rw [if_neg (by decide +kernel)]; exact ⟨rfl, rfl⟩))
    (fun os started H enc _ => lifted os started H enc)

/-- ████ THE STATEMENT ████ -/
theorem proved : Rows.AsmEncodesCardSaid :=
  Claim7.holds_tied_plain_at .later [] [.data, .data, .data, .listed, .data] true (true, "7944471fd935430279d092237349ed4729a334c492b110a7cf966b5a06eae140") false
    holds (fun _ h => by cases h) (by kernel_rfl) (fun _ h => by cases h) asmEncodes_row_tie rfl ⟨rfl, rfl⟩ (by kernel_rfl) rfl
    (fun f fn hf hfn => by
      obtain rfl : f = 3 := Option.some.inj ((show Tryd.prog.funcNamed "vernier/vernierlaw25.AsmEncodes" = some 3 by kernel_rfl).symm.trans hf) |>.symm
      obtain rfl : fn = Tryd.f3 := (Option.some.inj (Tryd.func3.symm.trans hfn)).symm
      exact ⟨by kernel_rfl, fun j t ht => by
        rw [Tryd.params3] at ht
        have hm : t ∈ [25] := by simpa using Array.mem_of_getElem? ht
        have hall : ([25].all fun u => !Tryd.prog.wantsStandIn u) = true := by kernel_rfl
        exact (show Tryd.prog.wantsStandIn t = false by simpa using List.all_eq_true.1 hall t hm)⟩)
    (by kernel_rfl)
#print axioms proved

end Go.Proofs.YthaooekohjmhdaaDoor
