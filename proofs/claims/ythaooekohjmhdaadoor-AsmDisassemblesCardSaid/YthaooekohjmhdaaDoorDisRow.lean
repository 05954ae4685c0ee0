/- AsmDisassembles: every list of words is disassembled as the document says; the words stay, and the room behind them: the statement 'Rows.AsmDisassemblesCardSaid' (the row's variables tied to the program's text). No condition. -/
import Derived.Test.YthaooekohjmhdaaDoorRows
import Derived.Test.YthaooekohjmhdaaDoorCards
import Derived.Test.YthaooekohjmhdaaDoorTie
import Derived.Test.YthaooekohjmhdaaDoorDisL
import Derived.WalkKit
import Derived.ProofKit
import Derived.LaidMore
import Derived.OpenShut
import Derived.Stop.Joined
import Derived.Stop.LaidErr
import Derived.Lib.LaidTab
import Derived.ChangeSlices
import Derived.SizedLaws
import Derived.SevenTiedAt
namespace Go.Proofs.YthaooekohjmhdaaDoor
open Go.ChangeShapes Go.WideShapes Go.ChangeAt Go.RowKit
set_option linter.unusedVariables false
set_option linter.unusedSimpArgs false

theorem own : ownKnob Tryd.prog.godebug = none := by kernel_rfl
theorem laidOut : laidOutB Tryd.prog = true := by kernel_rfl

theorem wf_u64 {a : Int} (h : (Lit.int .u64 a).wf = true) : 0 ≤ a ∧ a < 18446744073709551616 := by
  simp only [Lit.wf, IntKind.min, IntKind.max, IntKind.signed, IntKind.bits, Bool.and_eq_true, decide_eq_true_eq] at h
  simp at h
  omega

set_option maxRecDepth 100000 in
/-- the tables, off the row's condition. -/
theorem tb_of {W : World} (h : laidMetH Tryd.prog Rows.asmDisassemblesRow.laid W) : Tb W := by
  rw [MakeChecks.laidMetH_plain _ _ _ (by kernel_rfl)] at h
  have hp := Go.laidMet.tail (Go.laidMet.tail h)
  have hs := Go.laidMet.tail (Go.laidMet.tail hp)
  have tp : Lib.TabIs Tryd.prog W "internal/strconv.uint64pow10" .u64 Lib.pow10Tab :=
    Lib.tabIs_of_head (g := 2) (t := 123) (e := 26) (n := 20) (by kernel_rfl) (by kernel_rfl) (by kernel_rfl) (by kernel_rfl) (by kernel_rfl) (by kernel_rfl) hp
  have ts : Lib.TabIs Tryd.prog W "strings.asciiSpace" .u8 Lib.asciiSpaceTab :=
    Lib.tabIs_of_head (g := 0) (t := 93) (e := 5) (n := 256) (by kernel_rfl) (by kernel_rfl) (by kernel_rfl) (by kernel_rfl) (by kernel_rfl) (by kernel_rfl) hs
  exact ⟨fun w' hb => Lib.tabBelow_of_tabIs tp w' hb, fun w' hb => Lib.tabBelow_of_tabIs ts w' hb⟩

/-- The door's own heap meets the condition. -/
theorem door_met (os : Os) (args : Array Value) : laidMetH Tryd.prog Rows.asmDisassemblesRow.laid ((World.doorLaid Tryd.prog 400 os).forCall (fun _ _ => 0) ⟨#[], args, []⟩).memory :=
  laidMetH_of_parts3 (fuel := 8) (laidMet_of_run' 8 (by kernel_rfl) (by kernel_rfl)) (by kernel_rfl) (by kernel_rfl)

theorem bytes8 : Tryd.prog.bytesOf 26 = 8 := by kernel_rfl

set_option maxRecDepth 100000 in
theorem lifted (os : Os) (started : os.Started) (H : Type) (enc : TypeId × Value → H) :
    ReturnsInHanded {} Tryd.checked os 4 .any (fun w args => (Rows.asmDisassemblesSpec.pre enc Tryd.prog Tryd.f4 [] false w args ∧ laidMetH Tryd.prog Rows.asmDisassemblesRow.laid w) ∧ sizedMet enc Tryd.prog Tryd.f4 (OpenSpec.ofChange Rows.asmDisassemblesSpec) false w args)
      (Rows.asmDisassemblesSpec.post enc Tryd.prog Tryd.f4 false true false false) := by
  refine returnsInHanded_of_change_and (C := Tryd.checked) (X := fun w _ => laidMetH Tryd.prog Rows.asmDisassemblesRow.laid w) (fun _ _ _ hh h => h.of_heap hh) own started (by kernel_rfl) Tryd.func4
    (ChangeSpec.witness_shaped (enc := enc) (C := Tryd.checked) (os := os) (X := fun w _ => laidMetH Tryd.prog Rows.asmDisassemblesRow.laid w) false (World.doorLaid Tryd.prog 400 os) #[.slice none 0 0] 8 rfl (World.shaped_of_RefB (by kernel_rfl) (by kernel_rfl)) (by kernel_rfl) (by kernel_rfl) (by kernel_rfl) (door_met os _)) ?_
  intro W base args ds gs before hval0 hW _ hsz hL _
  have hval : ∀ (j : Nat) t v, Tryd.f4.params[j]? = some t → args[j]? = some v → Value.okWide Tryd.prog W .any base t v := hval0
  have hW' := hW
  obtain ⟨p, q, hA0, hV, rfl, hfz, hnd⟩ := hW
  have hA : DataW.TrodAll enc Tryd.prog W 0 (fun _ => true) true Tryd.f4.params.toList args.toList ds p := hA0
  have hsz2 : (DataW.weightsEach Tryd.prog (Tryd.f4.params.toList ++ Rows.asmDisassemblesSpec.plain.varTypes Tryd.prog) (ds ++ gs)).all (· ≤ reachBytes) = true := hsz
  rw [Tryd.params4] at hA hval hsz2
  obtain ⟨v0, d0, rfl, rfl, h0⟩ := trodAll_one hA
  obtain ⟨rfl, rfl⟩ := trodVars_none hV
  obtain ⟨a0, len, cap, rfl⟩ := okWide_slice Tryd.underlying41 (hval 0 41 v0 rfl rfl)
  have h0k := h0
  obtain ⟨fuel, hf⟩ := h0
  have htb := tb_of hL
  clear hA0 hval0
  simp only [List.append_nil] at hW'
  have hlt : ∀ x ∈ p, x.block < W.heap.size := fun x hx => by simpa using hW'.lt x hx
  have hargs : ∀ (W' : World), Below W.heap.size W W' → DataW.Trod enc Tryd.prog W' 0 (fun b => decide (b < W.heap.size)) true 41 (.slice a0 len cap) d0 p :=
    fun W' hn => Below.trod laidOut (by kernel_rfl) (of_decide_eq_true (by kernel_rfl)) h0k hn hlt
  have fin : ∀ xs : List Nat, xs.length = len → Nw W W.heap.size a0 xs → (∀ x ∈ xs, x < 18446744073709551616) → (xs.length + 5) * 8 ≤ 140737488355328 →
      Calls Tryd.checked.prog 4 #[.slice a0 len cap] W fun e W' => ∃ v, e = .returned v ∧ Rows.asmDisassemblesSpec.post enc Tryd.checked.prog Tryd.f4 false true false false W #[.slice a0 len cap] v W' := by
    intro xs hlen hx hw hn
    subst hlen
    refine (law_AsmDisassembles W a0 cap xs hx hw hn htb).mono fun e W' ⟨he, hb⟩ => ?_
    subst he
    exact ⟨_, rfl, _, _, _, [], _, [], hW', trodAll_cons_mk (shut_bool Tryd.underlying4 _) trodAll_mk0, trodAll_mk1 (hargs _ hb), rfl, hb.frame _, fun h => by cases h⟩
  rcases open_ints Tryd.underlying41 Tryd.underlying26 (by kernel_rfl) hf with ⟨hcs, hx⟩ | ⟨a, len', cap', zs, hcs, _, hl, hm, hz, hx, hcell, hwz⟩
  · simp [Value.cells] at hcs
    obtain ⟨rfl, rfl, rfl⟩ := hcs
    exact fin [] rfl (fun h => by simp at h) (fun x hx => by cases hx) (by decide)
  · simp [Value.cells] at hcs
    obtain ⟨rfl, rfl, rfl⟩ := hcs
    simp only [Prod.mk.injEq] at hx
    obtain ⟨rfl, rfl⟩ := hx
    simp only [if_true] at hz
    have hs8 := sized_slice hsz2 (j := 0) (e := 26) rfl rfl Tryd.underlying41
    have hcap8 : cap * 8 ≤ reachBytes := by
      rw [bytes8] at hs8
      simp only [lits, List.length_map, List.length_take, List.length_drop] at hs8
      omega
    have hrb : reachBytes + 40 ≤ 140737488355328 := by decide
    refine fin ((zs.take len).map Int.toNat) (by simp; omega) (fun hp => ?_) (fun x hx => ?_) (by simp; omega)
    · have hl0 : 0 < len := by simp at hp; omega
      obtain ⟨b, off, spot⟩ := a
      have hspot : spot = none := by simpa [Addr.add] using World.cell?_spot (hcell 0 (by omega))
      subst hspot
      refine ⟨b, off, rfl, ?_, fun j hj => ?_⟩
      · exact hlt (.cell b off) (MemPlace.mem_row.2 ⟨0, by omega, by simp⟩)
      · have hj2 : j < len := by simp at hj; omega
        have hjz : j < zs.length := by omega
        have h1 := hcell j hjz
        have h2 : W.cell? ⟨b, off + j, none⟩ = some (.int .u64 (zs.getD j 0)) := by rw [← add_plain]; exact h1
        rw [h2]
        have h3 : (((zs.take len).map Int.toNat).getD j 0 : Nat) = (zs.getD j 0).toNat := by
          rw [List.getD_eq_getElem?_getD, List.getElem?_map, List.getElem?_take, if_pos hj2, List.getD_eq_getElem?_getD, List.getElem?_eq_getElem hjz]
          rfl
        rw [h3]
        have h4 := (wf_u64 (hwz _ (show zs.getD j 0 ∈ zs by rw [List.getD_eq_getElem?_getD, List.getElem?_eq_getElem hjz]; exact List.getElem_mem _))).1
        rw [Int.toNat_of_nonneg h4]
    · obtain ⟨z, hzm, rfl⟩ := List.mem_map.1 hx
      have h5 := wf_u64 (hwz z (List.mem_of_mem_take hzm))
      omega

theorem holds : Rows.AsmDisassemblesSaid :=
  OpenClaim.holds_of_wide 4 Tryd.f4 rfl rfl rfl rfl rfl rfl rfl ⟨rfl, rfl, rfl, rfl, rfl⟩ rfl rfl rfl rfl rfl (by kernel_rfl) Tryd.func4 (by kernel_rfl)
    (of_decide_eq_true (by kernel_rfl)) (by unfold Func.isWrapper; first | (rw [if_pos (by decide +kernel)]; kernel_rfl) | (rw [if_neg (by decide +kernel)]; exact ⟨rfl, rfl⟩))
    (fun os started H enc _ => lifted os started H enc)

/-- ████ THE STATEMENT ████ -/
theorem proved : Rows.AsmDisassemblesCardSaid :=
  Claim7.holds_tied_plain_at .later [] [.data, .data, .data, .listed, .data] true (true, "7944471fd935430279d092237349ed4729a334c492b110a7cf966b5a06eae140") false
    holds (fun _ h => by cases h) (by kernel_rfl) (fun _ h => by cases h) asmDisassembles_row_tie rfl ⟨rfl, rfl⟩ (by kernel_rfl) rfl
    (fun f fn hf hfn => by
      obtain rfl : f = 4 := Option.some.inj ((show Tryd.prog.funcNamed "vernier/vernierlaw25.AsmDisassembles" = some 4 by kernel_rfl).symm.trans hf) |>.symm
      obtain rfl : fn = Tryd.f4 := (Option.some.inj (Tryd.func4.symm.trans hfn)).symm
      exact ⟨by kernel_rfl, fun j t ht => by
        rw [Tryd.params4] at ht
        have hm : t ∈ [41] := by simpa using Array.mem_of_getElem? ht
        have hall : ([41].all fun u => !Tryd.prog.wantsStandIn u) = true := by kernel_rfl
        exact (show Tryd.prog.wantsStandIn t = false by simpa using List.all_eq_true.1 hall t hm)⟩)
    (by kernel_rfl)
#print axioms proved

end Go.Proofs.YthaooekohjmhdaaDoor
