/- Part 3 of the proof: see the last text. Condition: none. -/
import Derived.Lib.MapU
import Derived.Lib.AppendIntMem
import Derived.Lib.LazyBuf
import Derived.Test.YtafikkmnkeddpaaGreatDoorK2
set_option linter.unusedVariables false
set_option linter.unusedSimpArgs false
namespace Go.Proofs.YtafikkmnkeddpaaGreatDoor.E
open Go.RowKit Go.Proofs.YtafikkmnkeddpaaGreatDoorW.PrintWords Go.Proofs.YtafikkmnkeddpaaGreatDoorW.PrintLast Go.Proofs.YtafikkmnkeddpaaGreatDoorW.PrintMore
mutual
theorem zo : ∀ (x : AV), pJ [] x = true
 | .own n => by simp [pJ, BM]
 | .agg l => by unfold pJ; exact sJ l
 | .tup l => by unfold pJ; exact sJ l
 | .v _ => rfl
 | .ro _ _ _ => rfl
 | .ptr _ _ => rfl
 | .ept _ _ => rfl
 | .rpt _ => rfl
 | .top => rfl
 | .new _ _ _ => rfl
theorem sJ : ∀ (l : List AV), oU [] l = true
 | [] => rfl
 | x :: l => by unfold oU; rw [zo x]; exact sJ l
end
def xB (tmps : Array Value) : ResultVar → Sem Value
 | .tmp t => pure (tmps.getD t undef)
 | .cell a t => do loadVar t (← asAddr (tmps.getD a undef))
theorem vk {P : Program} {fn : Func} {tmps : Array Value} {w : World} {vs : List Value} (h : (fn.results.toList.mapM (xB tmps)).run P w = .ok vs w) : (results fn tmps).run P w = .ok (if h : vs.length = 1 then vs[0] else .tuple ⟨vs⟩) w := by
 have e : fn.results.mapM (xB tmps) = List.toArray <$> fn.results.toList.mapM (xB tmps) := by
  conv => lhs; rw [← Array.toArray_toList (xs := fn.results)]
  rw [List.mapM_toArray]
 have e2 : results fn tmps = (do let vs ← fn.results.mapM (xB tmps); pure (if h : vs.size = 1 then vs[0] else .tuple vs)) := by
  unfold results
  congr 2
 rw [e2, e]
 simp only [Sem.run_bind, Sem.run_map, h, Result.andThen_ok]
 rfl
section
variable {P : Program} {E : Env} {s : St} {a : Act} {w0 w : World} {O0 : Nat → Prop} {g : Nat → Value}
theorem Cm (hS : Sim w0 O0 E.nt s a w g) {x y : AV} {v : Value} (hx : VR w0.heap.size w (Wet O0 s.h g) (Dom s.h) g x v) (h : low s x = some y) : VR w0.heap.size w O0 no0 g0 y v := by
 refine Ce hS (ns := []) (fun b h => .inl h) (fun n k e xs hn _ b hb ho => ?_) hx (zo x) h
 have h1 := ((hS.hp n _ hn).rU hb).1
 have h2 := hS.o0 b ho
 omega
theorem IL (hT : kL P E.ty) (hS : Sim w0 O0 E.nt s a w g) {ty : TypeId} {rv : ResultVar} {y : AV} (h : EX E s ty rv = some y) : ∃ v, (xB a.tmps rv).run P w = .ok v w ∧ VR w0.heap.size w O0 no0 g0 y v := by
 unfold EX at h
 split at h
 ·rename_i t
  split at h
  ·rename_i x hx
   split at h
   ·rename_i n _
    split at h
    ·rename_i k e xs hn
     obtain rfl := Option.some.inj h
     have hv := hS.tm t _ hx
     generalize hq : a.tmps.getD t undef = v at hv
     cases hv with
     | own _ hd =>
      refine ⟨_, rfl, ?_⟩
      rw [hq]
      have hrow : w.ownsRow w0.heap.size e 1 (g n) xs.length (nums k xs) := hS.hp n _ hn
      refine .new _ _ _ _ hrow fun b hb ho => ?_
      have h1 := (yL hrow hb).1
      have h2 := hS.o0 b ho
      omega
    ·cases h
   ·exact ⟨_, rfl, Cm hS (qF ty (hS.tm t _ hx)) h⟩
  ·cases h
 ·rename_i a' t
  split at h
  ·rename_i n off hax
   have hx := hS.tm a' _ hax
   generalize hv : a.tmps.getD a' undef = v at hx
   cases hx with
   | ptr _ _ b hd hg =>
    split at h
    ·rename_i l zs fs hl hty
     obtain ⟨F, hu, hinfo, hF⟩ := hT.at_ hty
     obtain ⟨i, hi, hz, hsz⟩ := oV hinfo
     obtain ⟨b2, vs, ty, hg2, hB, hh, hr⟩ := hS.hp n _ hl
     rw [hg] at hg2
     obtain rfl : b = b2 := by injection hg2 with e; injection e with e; injection e
     split at h
     ·rename_i hle
      have hle := Nat.le_of_ble_eq_true hle
      refine ⟨.agg ⟨(vs.drop off).take zs.length⟩, ?_, Cm hS (.agg _ _ ((hr.drop _).take _)) h⟩
      have := uV (P := P) hu hi (w := w) (ad := ⟨b, off, none⟩) (cs := (vs.drop off).take zs.length) (by rw [hsz]; simp [← hr.length]; omega) (fun j v hj => by
       rw [Addr.add_lit, cells_at hh]
       rw [List.getElem?_take] at hj
       split at hj
       ·rw [List.getElem?_drop] at hj; exact hj
       ·cases hj)
      simp [xB, hv, asAddr, this]
     ·cases h
    ·rename_i l ti hnot hl hty
     obtain ⟨d, hu, hd2, i, z, hi, _⟩ := (hT.at_ hty).one (fun zs fs e => hnot zs fs e)
     obtain ⟨b2, vs, ty, hg2, hB, hh, hr⟩ := hS.hp n _ hl
     rw [hg] at hg2
     obtain rfl : b = b2 := by injection hg2 with e; injection e with e; injection e
     split at h
     ·rename_i y hy
      obtain ⟨z, hz, hrz⟩ := hr.get hy
      refine ⟨z, ?_, Cm hS hrz h⟩
      have := oW (P := P) hu hd2 (w := w) (ad := ⟨b, off, none⟩) (v := z) (by rw [cells_at hh]; exact hz)
      simp [xB, hv, asAddr, this]
     ·cases h
    ·cases h
  ·cases h
theorem wL (hT : kL P E.ty) (hS : Sim w0 O0 E.nt s a w g) : ∀ {ts : List TypeId} {rs : List ResultVar} {l : List AV}, yQ E s ts rs = some l → ∃ vs, (rs.mapM (xB a.tmps)).run P w = .ok vs w ∧ VRs w0.heap.size w O0 no0 g0 l vs
 | ts, [], l, h => by
  unfold yQ at h
  obtain rfl := Option.some.inj h
  exact ⟨[], by simp, .nil⟩
 | [], r :: rs, l, h => by cases h
 | t :: ts, r :: rs, l, h => by
  unfold yQ at h
  split at h
  ·rename_i x m hx hm
   obtain rfl := Option.some.inj h
   obtain ⟨v, h1, h2⟩ := IL hT hS hx
   obtain ⟨vs, h3, h4⟩ := wL hT hS hm
   exact ⟨v :: vs, by simp [List.mapM_cons, h1, h3], .cons _ _ _ _ h2 h4⟩
  ·cases h
def Fin (P : Program) (fn : Func) (w0 : World) (O0 : Nat → Prop) (r : AV) (a : Act) (w : World) : Prop :=
 a.defers = [] ∧ ∃ v, (results fn a.tmps).run P w = .ok v w ∧ VR w0.heap.size w O0 no0 g0 r v ∧ Below w0.heap.size w0 w
theorem J7 {fn : Func} {r : AV} (hT : kL P E.ty) (hS : Sim w0 O0 E.nt s a w g) (h : DI E s fn.results.toList = some r) : Fin P fn w0 O0 r a w := by
 unfold DI at h
 split at h
 ·rename_i x hx
  obtain ⟨vs, h1, h2⟩ := wL hT hS hx
  cases h2 with
  | cons _ v _ us h2 h3 =>
   cases h3
   refine ⟨hS.df, v, by simpa using vk h1, ?_, hS.be⟩
   split at h
   ·obtain rfl := Option.some.inj h; exact yg h2
   ·obtain rfl := Option.some.inj h; exact h2
 ·rename_i l hne hl
  obtain ⟨vs, h1, h2⟩ := wL hT hS hl
  have hlen : ¬ vs.length = 1 := fun e => by
   have h3 := h2.length
   rw [e] at h3
   obtain ⟨x, rfl⟩ := List.length_eq_one_iff.1 h3
   exact hne x rfl
  refine ⟨hS.df, .tuple ⟨vs⟩, by simpa [hlen] using vk h1, ?_, hS.be⟩
  split at h
  ·obtain rfl := Option.some.inj h; exact yg (.tup _ _ h2)
  ·obtain rfl := Option.some.inj h; exact .tup _ _ h2
 ·cases h
end
def ini (n : Nat) : List AV → List (Nat × AV)
 | [] => []
 | x :: l => (n, x) :: ini (n + 1) l
theorem J8 {B : Nat} {w : World} {O D : Nat → Prop} {g : Nat → Value} : ∀ {l : List AV} {vs pre post : List Value}, VRs B w O D g l vs → ∀ t x, lk t (ini pre.length l) = some x → VR B w O D g x ((pre ++ vs ++ post).toArray.getD t undef)
 | [], vs, pre, post, h, t, x, hx => by cases hx
 | y :: l, vs, pre, post, h, t, x, hx => by
  cases h with
  | cons _ v _ us h1 h2 =>
   unfold ini lk at hx
   split at hx
   ·rename_i hb
    obtain rfl := Option.some.inj hx
    rw [← Nat.eq_of_beq_eq_true hb]
    simpa [Array.getD_eq_getD_getElem?, List.getElem?_append] using h1
   ·have := J8 (pre := pre ++ [v]) (post := post) h2 t x (by simpa using hx)
    simpa using this
theorem IQ {w : World} {O : Nat → Prop} {l : List AV} {args : List Value} {nt : Nat} (hn : args.length ≤ nt) (hO : ∀ b, O b → b < w.heap.size) (h : VRs w.heap.size w O no0 g0 l args) :
  Sim w O nt ⟨ini 0 l, []⟩ { tmps := (⟨args⟩ : Array Value) ++ Array.replicate (nt - (⟨args⟩ : Array Value).size) undef, defers := [] } w g0 where
 o0 := hO
 sz := by simp; omega
 df := rfl
 be := .refl _ _
 tm := fun t x hx => by
  have h' : VRs w.heap.size w (Wet O [] g0) (Dom []) g0 l args := h.tr (Nat.le_refl _) (fun b hb ho => ⟨fun e => e.elim ho (fun ⟨n, ⟨x, hx⟩, _⟩ => by cases hx), rfl⟩) (fun n hn => hn.elim) (Nat.le_refl _)
  have := J8 (pre := []) (post := List.replicate (nt - args.length) undef) h' t x hx
  have e : (⟨args⟩ : Array Value) ++ Array.replicate (nt - (⟨args⟩ : Array Value).size) undef = ([] ++ args ++ List.replicate (nt - args.length) undef).toArray := by
   apply Array.ext'
   simp
  show VR _ _ _ _ _ _ (Array.getD _ _ _)
  rw [e]
  exact this
 hp := fun n b h => by cases h
 ne := fun n m ⟨x, hx⟩ => by cases hx
theorem zq {P : Program} {f : FuncId} {fn : Func} {c : Code} {args : Array Value} {w : World} {R : Ending → World → Prop} {p : List Nat}
  (hf : P.funcs[f]? = some fn) (hb : fn.body = some c)
  (h : Reach P [.c p c] (fun a' w' => a'.defers = [] ∧ ∃ v, (results fn a'.tmps).run P w' = .ok v w' ∧ R (.returned v) w') { tmps := args ++ Array.replicate (fn.ntmps - args.size) undef, defers := [] } w) :
  Calls P f args w R := by
 intro cs
 let b : Frame := { (default : Frame) with fn := f, kind := .normal }
 have henter : Frame.enter P f args .normal =
   b.at { tmps := args ++ Array.replicate (fn.ntmps - args.size) undef, defers := [] } [.code c] := by
  simp [Frame.enter, Frame.at, hf, hb, b]
 obtain ⟨a', w', ⟨hd, v, hr, hR⟩, t, harr⟩ := h b cs
 have hi : items [.c p c] = [.code c] := rfl
 rw [hi, ← henter] at harr
 exact ⟨.returned v, w', _, hR, harr, rfl, rfl, hd, rfl, fn, hf, hr⟩
structure CB (P : Program) (G : World → Prop) (f : FuncId) (fn : Func) (c : Code) (E : Env) : Prop where
 hf : P.funcs[f]? = some fn
 hb : fn.body = some c
 nm : (fn.name == "runtime.NumGoroutine") = false
 nt : fn.ntmps = E.nt
 T : kL P E.ty
 F : su P G E.fn
 D : Cj E.od c = true
theorem Nc {P : Program} {G : World → Prop} {f : FuncId} {fn : Func} {c : Code} {E : Env} (hGs : rW G) (hm : P.follows .mixedOrders = true) (hE : CB P G f fn c E) (hP : mD P c E G (Fin P fn)) {n : Nat} {l : List AV} {args : List Value} {w : World} {O : Nat → Prop} {r : AV}
  (hG : G w) (hl : l.length ≤ E.nt) (hO : ∀ b, O b → b < w.heap.size) (h : VRs w.heap.size w O no0 g0 l args) (hr : run E fn.results.toList n false [.c [] c] ⟨ini 0 l, []⟩ = some r) :
  Calls P f ⟨args⟩ w fun e w' => ∃ v, e = .returned v ∧ VR w.heap.size w' O no0 g0 r v ∧ Below w.heap.size w w' := by
 refine zq (p := []) hE.hf hE.hb ?_
 have hS := IQ (nt := E.nt) (by rw [← h.length]; exact hl) hO h
 rw [hE.nt]
 have := Fb hGs hm hE.T hE.F hE.D hP (fun w0 O0 s a w g r hS hr => J7 hE.T hS hr) n false [.c [] c] w O _ _ w g0 r hG (fun x hx => by rw [List.mem_singleton.1 hx]; show sub c [] = some c; cases c <;> rfl) hS hr
 intro b cs
 obtain ⟨a', w', ⟨h1, v, h2, h3, h4⟩, h5⟩ := this b cs
 exact ⟨a', w', ⟨h1, v, h2, v, rfl, h3, h4⟩, h5⟩
theorem gU {P : Program} {body : Code} {E : Env} {G : World → Prop} {R : World → (Nat → Prop) → AV → Act → World → Prop} (h : E.pt = []) : mD P body E G R := fun key p todo hl => by rw [h] at hl; cases hl
def J9 (body : Code) (rs : List ResultVar) (E : Env) (p : Pt) : Prop := ∀ todo, fill body p.pp = some todo → ∀ s r, p.ap s = some r → ∃ n, run E rs n true todo s = some r
def zu (body : Code) (rs : List ResultVar) (E : Env) : List (Nat × Pt) → Prop
 | [] => True
 | p :: l => J9 body rs E p.2 ∧ zu body rs E l
theorem zu.at_ {body : Code} {rs : List ResultVar} {E : Env} : ∀ {l : List (Nat × Pt)}, zu body rs E l → ∀ {key : Nat} {p : Pt}, lk key l = some p → J9 body rs E p
 | [], _, key, p, h => by cases h
 | q :: l, hr, key, p, h => by
  unfold lk at h
  split at h
  ·obtain rfl := Option.some.inj h; exact hr.1
  ·exact hr.2.at_ h
theorem J_ {P : Program} {G : World → Prop} {f : FuncId} {fn : Func} {c : Code} {E E' : Env} (hGs : rW G) (hm : P.follows .mixedOrders = true) (hE : CB P G f fn c E) (hP : mD P c E G (Fin P fn)) (hn : E'.nt = E.nt) (h : zu c fn.results.toList E E'.pt) : mD P c E' G (Fin P fn) := fun key p todo hl hfill w0 O0 s a w g r hG hS hr => by
 obtain ⟨n, h1⟩ := h.at_ hl todo hfill s r hr
 rw [hn] at hS
 exact Fb hGs hm hE.T hE.F hE.D hP (fun w0 O0 s a w g r hS hr => J7 hE.T hS hr) n true todo w0 O0 s a w g r hG (Bd hfill) hS h1
end Go.Proofs.YtafikkmnkeddpaaGreatDoor.E
namespace Go.Proofs.YtafikkmnkeddpaaGreatDoor.E
open Go.RowKit Go.Proofs.YtafikkmnkeddpaaGreatDoorW.PrintWords Go.Proofs.YtafikkmnkeddpaaGreatDoorW.PrintLast Go.Proofs.YtafikkmnkeddpaaGreatDoorW.PrintMore
def gQ (f : Func) : Code := match f.body with
 | some c => c
 | none => .skip
section
variable {P : Program} {w w' : World} {B : Nat} {O O' D D' : Nat → Prop} {g g' : Nat → Value} {k : IntKind} {xs : List Int} {v : Value} {e : TypeId} {ok : Nat → Prop}
theorem kN {f : Bool} (h : VR B w O D g (.ro f k xs) v) : ∃ A c, v = .slice A xs.length c ∧ Kd.C (Kd.int k) w A xs.length xs ∧ xs.length ≤ c := by
 cases h with
 | ro _ _ _ A c hr =>
  refine ⟨A, c, rfl, Kd.zZ (enc := Value.int k) (d := (0 : Int)) ?_, hr.le⟩
  refine ⟨rfl, hr.mx, fun hp => ?_⟩
  obtain ⟨b, o, e, hb, ho, hf, hc⟩ := hr.at_ hp
  exact ⟨_, e, fun j hj => by rw [Addr.add_lit]; exact hc j hj⟩
theorem l9 (h : Kd.R (Kd.int k) e w' w.heap.size ok v xs) (hO : ∀ b, O b → b < w.heap.size) : VR w.heap.size w' O D g (.ro true k xs) v := by
 have ho := Kd.tX h
 obtain ⟨A, c, hv, hr⟩ := Cb (O' := fun _ => False) ho (fun b h => h)
 rw [hv]
 refine .ro _ _ _ _ _ ⟨hr.le, hr.mx, fun hp => ?_⟩
 obtain ⟨b, o, e, hb, _, hf, hc⟩ := hr.at_ hp
 exact ⟨b, o, e, hb, fun h => Nat.lt_irrefl _ (Nat.lt_of_lt_of_le (hO b h) (hf rfl)), hf, hc⟩
theorem bY {x : AV} {l : List AV} {vs : List Value} (h : VRs B w O D g (x :: l) vs) : ∃ u us, vs = u :: us ∧ VR B w O D g x u ∧ VRs B w O D g l us := by
 cases h with | cons _ u _ us h1 h2 => exact ⟨u, us, rfl, h1, h2⟩
theorem iK {vs : List Value} (h : VRs B w O D g [] vs) : vs = [] := by cases h; rfl
theorem Pn {l : List AV} (h : VR B w O D g (.agg l) v) : ∃ vs, v = .agg ⟨vs⟩ ∧ VRs B w O D g l vs := by
 cases h with | agg _ vs hs => exact ⟨vs, rfl, hs⟩
theorem Ko {f : Func} {body : Code} (hb : f.body = some body) {E : Env} {p : Pt} (h : ∀ s r, p.ap s = some r → run E f.results.toList 400 true (match f.body with | some c => (fill c p.pp).getD [] | none => []) s = some r) : J9 body f.results.toList E p := fun todo ht s r hs => by
 have := h s r hs
 rw [hb] at this
 dsimp only at this
 rw [ht] at this
 exact ⟨400, this⟩
def Kq : List (Nat × Pt) → Prop
 | [] => True
 | p :: l => (∀ s r, ¬ p.2.ap s = some r) ∧ Kq l
theorem Kq.at_ : ∀ {l : List (Nat × Pt)}, Kq l → ∀ {key : Nat} {p : Pt}, lk key l = some p → ∀ s r, ¬ p.ap s = some r
 | [], _, key, p, h => by cases h
 | q :: l, hm, key, p, h => by
  unfold lk at h
  split at h
  ·obtain rfl := Option.some.inj h; exact hm.1
  ·exact hm.2.at_ h
theorem Fe {body : Code} {E : Env} {G : World → Prop} {R : World → (Nat → Prop) → AV → Act → World → Prop} (h : Kq E.pt) : mD P body E G R := fun key p todo hl _ w0 O0 s a w g r _ _ hr => absurd hr (h.at_ hl s r)
theorem iM {G : World → Prop} (hGs : rW G) (hm : P.follows .mixedOrders = true) {f : FuncId} {fn : Func} {c : Code} {E : Env} (hE : CB P G f fn c E) (hP : mD P c E G (Fin P fn)) {app : List AV → (AV → Option AV) → Option AV}
  (h : ∀ l K r, app l K = some r → ∃ x, K x = some r ∧ l.length ≤ E.nt ∧ run E fn.results.toList 400 false [.c [] c] ⟨ini 0 l, []⟩ = some x) : jR P G f app :=
 ⟨⟨fn, hE.hf, hE.nm, by rw [hE.hb]; rfl⟩, fun l args w O K r hG hO hl hr => by
  obtain ⟨x, h1, h2, h3⟩ := h l K r hr
  exact ⟨x, h1, Nc hGs hm hE hP hG h2 hO hl h3⟩⟩
end
end Go.Proofs.YtafikkmnkeddpaaGreatDoor.E
namespace Go.Proofs.YtafikkmnkeddpaaGreatDoor.E
open Go.RowKit Go.Proofs.YtafikkmnkeddpaaGreatDoorW.PrintWords Go.Proofs.YtafikkmnkeddpaaGreatDoorW.PrintLast Go.Proofs.YtafikkmnkeddpaaGreatDoorW.PrintMore
section
variable {P : Program} {E : Env} {o : Oper} {s : St} {a : Act} {w0 w w' : World} {O0 : Nat → Prop} {nt : Nat} {g : Nat → Value} {K : St → Option AV} {r : AV}
variable {ops : Array Oper} {Q : Exit → Act → World → Prop} {md : Region.Mode}
end
end Go.Proofs.YtafikkmnkeddpaaGreatDoor.E
namespace Go.Proofs.YtafikkmnkeddpaaGreatDoor.E
open Go.RowKit Go.Proofs.YtafikkmnkeddpaaGreatDoorW.PrintWords Go.Proofs.YtafikkmnkeddpaaGreatDoorW.PrintLast Go.Proofs.YtafikkmnkeddpaaGreatDoorW.PrintMore
abbrev iA (x : Int) : AV := .v (.int .i64 x)
abbrev uA (x : Int) : AV := .v (.int .u64 x)
abbrev bA (x : Bool) : AV := .v (.bool x)
abbrev sA (x : ByteArray) : AV := .v (.string x)
abbrev rA (x : List Int) : AV := .ro true .u64 x
theorem via {α : Type} {a c : α} (b : α) (k : b = c) (h : a = b := by kernel_rfl) : a = c := h.trans k
theorem Nh (bs : ByteArray) : ∀ (n i : Nat) (r : List UInt8), bs.size - i = n → ByteArray.toList.loop bs i r = r.reverse ++ bs.data.toList.drop i := by
 intro n
 induction n with
 | zero =>
  intro i r h
  unfold ByteArray.toList.loop
  have : ¬ i < bs.size := by omega
  rw [if_neg this, List.drop_eq_nil_of_le (by rw [Array.length_toList]; show bs.size ≤ i; omega)]
  simp
 | succ n ih =>
  intro i r h
  unfold ByteArray.toList.loop
  have hi : i < bs.size := by omega
  rw [if_pos hi, ih (i + 1) _ (by omega)]
  have hi' : i < bs.data.toList.length := by rw [Array.length_toList]; exact hi
  rw [List.drop_eq_getElem_cons hi']
  have : bs.get! i = bs.data.toList[i] := by
   have h2 : i < bs.data.size := hi
   simp [ByteArray.get!, Array.getElem!_eq_getD, Array.getElem?_eq_getElem h2]
  simp [this]
theorem btl (l : List UInt8) : (⟨⟨l⟩⟩ : ByteArray).toList = l := by
 unfold ByteArray.toList
 rw [Nh _ _ 0 [] rfl]
 simp
theorem bsl (l : List UInt8) : (⟨⟨l⟩⟩ : ByteArray).size = l.length := rfl
theorem Kr {α β γ : Type} {o : Option α} {f : α → Option β} {e : β → γ} {r : γ} : (o.bind f).map e = some r ↔ ∃ y, o = some y ∧ (f y).map e = some r := by
 cases o with
 | none => simp
 | some y => simp
theorem Rx {α : Type} {o : Option α} {Q : α → Prop} {y : α} (g : o = some y) (h : ∃ z, o = some z ∧ Q z) : Q y := by
 obtain ⟨z, h1, h2⟩ := h
 rw [g] at h1
 obtain rfl := Option.some.inj h1
 exact h2
theorem OQ {c : Prop} [Decidable c] {α : Type} {a b r : α} (h : c) (k : a = r) : (if c then a else b) = r := by rw [if_pos h]; exact k
theorem OT {c : Prop} [Decidable c] {α : Type} {a b r : α} (h : ¬ c) (k : b = r) : (if c then a else b) = r := by rw [if_neg h]; exact k
theorem Kt {α β : Type} {o : Option α} {f : α → Option β} {y : α} {r : Option β} (h : o = some y) (k : f y = r) : o.bind f = r := by rw [h]; exact k
theorem ewm (n : Int) : wrap64 (n % 256) = n % 256 := by unfold wrap64; omega
theorem wrm (n : Int) : IntKind.wrap .u64 (n % 256) = n % 256 := by simp [IntKind.wrap, IntKind.bits, IntKind.signed]; omega
theorem tdn (n : Nat) (m : Int) : Int.tdiv (n : Int) m = (n : Int) / m := Int.tdiv_eq_ediv_of_nonneg (Int.natCast_nonneg n)
theorem tc {A B : Prop} (t : A → B := by
 intro h
 try simp only [Option.bind_some] at h
 try simp only [bne_eq_false_iff_eq, beq_eq_false_iff_ne, decide_eq_true_eq, beq_iff_eq, bne_iff_ne, ne_eq, Bool.not_eq_true', decide_eq_false_iff_not, ite_not] at h
 try simp only [ewm, wrm, tdn, btl, bsl, Int.toNat_natCast, Int.reduceToNat, List.length_set, List.length_append, List.length_cons, List.length_nil, List.length_replicate, bne_eq_false_iff_eq, beq_eq_false_iff_ne, decide_eq_true_eq, beq_iff_eq, bne_iff_ne, ne_eq, Bool.not_eq_true', decide_eq_false_iff_not, ite_not, Int.reduceEq, Int.reduceLE, Int.reduceLT, reduceCtorEq, ↓reduceIte]
 repeat' first | (rw [Kr] at h; first | (have h2 := Rx (by assumption) h; clear h; have h := h2; clear h2) | (obtain ⟨y, hy, h⟩ := h); try dsimp only at h) | split at h
 all_goals try (simp only [Option.map_none, reduceCtorEq] at h; done)
 all_goals repeat' first
  | (with_reducible refine OQ ?_ ?_; · first | assumption | omega | (simp only [*]; done) | (simp [*]; done))
  | (with_reducible refine OT ?_ ?_; · first | assumption | omega | (simp only [*, reduceCtorEq, not_false_eq_true]; done) | (simp [*]; done))
  | (with_reducible refine Kt ‹_› ?_; try dsimp only)
  | (refine Kt ‹_› ?_; try dsimp only)
  | (refine OQ ?_ ?_; · first | assumption | omega | (simp only [*]; done) | (simp [*]; done))
  | (refine OT ?_ ?_; · first | assumption | omega | (simp only [*, reduceCtorEq, not_false_eq_true]; done) | (simp [*]; done))
  | fail
 all_goals first | exact h | (simp only [Option.map_some] at h; exact h) | (simp only [ewm, wrm, tdn, btl, bsl, Int.toNat_natCast, Int.reduceToNat, List.length_cons, List.length_nil] at h; exact h) | (simp_all [btl, bsl]; done) | (simp_all [btl, bsl]; exact h)) : A → B := t
theorem mb {α β γ : Type} {o : Option γ} {g : γ → Option α} {f : α → β} {g' : γ → Option β} (h : ∀ y, (g y).map f = g' y) : (o.bind g).map f = o.bind g' := by
 cases o with
 | none => rfl
 | some y => exact h y
theorem ms {α β γ : Type} {v : γ} {g : γ → Option α} {f : α → β} {b : Option β} (h : (g v).map f = b) : ((some v).bind g).map f = b := h
theorem Nj {α β : Type} {c c' : Prop} [Decidable c] [Decidable c'] {a b : Option α} {f : α → β} {a' b' : Option β} (e : c ↔ c') (h : c → a.map f = a') (k : ¬ c → b.map f = b') : (if c then a else b).map f = if c' then a' else b' := by
 by_cases hc : c
 ·rw [if_pos hc, if_pos (e.1 hc)]; exact h hc
 ·rw [if_neg hc, if_neg (fun z => hc (e.2 z))]; exact k hc
theorem Nk {α β : Type} {c c' : Prop} [Decidable c] [Decidable c'] {a b : Option α} {f : α → β} {a' b' : Option β} (e : c ↔ ¬ c') (h : c → a.map f = b') (k : ¬ c → b.map f = a') : (if c then a else b).map f = if c' then a' else b' := by
 by_cases hc : c
 ·rw [if_pos hc, if_neg (e.1 hc)]; exact h hc
 ·rw [if_neg hc, if_pos (Classical.byContradiction fun z => hc (e.2 z))]; exact k hc
theorem Nl {α β : Type} {c' : Prop} [Decidable c'] {o : Option α} {f : α → β} {a' b' : Option β} (e : c') (h : o.map f = a') : o.map f = if c' then a' else b' := by rw [if_pos e]; exact h
theorem Ku {α β : Type} {c' : Prop} [Decidable c'] {o : Option α} {f : α → β} {a' b' : Option β} (e : ¬ c') (h : o.map f = b') : o.map f = if c' then a' else b' := by rw [if_neg e]; exact h
theorem mb2 {α β γ : Type} {o o' : Option γ} {g : γ → Option α} {f : α → β} {g' : γ → Option β} (e : o = o') (h : ∀ y, (g y).map f = g' y) : (o.bind g).map f = o'.bind g' := by
 subst e
 exact mb h
theorem dpl (n : Nat) : decide ((n : Int) > 0) = decide (0 < n) := by rw [decide_eq_decide]; omega
theorem Ry (b : Bool) : b = true ↔ ¬ b = false := by cases b <;> simp
theorem Rz (b : Bool) : b = false ↔ ¬ b = true := by cases b <;> simp
theorem RD (p : Prop) [Decidable p] : p ↔ decide p = true := by simp
theorem RF (p : Prop) [Decidable p] : p ↔ ¬ decide p = false := by simp
theorem mt2 {α β : Type} {o : Option α} {f : α → β} {b : Option β} (t : o.map f = b := by
 repeat' first
  | with_reducible rfl
  | with_reducible refine ms ?_
  | with_reducible refine mb fun _ => ?_
  | (with_reducible refine Nj ?_ (fun _ => ?_) (fun _ => ?_); · first | (with_reducible exact Iff.rfl) | exact RD _ | (simp only [bsl, List.length_cons, List.length_nil, Nat.zero_add, Nat.reduceAdd, Int.toNat_natCast, Int.reduceToNat, iff_self]; done) | (simp; done) | (simp only [btl, bsl, decide_eq_true_eq, beq_iff_eq]; done) | omega | (simp only [List.length_cons, List.length_nil]; omega))
  | (with_reducible refine Nk ?_ (fun _ => ?_) (fun _ => ?_); · first | exact Ry _ | exact Rz _ | exact RF _ | (simp; done) | (simp; omega))
  | (with_reducible refine Nl ?_ ?_; · first | assumption | omega | (simp only [*]; done) | (simp [*]; done))
  | (with_reducible refine Ku ?_ ?_; · first | assumption | omega | (simp only [*, reduceCtorEq, not_false_eq_true]; done) | (simp [*]; done))
  | (refine mb2 ?_ (fun _ => ?_); · (simp only [ewm, wrm, tdn, btl, bsl, Int.toNat_natCast, Int.reduceToNat]; done))
  | (simp only [ewm, wrm, tdn, btl, bsl, dpl, Int.toNat_natCast, Int.reduceToNat, List.length_cons, List.length_nil, List.length_set, List.length_append, List.length_replicate]; first | done | rfl)
  | rfl
  | fail) : o.map f = b := t
def nR (f : Func) (E : Nat → Env) (p : Nat → Pt) : Prop := ∀ k s r, (p k).ap s = some r → ∃ j, k = j + 1 ∧ run (E j) f.results.toList 400 true (match f.body with | some c => (fill c (p k).pp).getD [] | none => []) s = some r
def G_ (f : Func) (E : Nat → Env) : List (Nat × (Nat → Pt)) → Prop
 | [] => True
 | p :: l => nR f E p.2 ∧ G_ f E l
theorem zx {f : Func} {E : Nat → Env} : ∀ {ps : List (Nat × (Nat → Pt))}, G_ f E ps → Kq (ps.map fun q => (q.1, q.2 0))
 | [], _ => trivial
 | p :: l, h => ⟨fun s r hr => by obtain ⟨j, hj, _⟩ := h.1 0 s r hr; omega, zx h.2⟩
theorem Bf {f : Func} {body : Code} (hb : f.body = some body) {E : Nat → Env} (k : Nat) : ∀ {ps : List (Nat × (Nat → Pt))}, G_ f E ps → zu body f.results.toList (E k) (ps.map fun q => (q.1, q.2 (k + 1)))
 | [], _ => trivial
 | p :: l, h => ⟨Ko hb fun s r hr => by
   obtain ⟨j, hj, h2⟩ := h.1 (k + 1) s r hr
   obtain rfl : k = j := by omega
   exact h2, Bf hb k h.2⟩
theorem mP {P : Program} {G : World → Prop} {fid : FuncId} {f : Func} {body : Code} {E E0 : Nat → Env} (hGs : rW G) (hm : P.follows .mixedOrders = true) (hE : ∀ k, CB P G fid f body (E k)) (ps : List (Nat × (Nat → Pt))) (h : G_ f E ps) (up : ∀ k, mD P body (E0 k) G (Fin P f) → mD P body (E k) G (Fin P f) := by exact fun _ h => h)
  (hp : ∀ k, (E0 k).pt = ps.map fun q => (q.1, q.2 k) := by exact fun _ => rfl) (hn : ∀ k j, (E0 j).nt = (E k).nt := by exact fun _ _ => rfl) : ∀ k, mD P body (E0 k) G (Fin P f)
 | 0 => Fe (by rw [hp]; exact zx h)
 | k + 1 => J_ hGs hm (hE k) (up k (mP hGs hm hE ps h up hp hn k)) (hn k (k + 1)) (by rw [hp]; exact Bf (hE k).hb k h)
theorem fin {α : Type} {o : Option α} {K : AV → Option AV} {enc : α → AV} {r : AV} {E : Env} {rs : List ResultVar} {c : Code} {l : List AV} (h : (o.bind fun y => K (enc y)) = some r) (hl : Nat.ble l.length E.nt = true) (h2 : ∀ y, o.map enc = some (enc y) → run E rs 400 false [.c [] c] ⟨ini 0 l, []⟩ = some (enc y)) :
  ∃ x, K x = some r ∧ l.length ≤ E.nt ∧ run E rs 400 false [.c [] c] ⟨ini 0 l, []⟩ = some x := by
 obtain ⟨y, hy, hK⟩ := Option.bind_eq_some_iff.1 h
 exact ⟨_, hK, Nat.le_of_ble_eq_true hl, h2 y (by rw [hy]; rfl)⟩
theorem fo {P : Program} {G : World → Prop} {fid : FuncId} {f : Func} {c : Code} {E : Env} (T : kL P E.ty) (hf : P.funcs[fid]? = some f) (F : su P G E.fn) (hb : f.body = some c := by kernel_rfl) (nm : (f.name == "runtime.NumGoroutine") = false := by kernel_rfl) (nt : f.ntmps = E.nt := by kernel_rfl) (D : Cj E.od c = true := by kernel_rfl) : CB P G fid f c E := ⟨hf, hb, nm, nt, T, F, D⟩
theorem uD {P : Program} {G : World → Prop} {f : FuncId} {app : List AV → (AV → Option AV) → Option AV} (h : jR P G f app) {l : List AV} {args : List Value} {w : World} {r : AV} (hG : G w) (hl : VRs w.heap.size w (fun _ => False) no0 g0 l args) (hk : app l some = some r) :
  Calls P f ⟨args⟩ w fun e w' => ∃ v, e = .returned v ∧ VR w.heap.size w' (fun _ => False) no0 g0 r v ∧ Below w.heap.size w w' := by
 obtain ⟨y, hy, hc⟩ := h.2 l args w (fun _ => False) some _ hG (fun _ e => e.elim) hl hk
 obtain rfl := Option.some.inj hy
 exact hc
def Cs (w : World) (k : IntKind) (v : Value) (xs : List Int) : Prop := ∃ A c, v = .slice A xs.length c ∧ xs.length ≤ c ∧ Kd.C (Kd.int k) w A xs.length xs
theorem DW {B : Nat} {w : World} {O D : Nat → Prop} {g : Nat → Value} {f : Bool} {k : IntKind} {xs : List Int} {v : Value} (h : VR B w O D g (.ro f k xs) v) : Cs w k v xs := by
 obtain ⟨A, c, h1, h2, h3⟩ := kN h
 exact ⟨A, c, h1, h3, h2⟩
theorem Kv {B : Nat} {w : World} {O D : Nat → Prop} {g : Nat → Value} {l : List AV} {v : Value} (h : VR B w O D g (.tup l) v) : ∃ vs, v = .tuple ⟨vs⟩ ∧ VRs B w O D g l vs := by
 cases h with | tup _ vs hs => exact ⟨vs, rfl, hs⟩
theorem Qs {P : Program} {G : World → Prop} {f : FuncId} {app : List AV → (AV → Option AV) → Option AV} (h : jR P G f app) {l : List AV} {args : List Value} {w : World} {x : Value} (hG : G w) (hl : VRs w.heap.size w (fun _ => False) no0 g0 l args) (hk : app l some = some (.v x)) :
  Calls P f ⟨args⟩ w fun e w' => e = .returned x ∧ Below w.heap.size w w' := by
 obtain ⟨y, hy, hc⟩ := h.2 l args w (fun _ => False) some _ hG (fun _ e => e.elim) hl hk
 refine hc.mono fun e w' ⟨v, h1, h2, h3⟩ => ?_
 obtain rfl := Option.some.inj hy
 cases h2
 exact ⟨h1, h3⟩
end Go.Proofs.YtafikkmnkeddpaaGreatDoor.E
set_option maxRecDepth 100000
namespace Go.Proofs.YtafikkmnkeddpaaGreatDoor.V
open Go.RowKit Go.Proofs.YtafikkmnkeddpaaGreatDoorW.PrintWords Go.Proofs.YtafikkmnkeddpaaGreatDoorW.PrintLast Go.Proofs.YtafikkmnkeddpaaGreatDoorW.PrintMore Go.Proofs.YtafikkmnkeddpaaGreatDoor.E Go.Proofs.Tryz
def tys : List (TypeId × TI) := [(3, .int .i64), (88, .st [.v (.int .i64 0), .v (.int .i64 0), .v (.int .i64 0), .v (.int .i64 0)] [(0, 1, false), (1, 1, false), (2, 1, false), (3, 1, false)])]
theorem ty3 : ng prog 3 (match lk 3 tys with | some i => i | none => .bool) := ⟨by kernel_rfl, by kernel_rfl⟩
theorem Jq : ng prog 88 (match lk 88 tys with | some i => i | none => .bool) := ⟨_, underlying88, by kernel_rfl, by kernel_rfl⟩
theorem jE : kL prog tys := And.intro ty3 <| And.intro Jq <| trivial
abbrev GOk (w : World) : Prop := True
theorem stays : rW GOk := ⟨fun w w' h hb => trivial⟩
theorem mixed : prog.follows .mixedOrders = true := by kernel_rfl
abbrev AO := jR prog GOk
abbrev FO := CB prog GOk
end Go.Proofs.YtafikkmnkeddpaaGreatDoor.V
set_option maxRecDepth 100000
namespace Go.Proofs.YtafikkmnkeddpaaGreatDoor.V
open Go.RowKit Go.Proofs.YtafikkmnkeddpaaGreatDoorW.PrintWords Go.Proofs.YtafikkmnkeddpaaGreatDoorW.PrintLast Go.Proofs.YtafikkmnkeddpaaGreatDoorW.PrintMore Go.Proofs.YtafikkmnkeddpaaGreatDoor.E Go.Proofs.Tryz
def iP.enc (r : Int) : AV := .v (.int .u64 r)
def iP.app : List AV → (AV → Option AV) → Option AV := fun l K => match l with
 | [.agg [.v (.int .i64 a), .v (.int .i64 b), .v (.int .i64 c), .v (.int .i64 d)]] => (iP.f a b c d).bind fun r => K (iP.enc r)
 | _ => none
def iP.E : Env := ⟨7, tys, [], [], [], false, [22], false⟩
theorem iP.fok : FO 137 f137 (gQ f137) (iP.E) := fo jE func137 trivial
theorem iP.ok : AO 137 (iP.app) := iM stays mixed (iP.fok) (gU rfl) fun l K r h => by
 dsimp only [iP.app] at h
 split at h
 ·rename_i a b c d
  exact fin (enc := iP.enc) h rfl fun y h => by
   simp only [iP.f] at h
   exact via (if (0 : Int) ≤ wrap64 (b - 2) then (some (.v (.int .u64 (shl .u64 1 (wrap64 (b - 2)))))) else (none)) (by revert h; exact tc)
 ·cases h
def fK.enc (r : Int) : AV := .v (.int .u64 r)
def fK.app : List AV → (AV → Option AV) → Option AV := fun l K => match l with
 | [.agg [.v (.int .i64 a), .v (.int .i64 b), .v (.int .i64 c), .v (.int .i64 d)]] => (fK.f a b c d).bind fun r => K (fK.enc r)
 | _ => none
def fK.E : Env := ⟨3, tys, [], [], [], false, [22], false⟩
theorem fK.fok : FO 136 f136 (gQ f136) (fK.E) := fo jE func136 trivial
theorem fK.ok : AO 136 (fK.app) := iM stays mixed (fK.fok) (gU rfl) fun l K r h => by
 dsimp only [fK.app] at h
 split at h
 ·rename_i a b c d
  exact fin (enc := fK.enc) h rfl fun y h => by
   simp only [fK.f] at h
   exact via (some (.v (.int .u64 0))) (by revert h; exact tc)
 ·cases h
def iQ.enc (r : Int) : AV := .v (.int .u64 r)
def iQ.app : List AV → (AV → Option AV) → Option AV := fun l K => match l with
 | [.agg [.v (.int .i64 a), .v (.int .i64 b), .v (.int .i64 c), .v (.int .i64 d)]] => (iQ.f a b c d).bind fun r => K (iQ.enc r)
 | _ => none
def iQ.E : Env := ⟨3, tys, [], [], [], false, [22], false⟩
theorem iQ.fok : FO 272 f272 (gQ f272) (iQ.E) := fo jE func272 trivial
theorem iQ.ok : AO 272 (iQ.app) := iM stays mixed (iQ.fok) (gU rfl) fun l K r h => by
 dsimp only [iQ.app] at h
 split at h
 ·rename_i a b c d
  exact fin (enc := iQ.enc) h rfl fun y h => by
   simp only [iQ.f] at h
   exact via (some (.v (.int .u64 1))) (by revert h; exact tc)
 ·cases h
def bT.enc (r : Int) : AV := .v (.int .u64 r)
def bT.app : List AV → (AV → Option AV) → Option AV := fun l K => match l with
 | [.v (.int .i64 a)] => (bT.f a).bind fun r => K (bT.enc r)
 | _ => none
def bT.E : Env := ⟨6, tys, [], [], [], false, [22], false⟩
theorem bT.fok : FO 188 f188 (gQ f188) (bT.E) := fo jE func188 trivial
theorem bT.ok : AO 188 (bT.app) := iM stays mixed (bT.fok) (gU rfl) fun l K r h => by
 dsimp only [bT.app] at h
 split at h
 ·rename_i a
  exact fin (enc := bT.enc) h rfl fun y h => by
   simp only [bT.f] at h
   exact via (if (0 : Int) ≤ a then (some (.v (.int .u64 (IntKind.wrap .u64 ((shl .u64 1 a) - 1))))) else (none)) (by revert h; exact tc)
 ·cases h
def iR.enc (r : Int) : AV := .v (.int .u64 r)
def iR.app : List AV → (AV → Option AV) → Option AV := fun l K => match l with
 | [.agg [.v (.int .i64 a), .v (.int .i64 b), .v (.int .i64 c), .v (.int .i64 d)]] => (iR.f a b c d).bind fun r => K (iR.enc r)
 | _ => none
def iR.E : Env := ⟨9, tys, [(188, bT.app)], [], [], false, [22], false⟩
theorem iR.fok : FO 138 f138 (gQ f138) (iR.E) := fo jE func138 ⟨bT.ok, trivial⟩
theorem iR.ok : AO 138 (iR.app) := iM stays mixed (iR.fok) (gU rfl) fun l K r h => by
 dsimp only [iR.app] at h
 split at h
 ·rename_i a b c d
  exact fin (enc := iR.enc) h rfl fun y h => by
   simp only [iR.f] at h
   exact via ((bT.f (wrap64 (a - b))).bind fun e => (some (.v (.int .u64 e)))) (by revert h; exact tc)
 ·cases h
def dV.enc (r : Int) : AV := .v (.int .u64 r)
def dV.app : List AV → (AV → Option AV) → Option AV := fun l K => match l with
 | [.agg [.v (.int .i64 a), .v (.int .i64 b), .v (.int .i64 c), .v (.int .i64 d)]] => (dV.f a b c d).bind fun r => K (dV.enc r)
 | _ => none
def dV.E : Env := ⟨7, tys, [(188, bT.app)], [], [], false, [22], false⟩
theorem dV.fok : FO 273 f273 (gQ f273) (dV.E) := fo jE func273 ⟨bT.ok, trivial⟩
theorem dV.ok : AO 273 (dV.app) := iM stays mixed (dV.fok) (gU rfl) fun l K r h => by
 dsimp only [dV.app] at h
 split at h
 ·rename_i a b c d
  exact fin (enc := dV.enc) h rfl fun y h => by
   simp only [dV.f] at h
   exact via ((bT.f (wrap64 (b - 1))).bind fun e => (some (.v (.int .u64 e)))) (by revert h; exact tc)
 ·cases h
def fE.enc (r : Int) : AV := .v (.int .u64 r)
def fE.app : List AV → (AV → Option AV) → Option AV := fun l K => match l with
 | [.agg [.v (.int .i64 a), .v (.int .i64 b), .v (.int .i64 c), .v (.int .i64 d)], .v (.bool e), .v (.int .u64 f), .v (.int .u64 g)] => (fE.f a b c d e f g).bind fun r => K (fE.enc r)
 | _ => none
def fE.E : Env := ⟨25, tys, [], [], [], false, [22], false⟩
theorem fE.fok : FO 210 f210 (gQ f210) (fE.E) := fo jE func210 trivial
theorem fE.ok : AO 210 (fE.app) := iM stays mixed (fE.fok) (gU rfl) fun l K r h => by
 dsimp only [fE.app] at h
 split at h
 ·rename_i a b c d e f g
  exact fin (enc := fE.enc) h rfl fun y h => by
   simp only [fE.f] at h
   exact via (if (0 : Int) ≤ wrap64 (b - 1) then (if e = true then (if (0 : Int) ≤ wrap64 (a - 1) then (some (.v (.int .u64 (Go.bits .or .u64 (Go.bits .or .u64 (shl .u64 f (wrap64 (b - 1))) g) (shl .u64 1 (wrap64 (a - 1))))))) else (none)) else (some (.v (.int .u64 (Go.bits .or .u64 (shl .u64 f (wrap64 (b - 1))) g))))) else (none)) (by revert h; exact tc)
 ·cases h
def gy.enc (r : Bool × Int × Int) : AV := .tup [.v (.bool r.1), .v (.int .u64 r.2.1), .v (.int .u64 r.2.2)]
def gy.app : List AV → (AV → Option AV) → Option AV := fun l K => match l with
 | [.agg [.v (.int .i64 a), .v (.int .i64 b), .v (.int .i64 c), .v (.int .i64 d)], .v (.int .u64 e)] => (gy.f a b c d e).bind fun r => K (gy.enc r)
 | _ => none
def gy.E : Env := ⟨31, tys, [(188, bT.app)], [], [(2, [0, 1, 2, 3, 4, 5, 6, 7, 8, 9, 10, 11, 12, 13, 16, 17, 14, 15, 18, 19, 20, 21, 22])], false, [4, 22, 22], false⟩
theorem gy.fok : FO 187 f187 (gQ f187) (gy.E) := fo jE func187 ⟨bT.ok, trivial⟩
theorem gy.ok : AO 187 (gy.app) := iM stays mixed (gy.fok) (gU rfl) fun l K r h => by
 dsimp only [gy.app] at h
 split at h
 ·rename_i a b c d e
  exact fin (enc := gy.enc) h rfl fun y h => by
   simp only [gy.f] at h
   exact via (if (0 : Int) ≤ wrap64 (a - 1) then (if (0 : Int) ≤ wrap64 (b - 1) then ((bT.f (wrap64 (a - b))).bind fun f => ((bT.f (wrap64 (b - 1))).bind fun g => (some (.tup [.v (.bool ((shr .u64 e (wrap64 (a - 1))) != 0)), .v (.int .u64 (Go.bits .and .u64 (shr .u64 e (wrap64 (b - 1))) f)), .v (.int .u64 (Go.bits .and .u64 e g))])))) else (none)) else (none)) (by revert h; exact tc)
 ·cases h
end Go.Proofs.YtafikkmnkeddpaaGreatDoor.V
set_option maxRecDepth 100000
namespace Go.Proofs.YtafikkmnkeddpaaGreatDoor.V
open Go.RowKit Go.Proofs.YtafikkmnkeddpaaGreatDoorW.PrintWords Go.Proofs.YtafikkmnkeddpaaGreatDoorW.PrintLast Go.Proofs.YtafikkmnkeddpaaGreatDoorW.PrintMore Go.Proofs.YtafikkmnkeddpaaGreatDoor.E Go.Proofs.Tryz
theorem bT.calls (a0 : Int) (r : Int) (w : World) (h : bT.f a0 = some r) : Calls prog 188 #[.int .i64 a0] w fun e w' => e = .returned (.int .u64 r) ∧ Below w.heap.size w w' := by
 have hc := E.uD (l := [.v (.int .i64 a0)]) (bT.ok) (w := w) trivial (.cons _ _ _ _ (.v _) .nil) (by dsimp only [bT.app]; rw [h]; rfl)
 refine hc.mono ?_
 rintro e w' ⟨v, h1, h2, h3⟩
 have g0 := h2
 obtain rfl := iY g0
 exact ⟨h1, h3⟩
theorem iP.calls (a0 : Int) (a1 : Int) (a2 : Int) (a3 : Int) (r : Int) (w : World) (h : iP.f a0 a1 a2 a3 = some r) : Calls prog 137 #[.agg #[.int .i64 a0, .int .i64 a1, .int .i64 a2, .int .i64 a3]] w fun e w' => e = .returned (.int .u64 r) ∧ Below w.heap.size w w' := by
 have hc := E.uD (l := [.agg [.v (.int .i64 a0), .v (.int .i64 a1), .v (.int .i64 a2), .v (.int .i64 a3)]]) (iP.ok) (w := w) trivial (.cons _ _ _ _ (.agg _ _ (.cons _ _ _ _ (.v _) (.cons _ _ _ _ (.v _) (.cons _ _ _ _ (.v _) (.cons _ _ _ _ (.v _) .nil))))) .nil) (by dsimp only [iP.app]; rw [h]; rfl)
 refine hc.mono ?_
 rintro e w' ⟨v, h1, h2, h3⟩
 have g0 := h2
 obtain rfl := iY g0
 exact ⟨h1, h3⟩
theorem fK.calls (a0 : Int) (a1 : Int) (a2 : Int) (a3 : Int) (r : Int) (w : World) (h : fK.f a0 a1 a2 a3 = some r) : Calls prog 136 #[.agg #[.int .i64 a0, .int .i64 a1, .int .i64 a2, .int .i64 a3]] w fun e w' => e = .returned (.int .u64 r) ∧ Below w.heap.size w w' := by
 have hc := E.uD (l := [.agg [.v (.int .i64 a0), .v (.int .i64 a1), .v (.int .i64 a2), .v (.int .i64 a3)]]) (fK.ok) (w := w) trivial (.cons _ _ _ _ (.agg _ _ (.cons _ _ _ _ (.v _) (.cons _ _ _ _ (.v _) (.cons _ _ _ _ (.v _) (.cons _ _ _ _ (.v _) .nil))))) .nil) (by dsimp only [fK.app]; rw [h]; rfl)
 refine hc.mono ?_
 rintro e w' ⟨v, h1, h2, h3⟩
 have g0 := h2
 obtain rfl := iY g0
 exact ⟨h1, h3⟩
theorem iQ.calls (a0 : Int) (a1 : Int) (a2 : Int) (a3 : Int) (r : Int) (w : World) (h : iQ.f a0 a1 a2 a3 = some r) : Calls prog 272 #[.agg #[.int .i64 a0, .int .i64 a1, .int .i64 a2, .int .i64 a3]] w fun e w' => e = .returned (.int .u64 r) ∧ Below w.heap.size w w' := by
 have hc := E.uD (l := [.agg [.v (.int .i64 a0), .v (.int .i64 a1), .v (.int .i64 a2), .v (.int .i64 a3)]]) (iQ.ok) (w := w) trivial (.cons _ _ _ _ (.agg _ _ (.cons _ _ _ _ (.v _) (.cons _ _ _ _ (.v _) (.cons _ _ _ _ (.v _) (.cons _ _ _ _ (.v _) .nil))))) .nil) (by dsimp only [iQ.app]; rw [h]; rfl)
 refine hc.mono ?_
 rintro e w' ⟨v, h1, h2, h3⟩
 have g0 := h2
 obtain rfl := iY g0
 exact ⟨h1, h3⟩
theorem iR.calls (a0 : Int) (a1 : Int) (a2 : Int) (a3 : Int) (r : Int) (w : World) (h : iR.f a0 a1 a2 a3 = some r) : Calls prog 138 #[.agg #[.int .i64 a0, .int .i64 a1, .int .i64 a2, .int .i64 a3]] w fun e w' => e = .returned (.int .u64 r) ∧ Below w.heap.size w w' := by
 have hc := E.uD (l := [.agg [.v (.int .i64 a0), .v (.int .i64 a1), .v (.int .i64 a2), .v (.int .i64 a3)]]) (iR.ok) (w := w) trivial (.cons _ _ _ _ (.agg _ _ (.cons _ _ _ _ (.v _) (.cons _ _ _ _ (.v _) (.cons _ _ _ _ (.v _) (.cons _ _ _ _ (.v _) .nil))))) .nil) (by dsimp only [iR.app]; rw [h]; rfl)
 refine hc.mono ?_
 rintro e w' ⟨v, h1, h2, h3⟩
 have g0 := h2
 obtain rfl := iY g0
 exact ⟨h1, h3⟩
theorem dV.calls (a0 : Int) (a1 : Int) (a2 : Int) (a3 : Int) (r : Int) (w : World) (h : dV.f a0 a1 a2 a3 = some r) : Calls prog 273 #[.agg #[.int .i64 a0, .int .i64 a1, .int .i64 a2, .int .i64 a3]] w fun e w' => e = .returned (.int .u64 r) ∧ Below w.heap.size w w' := by
 have hc := E.uD (l := [.agg [.v (.int .i64 a0), .v (.int .i64 a1), .v (.int .i64 a2), .v (.int .i64 a3)]]) (dV.ok) (w := w) trivial (.cons _ _ _ _ (.agg _ _ (.cons _ _ _ _ (.v _) (.cons _ _ _ _ (.v _) (.cons _ _ _ _ (.v _) (.cons _ _ _ _ (.v _) .nil))))) .nil) (by dsimp only [dV.app]; rw [h]; rfl)
 refine hc.mono ?_
 rintro e w' ⟨v, h1, h2, h3⟩
 have g0 := h2
 obtain rfl := iY g0
 exact ⟨h1, h3⟩
theorem fE.calls (a0 : Int) (a1 : Int) (a2 : Int) (a3 : Int) (a4 : Bool) (a5 : Int) (a6 : Int) (r : Int) (w : World) (h : fE.f a0 a1 a2 a3 a4 a5 a6 = some r) : Calls prog 210 #[.agg #[.int .i64 a0, .int .i64 a1, .int .i64 a2, .int .i64 a3], .bool a4, .int .u64 a5, .int .u64 a6] w fun e w' => e = .returned (.int .u64 r) ∧ Below w.heap.size w w' := by
 have hc := E.uD (l := [.agg [.v (.int .i64 a0), .v (.int .i64 a1), .v (.int .i64 a2), .v (.int .i64 a3)], .v (.bool a4), .v (.int .u64 a5), .v (.int .u64 a6)]) (fE.ok) (w := w) trivial (.cons _ _ _ _ (.agg _ _ (.cons _ _ _ _ (.v _) (.cons _ _ _ _ (.v _) (.cons _ _ _ _ (.v _) (.cons _ _ _ _ (.v _) .nil))))) (.cons _ _ _ _ (.v _) (.cons _ _ _ _ (.v _) (.cons _ _ _ _ (.v _) .nil)))) (by dsimp only [fE.app]; rw [h]; rfl)
 refine hc.mono ?_
 rintro e w' ⟨v, h1, h2, h3⟩
 have g0 := h2
 obtain rfl := iY g0
 exact ⟨h1, h3⟩
theorem gy.calls (a0 : Int) (a1 : Int) (a2 : Int) (a3 : Int) (a4 : Int) (r0 : Bool) (r1 : Int) (r2 : Int) (w : World) (h : gy.f a0 a1 a2 a3 a4 = some (r0, r1, r2)) : Calls prog 187 #[.agg #[.int .i64 a0, .int .i64 a1, .int .i64 a2, .int .i64 a3], .int .u64 a4] w fun e w' => e = .returned (.tuple #[.bool r0, .int .u64 r1, .int .u64 r2]) ∧ Below w.heap.size w w' := by
 have hc := E.uD (l := [.agg [.v (.int .i64 a0), .v (.int .i64 a1), .v (.int .i64 a2), .v (.int .i64 a3)], .v (.int .u64 a4)]) (gy.ok) (w := w) trivial (.cons _ _ _ _ (.agg _ _ (.cons _ _ _ _ (.v _) (.cons _ _ _ _ (.v _) (.cons _ _ _ _ (.v _) (.cons _ _ _ _ (.v _) .nil))))) (.cons _ _ _ _ (.v _) .nil)) (by dsimp only [gy.app]; rw [h]; rfl)
 refine hc.mono ?_
 rintro e w' ⟨v, h1, h2, h3⟩
 obtain ⟨vs, rfl, hs⟩ := Kv h2
 obtain ⟨v0, us0, rfl, g0, hs⟩ := bY hs
 obtain ⟨v1, us1, rfl, g1, hs⟩ := bY hs
 obtain ⟨v2, us2, rfl, g2, hs⟩ := bY hs
 obtain rfl := iK hs
 obtain rfl := iY g0
 obtain rfl := iY g1
 obtain rfl := iY g2
 exact ⟨h1, h3⟩
end Go.Proofs.YtafikkmnkeddpaaGreatDoor.V
namespace Go.Proofs.YtafikkmnkeddpaaGreatDoor
open Go.RowKit Go.Sort Go.Proofs.YtafikkmnkeddpaaGreatDoorW.PrintWords
set_option maxRecDepth 10000 in
set_option maxHeartbeats 1000000 in
theorem nS (w : World) (f : Int) (hf : f < 0 ∨ 3 < f) (neg : Bool) (L R : FuncId) :
  Calls Tryz.prog 135 #[.int .i64 f, .bool neg, .func (.func L) #[] #[], .func (.func R) #[] #[]] w fun e w' => e = .returned (.tuple #[.int .u64 0, .int .i64 2]) ∧ RowKit.Below w.heap.size w w' := by
 have hA := uF w f hf
 clear hf
 go_enter Tryz.func135, Tryz.ntmps135
 go_wp2_with (go_at_call 52; refine hA.mono ?_; rintro e1 w1 ⟨rfl, hb1⟩)
 go_ret2
 exact ⟨rfl, hb1.alloc hb1.size _⟩
theorem qY (w : World) (hR : jA w) (f : Int) (p q m x o l v r : Int)
  (hP : ∀ W, jA W → Calls Tryz.prog 52 #[.int .i64 f] W fun e w' => e = .returned (.tuple #[.agg #[.int .i64 p, .int .i64 q, .int .i64 m, .int .i64 x], .int .i64 0]) ∧ Below W.heap.size W w')
  (hw : IntKind.i64.wrap (p - q) = p - q := by decide +kernel) (hwu : IntKind.u64.wrap (o - l) = o - l := by decide +kernel) (h1 : V.bT.f (p - q) = some o := by decide +kernel) (h2 : V.fK.f p q m x = some l := by decide +kernel) (h3 : V.iP.f p q m x = some v := by decide +kernel) (h4 : V.fE.f p q m x false (o - l) v = some r := by decide +kernel) :
  Calls Tryz.prog 57 #[.int .i64 f] w fun e w' => e = .returned (.tuple #[.int .u64 r, .int .i64 0]) ∧ RowKit.Below w.heap.size w w' := by
 have hs := Ai w f false p q m x o l v r (fun W h => hP W h) hw hwu (fun W => V.bT.calls _ _ W h1) (fun W => V.fK.calls _ _ _ _ _ W h2) (fun W => V.iP.calls _ _ _ _ _ W h3) (fun W => V.fE.calls _ _ _ _ _ _ _ _ W h4) hR
 clear hP hw hwu h1 h2 h3 h4
 go_enter Tryz.func57, Tryz.ntmps57
 go_wp2_with (go_at_call 135; refine hs.mono ?_; rintro e1 w1 ⟨rfl, hb1⟩)
 go_ret2
 exact ⟨rfl, hb1⟩
theorem Fp (w : World) (f : Int) (hf : f < 0 ∨ 3 < f) : Calls Tryz.prog 57 #[.int .i64 f] w fun e w' => e = .returned (.tuple #[.int .u64 0, .int .i64 2]) ∧ RowKit.Below w.heap.size w w' := by
 have hs := fun n => nS w f hf n 136 137
 clear hf
 go_enter Tryz.func57, Tryz.ntmps57
 go_wp2_with (go_at_call 135; refine (hs _).mono ?_; rintro e1 w1 ⟨rfl, hb1⟩)
 go_ret2
 exact ⟨rfl, hb1⟩
def vw (f : Int) : Option Int := if f = 0 then some 32256 else if f = 1 then some 32704 else if f = 2 then some 2143289344 else if f = 3 then some 9221120237041090560 else none
theorem Nr (w : World) (hR : jA w) (f : Int) : Calls Tryz.prog 57 #[.int .i64 f] w fun e w' => e = .returned (match vw f with | some v => .tuple #[.int .u64 v, .int .i64 0] | none => .tuple #[.int .u64 0, .int .i64 2]) ∧ RowKit.Below w.heap.size w w' := by
 by_cases hb : f < 0 ∨ 3 < f
 ·have : vw f = none := by unfold vw; rw [if_neg (by omega), if_neg (by omega), if_neg (by omega), if_neg (by omega)]
  rw [this]
  exact Fp w f hb
 ·have : f = 0 ∨ f = 1 ∨ f = 2 ∨ f = 3 := by omega
  rcases this with rfl | rfl | rfl | rfl
  ·exact qY w hR 0 16 11 (-14) 15 31 0 512 32256 lQ
  ·exact qY w hR 1 16 8 (-126) 127 255 0 64 32704 lS
  ·exact qY w hR 2 32 24 (-126) 127 255 0 4194304 2143289344 lT
  ·exact qY w hR 3 64 53 (-1022) 1023 2047 0 2251799813685248 9221120237041090560 lU
theorem jS (w : World) (hR : jA w) (f : Int) (neg : Bool) (p q m x o l r : Int)
  (hP : ∀ W, jA W → Calls Tryz.prog 52 #[.int .i64 f] W fun e w' => e = .returned (.tuple #[.agg #[.int .i64 p, .int .i64 q, .int .i64 m, .int .i64 x], .int .i64 0]) ∧ Below W.heap.size W w')
  (hw : IntKind.i64.wrap (p - q) = p - q := by decide +kernel) (hwu : IntKind.u64.wrap (o - l) = o - l := by decide +kernel) (h1 : V.bT.f (p - q) = some o := by decide +kernel) (h2 : V.fK.f p q m x = some l := by decide +kernel) (h4 : V.fE.f p q m x neg (o - l) l = some r := by decide +kernel) :
  Calls Tryz.prog 56 #[.int .i64 f, .bool neg] w fun e w' => e = .returned (.tuple #[.int .u64 r, .int .i64 0]) ∧ RowKit.Below w.heap.size w w' := by
 have hs := Aj w f neg p q m x o l r (fun W h => hP W h) hw hwu (fun W => V.bT.calls _ _ W h1) (fun W => V.fK.calls _ _ _ _ _ W h2) (fun W => V.fK.calls _ _ _ _ _ W h2) (fun W => V.fE.calls _ _ _ _ _ _ _ _ W h4) hR
 clear hP hw hwu h1 h2 h4
 go_enter Tryz.func56, Tryz.ntmps56
 go_wp2_with (go_at_call 135; refine hs.mono ?_; rintro e1 w1 ⟨rfl, hb1⟩)
 go_ret2
 exact ⟨rfl, hb1⟩
theorem xJ (w : World) (f : Int) (hf : f < 0 ∨ 3 < f) (neg : Bool) : Calls Tryz.prog 56 #[.int .i64 f, .bool neg] w fun e w' => e = .returned (.tuple #[.int .u64 0, .int .i64 2]) ∧ RowKit.Below w.heap.size w w' := by
 have hs := fun n => nS w f hf n 136 136
 clear hf
 go_enter Tryz.func56, Tryz.ntmps56
 go_wp2_with (go_at_call 135; refine (hs _).mono ?_; rintro e1 w1 ⟨rfl, hb1⟩)
 go_ret2
 exact ⟨rfl, hb1⟩
def nT (f : Int) (neg : Bool) : Option Int := if f = 0 then some (if neg then 64512 else 31744) else if f = 1 then some (if neg then 65408 else 32640) else if f = 2 then some (if neg then 4286578688 else 2139095040) else if f = 3 then some (if neg then 18442240474082181120 else 9218868437227405312) else none
theorem CJ (w : World) (hR : jA w) (f : Int) (neg : Bool) : Calls Tryz.prog 56 #[.int .i64 f, .bool neg] w fun e w' => e = .returned (match nT f neg with | some v => .tuple #[.int .u64 v, .int .i64 0] | none => .tuple #[.int .u64 0, .int .i64 2]) ∧ RowKit.Below w.heap.size w w' := by
 by_cases hb : f < 0 ∨ 3 < f
 ·have : nT f neg = none := by unfold nT; rw [if_neg (by omega), if_neg (by omega), if_neg (by omega), if_neg (by omega)]
  rw [this]
  exact xJ w f hb neg
 ·have : f = 0 ∨ f = 1 ∨ f = 2 ∨ f = 3 := by omega
  rcases this with rfl | rfl | rfl | rfl
  ·cases neg
   ·exact jS w hR 0 false 16 11 (-14) 15 31 0 31744 lQ
   ·exact jS w hR 0 true 16 11 (-14) 15 31 0 64512 lQ
  ·cases neg
   ·exact jS w hR 1 false 16 8 (-126) 127 255 0 32640 lS
   ·exact jS w hR 1 true 16 8 (-126) 127 255 0 65408 lS
  ·cases neg
   ·exact jS w hR 2 false 32 24 (-126) 127 255 0 2139095040 lT
   ·exact jS w hR 2 true 32 24 (-126) 127 255 0 4286578688 lT
  ·cases neg
   ·exact jS w hR 3 false 64 53 (-1022) 1023 2047 0 9218868437227405312 lU
   ·exact jS w hR 3 true 64 53 (-1022) 1023 2047 0 18442240474082181120 lU
theorem lV (w : World) (hR : jA w) (f : Int) (neg : Bool) (p q m x o l v r : Int)
  (hP : ∀ W, jA W → Calls Tryz.prog 52 #[.int .i64 f] W fun e w' => e = .returned (.tuple #[.agg #[.int .i64 p, .int .i64 q, .int .i64 m, .int .i64 x], .int .i64 0]) ∧ Below W.heap.size W w')
  (hw : IntKind.i64.wrap (p - q) = p - q := by decide +kernel) (hwu : IntKind.u64.wrap (o - l) = o - l := by decide +kernel) (h1 : V.bT.f (p - q) = some o := by decide +kernel) (h2 : V.iR.f p q m x = some l := by decide +kernel) (h3 : V.fK.f p q m x = some v := by decide +kernel) (h4 : V.fE.f p q m x neg (o - l) v = some r := by decide +kernel) :
  Calls Tryz.prog 58 #[.int .i64 f, .bool neg] w fun e w' => e = .returned (.tuple #[.int .u64 r, .int .i64 0]) ∧ RowKit.Below w.heap.size w w' := by
 have hs := Ak w f neg p q m x o l v r (fun W h => hP W h) hw hwu (fun W => V.bT.calls _ _ W h1) (fun W => V.iR.calls _ _ _ _ _ W h2) (fun W => V.fK.calls _ _ _ _ _ W h3) (fun W => V.fE.calls _ _ _ _ _ _ _ _ W h4) hR
 clear hP hw hwu h1 h2 h3 h4
 go_enter Tryz.func58, Tryz.ntmps58
 go_wp2_with (go_at_call 135; refine hs.mono ?_; rintro e1 w1 ⟨rfl, hb1⟩)
 go_ret2
 exact ⟨rfl, hb1⟩
theorem DX (w : World) (f : Int) (hf : f < 0 ∨ 3 < f) (neg : Bool) : Calls Tryz.prog 58 #[.int .i64 f, .bool neg] w fun e w' => e = .returned (.tuple #[.int .u64 0, .int .i64 2]) ∧ RowKit.Below w.heap.size w w' := by
 have hs := fun n => nS w f hf n 138 136
 clear hf
 go_enter Tryz.func58, Tryz.ntmps58
 go_wp2_with (go_at_call 135; refine (hs _).mono ?_; rintro e1 w1 ⟨rfl, hb1⟩)
 go_ret2
 exact ⟨rfl, hb1⟩
def sK (f : Int) (neg : Bool) : Option Int := if f = 0 then some (if neg then 32768 else 0) else if f = 1 then some (if neg then 32768 else 0) else if f = 2 then some (if neg then 2147483648 else 0) else if f = 3 then some (if neg then 9223372036854775808 else 0) else none
theorem KC (w : World) (hR : jA w) (f : Int) (neg : Bool) : Calls Tryz.prog 58 #[.int .i64 f, .bool neg] w fun e w' => e = .returned (match sK f neg with | some v => .tuple #[.int .u64 v, .int .i64 0] | none => .tuple #[.int .u64 0, .int .i64 2]) ∧ RowKit.Below w.heap.size w w' := by
 by_cases hb : f < 0 ∨ 3 < f
 ·have : sK f neg = none := by unfold sK; rw [if_neg (by omega), if_neg (by omega), if_neg (by omega), if_neg (by omega)]
  rw [this]
  exact DX w f hb neg
 ·have : f = 0 ∨ f = 1 ∨ f = 2 ∨ f = 3 := by omega
  rcases this with rfl | rfl | rfl | rfl
  ·cases neg
   ·exact lV w hR 0 false 16 11 (-14) 15 31 31 0 0 lQ
   ·exact lV w hR 0 true 16 11 (-14) 15 31 31 0 32768 lQ
  ·cases neg
   ·exact lV w hR 1 false 16 8 (-126) 127 255 255 0 0 lS
   ·exact lV w hR 1 true 16 8 (-126) 127 255 255 0 32768 lS
  ·cases neg
   ·exact lV w hR 2 false 32 24 (-126) 127 255 255 0 0 lT
   ·exact lV w hR 2 true 32 24 (-126) 127 255 255 0 2147483648 lT
  ·cases neg
   ·exact lV w hR 3 false 64 53 (-1022) 1023 2047 2047 0 0 lU
   ·exact lV w hR 3 true 64 53 (-1022) 1023 2047 2047 0 9223372036854775808 lU
theorem jT (w : World) (hR : jA w) (f : Int) (neg : Bool) (p q m x o l v r : Int)
  (hP : ∀ W, jA W → Calls Tryz.prog 52 #[.int .i64 f] W fun e w' => e = .returned (.tuple #[.agg #[.int .i64 p, .int .i64 q, .int .i64 m, .int .i64 x], .int .i64 0]) ∧ Below W.heap.size W w')
  (hw : IntKind.i64.wrap (p - q) = p - q := by decide +kernel) (hwu : IntKind.u64.wrap (o - l) = o - l := by decide +kernel) (h1 : V.bT.f (p - q) = some o := by decide +kernel) (h2 : V.iQ.f p q m x = some l := by decide +kernel) (h3 : V.dV.f p q m x = some v := by decide +kernel) (h4 : V.fE.f p q m x neg (o - l) v = some r := by decide +kernel) :
  Calls Tryz.prog 248 #[.int .i64 f, .bool neg] w fun e w' => e = .returned (.tuple #[.int .u64 r, .int .i64 0]) ∧ RowKit.Below w.heap.size w w' := by
 have hs := Aq w f neg p q m x o l v r (fun W h => hP W h) hw hwu (fun W => V.bT.calls _ _ W h1) (fun W => V.iQ.calls _ _ _ _ _ W h2) (fun W => V.dV.calls _ _ _ _ _ W h3) (fun W => V.fE.calls _ _ _ _ _ _ _ _ W h4) hR
 clear hP hw hwu h1 h2 h3 h4
 go_enter Tryz.func248, Tryz.ntmps248
 go_wp2_with (go_at_call 135; refine hs.mono ?_; rintro e1 w1 ⟨rfl, hb1⟩)
 go_ret2
 exact ⟨rfl, hb1⟩
theorem xK (w : World) (f : Int) (hf : f < 0 ∨ 3 < f) (neg : Bool) : Calls Tryz.prog 248 #[.int .i64 f, .bool neg] w fun e w' => e = .returned (.tuple #[.int .u64 0, .int .i64 2]) ∧ RowKit.Below w.heap.size w w' := by
 have hs := fun n => nS w f hf n 272 273
 clear hf
 go_enter Tryz.func248, Tryz.ntmps248
 go_wp2_with (go_at_call 135; refine (hs _).mono ?_; rintro e1 w1 ⟨rfl, hb1⟩)
 go_ret2
 exact ⟨rfl, hb1⟩
def nU (f : Int) (neg : Bool) : Option Int := if f = 0 then some (if neg then 64511 else 31743) else if f = 1 then some (if neg then 65407 else 32639) else if f = 2 then some (if neg then 4286578687 else 2139095039) else if f = 3 then some (if neg then 18442240474082181119 else 9218868437227405311) else none
theorem CO (w : World) (hR : jA w) (f : Int) (neg : Bool) : Calls Tryz.prog 248 #[.int .i64 f, .bool neg] w fun e w' => e = .returned (match nU f neg with | some v => .tuple #[.int .u64 v, .int .i64 0] | none => .tuple #[.int .u64 0, .int .i64 2]) ∧ RowKit.Below w.heap.size w w' := by
 by_cases hb : f < 0 ∨ 3 < f
 ·have : nU f neg = none := by unfold nU; rw [if_neg (by omega), if_neg (by omega), if_neg (by omega), if_neg (by omega)]
  rw [this]
  exact xK w f hb neg
 ·have : f = 0 ∨ f = 1 ∨ f = 2 ∨ f = 3 := by omega
  rcases this with rfl | rfl | rfl | rfl
  ·cases neg
   ·exact jT w hR 0 false 16 11 (-14) 15 31 1 1023 31743 lQ
   ·exact jT w hR 0 true 16 11 (-14) 15 31 1 1023 64511 lQ
  ·cases neg
   ·exact jT w hR 1 false 16 8 (-126) 127 255 1 127 32639 lS
   ·exact jT w hR 1 true 16 8 (-126) 127 255 1 127 65407 lS
  ·cases neg
   ·exact jT w hR 2 false 32 24 (-126) 127 255 1 8388607 2139095039 lT
   ·exact jT w hR 2 true 32 24 (-126) 127 255 1 8388607 4286578687 lT
  ·cases neg
   ·exact jT w hR 3 false 64 53 (-1022) 1023 2047 1 4503599627370495 9218868437227405311 lU
   ·exact jT w hR 3 true 64 53 (-1022) 1023 2047 1 4503599627370495 18442240474082181119 lU
end Go.Proofs.YtafikkmnkeddpaaGreatDoor
namespace Go.Proofs.YtafikkmnkeddpaaGreatDoor
open Go.RowKit
end Go.Proofs.YtafikkmnkeddpaaGreatDoor
namespace Go.Proofs.YtafikkmnkeddpaaGreatDoor.P
open Go.RowKit Go.Proofs.YtafikkmnkeddpaaGreatDoorW.PrintWords Go.Proofs.YtafikkmnkeddpaaGreatDoorW.PrintLast
theorem one_byte {s : ByteArray} (h1 : s.size = 1) (h2 : bt s 0 < 128) : ∃ c : UInt8, s = ⟨#[c]⟩ ∧ c.toNat < 128 := by
 obtain ⟨a⟩ := s
 have h3 : a.size = 1 := h1
 obtain ⟨c, rfl⟩ : ∃ c, a = #[c] := ⟨a[0], by apply Array.ext; simp [h3]; intro i hi _; simp at hi ⊢; congr; omega⟩
 refine ⟨c, rfl, ?_⟩
 have : bt (⟨#[c]⟩ : ByteArray) 0 = (c.toNat : Int) := rfl
 rw [this] at h2
 omega
theorem KE (c : UInt8) : UInt8.ofNat (bt (⟨#[c]⟩ : ByteArray) 0).toNat = c := by
 have : bt (⟨#[c]⟩ : ByteArray) 0 = (c.toNat : Int) := rfl
 rw [this, Int.toNat_natCast]
 exact UInt8.ofNat_toNat
def dF.f (l0 : List Int) : Option (List Int) := if OkI l0 then some (wI (vI l0)) else none
def l7 (a : Int) : Option (Int × Int × Int × Int) := if a = 0 then some (16, 11, -14, 15) else if a = 1 then some (16, 8, -126, 127) else if a = 2 then some (32, 24, -126, 127) else if a = 3 then some (64, 53, -1022, 1023) else none
def bg.f (a0 : Int) : Option (Int × Int × Int × Int × Int) := match l7 a0 with | some (p, q, r, s) => some (p, q, r, s, 0) | none => some (0, 0, 0, 0, 2)
theorem bg.calls (a0 : Int) (r1 r2 r3 r4 r5 : Int) (w : World) (hG : GOk w) (h : bg.f a0 = some (r1, r2, r3, r4, r5)) :
  Calls Tryz.prog 52 #[.int .i64 a0] w fun e w' => e = .returned (.tuple #[.agg #[.int .i64 r1, .int .i64 r2, .int .i64 r3, .int .i64 r4], .int .i64 r5]) ∧ Below w.heap.size w w' := by
 have hR := hG.tabs.rows
 by_cases hb : a0 < 0 ∨ 3 < a0
 ·have e : bg.f a0 = some (0, 0, 0, 0, 2) := by unfold bg.f l7; rw [if_neg (by omega), if_neg (by omega), if_neg (by omega), if_neg (by omega)]
  rw [e] at h
  cases h
  exact uF w a0 hb
 ·rcases (show a0 = 0 ∨ a0 = 1 ∨ a0 = 2 ∨ a0 = 3 by omega) with e | e | e | e <;> subst e <;> cases h
  ·exact lQ w hR
  ·exact lS w hR
  ·exact lT w hR
  ·exact lU w hR
def jw.f (a0 : Int) : Option (Int × Int) := match l7 a0 with | some (p, q, _, _) => some ((2 ^ (p - q).toNat - 1) * 2 ^ (q - 1).toNat + 2 ^ (q - 2).toNat, 0) | none => some (0, 2)
theorem jw.calls (a0 : Int) (r1 r2 : Int) (w : World) (hG : GOk w) (h : jw.f a0 = some (r1, r2)) :
  Calls Tryz.prog 57 #[.int .i64 a0] w fun e w' => e = .returned (.tuple #[.int .u64 r1, .int .i64 r2]) ∧ Below w.heap.size w w' := by
 have hf := Nr w hG.tabs.rows a0
 by_cases hb : a0 < 0 ∨ 3 < a0
 ·have e : jw.f a0 = some (0, 2) := by unfold jw.f l7; rw [if_neg (by omega), if_neg (by omega), if_neg (by omega), if_neg (by omega)]
  have e2 : vw a0 = none := by unfold vw; rw [if_neg (by omega), if_neg (by omega), if_neg (by omega), if_neg (by omega)]
  rw [e] at h
  rw [e2] at hf
  cases h
  exact hf
 ·rcases (show a0 = 0 ∨ a0 = 1 ∨ a0 = 2 ∨ a0 = 3 by omega) with e | e | e | e <;> subst e <;> cases h <;> exact hf
def sgn (p : Int) (neg : Bool) : Int := if neg then 2 ^ (p - 1).toNat else 0
def dM.f (a0 : Int) (a1 : Bool) : Option (Int × Int) := match l7 a0 with | some (p, q, _, _) => some ((2 ^ (p - q).toNat - 1) * 2 ^ (q - 1).toNat + sgn p a1, 0) | none => some (0, 2)
theorem dM.calls (a0 : Int) (a1 : Bool) (r1 r2 : Int) (w : World) (hG : GOk w) (h : dM.f a0 a1 = some (r1, r2)) :
  Calls Tryz.prog 56 #[.int .i64 a0, .bool a1] w fun e w' => e = .returned (.tuple #[.int .u64 r1, .int .i64 r2]) ∧ Below w.heap.size w w' := by
 have hf := CJ w hG.tabs.rows a0 a1
 by_cases hb : a0 < 0 ∨ 3 < a0
 ·have e : dM.f a0 a1 = some (0, 2) := by unfold dM.f l7; rw [if_neg (by omega), if_neg (by omega), if_neg (by omega), if_neg (by omega)]
  have e2 : nT a0 a1 = none := by unfold nT; rw [if_neg (by omega), if_neg (by omega), if_neg (by omega), if_neg (by omega)]
  rw [e] at h
  rw [e2] at hf
  cases h
  exact hf
 ·rcases (show a0 = 0 ∨ a0 = 1 ∨ a0 = 2 ∨ a0 = 3 by omega) with e | e | e | e <;> subst e <;> cases a1 <;> cases h <;> exact hf
def gZ.f (a0 : Int) (a1 : Bool) : Option (Int × Int) := match l7 a0 with | some (p, q, _, _) => some (sgn p a1, 0) | none => some (0, 2)
theorem gZ.calls (a0 : Int) (a1 : Bool) (r1 r2 : Int) (w : World) (hG : GOk w) (h : gZ.f a0 a1 = some (r1, r2)) :
  Calls Tryz.prog 58 #[.int .i64 a0, .bool a1] w fun e w' => e = .returned (.tuple #[.int .u64 r1, .int .i64 r2]) ∧ Below w.heap.size w w' := by
 have hf := KC w hG.tabs.rows a0 a1
 by_cases hb : a0 < 0 ∨ 3 < a0
 ·have e : gZ.f a0 a1 = some (0, 2) := by unfold gZ.f l7; rw [if_neg (by omega), if_neg (by omega), if_neg (by omega), if_neg (by omega)]
  have e2 : sK a0 a1 = none := by unfold sK; rw [if_neg (by omega), if_neg (by omega), if_neg (by omega), if_neg (by omega)]
  rw [e] at h
  rw [e2] at hf
  cases h
  exact hf
 ·rcases (show a0 = 0 ∨ a0 = 1 ∨ a0 = 2 ∨ a0 = 3 by omega) with e | e | e | e <;> subst e <;> cases a1 <;> cases h <;> exact hf
def fQ.f (a0 : Int) (a1 : Bool) : Option (Int × Int) := match l7 a0 with | some (p, q, _, _) => some ((2 ^ (p - q).toNat - 2) * 2 ^ (q - 1).toNat + (2 ^ (q - 1).toNat - 1) + sgn p a1, 0) | none => some (0, 2)
theorem fQ.calls (a0 : Int) (a1 : Bool) (r1 r2 : Int) (w : World) (hG : GOk w) (h : fQ.f a0 a1 = some (r1, r2)) :
  Calls Tryz.prog 248 #[.int .i64 a0, .bool a1] w fun e w' => e = .returned (.tuple #[.int .u64 r1, .int .i64 r2]) ∧ Below w.heap.size w w' := by
 have hf := CO w hG.tabs.rows a0 a1
 by_cases hb : a0 < 0 ∨ 3 < a0
 ·have e : fQ.f a0 a1 = some (0, 2) := by unfold fQ.f l7; rw [if_neg (by omega), if_neg (by omega), if_neg (by omega), if_neg (by omega)]
  have e2 : nU a0 a1 = none := by unfold nU; rw [if_neg (by omega), if_neg (by omega), if_neg (by omega), if_neg (by omega)]
  rw [e] at h
  rw [e2] at hf
  cases h
  exact hf
 ·rcases (show a0 = 0 ∨ a0 = 1 ∨ a0 = 2 ∨ a0 = 3 by omega) with e | e | e | e <;> subst e <;> cases a1 <;> cases h <;> exact hf
def fP.f (a0 : ByteArray) : Option ByteArray := if a0.size < 35184372088832 then some ⟨(Lib.toLowerD a0.data.toList).toArray⟩ else none
theorem fP.calls (a0 : ByteArray) (r : ByteArray) (w : World) (hG : GOk w) (h : fP.f a0 = some r) :
  Calls Tryz.prog 128 #[.string a0] w fun e w' => e = .returned (.string r) ∧ Below w.heap.size w w' := by
 unfold fP.f at h
 split at h
 ·rename_i hok
  obtain rfl := Option.some.inj h
  exact Tryz.strings_ToLower_any a0 w hok hG.tabs.cs hG.tabs.u8
 ·cases h
def fM.f (a0 a1 : ByteArray) : Option ByteArray := if a1.size = 1 ∧ (bt a1 0) < 128 then some ⟨(Lib.trimLeftB a0.data.toList (UInt8.ofNat (bt a1 0).toNat)).toArray⟩ else none
theorem fM.calls (a0 a1 : ByteArray) (r : ByteArray) (w : World) (h : fM.f a0 a1 = some r) :
  Calls Tryz.prog 55 #[.string a0, .string a1] w fun e w' => e = .returned (.string r) ∧ nG w w' := by
 unfold fM.f at h
 split at h
 ·rename_i hok
  obtain rfl := Option.some.inj h
  obtain ⟨c, rfl, hc⟩ := one_byte hok.1 hok.2
  rw [KE]
  exact (Tryz.strings_TrimLeft_one a0 c hc w).mono fun _ _ g => ⟨g.1, g.2 ▸ nG.refl _⟩
 ·cases h
def je.f (a0 a1 : ByteArray) : Option ByteArray := if a1.size = 1 ∧ (bt a1 0) < 128 ∧ a0.size ≤ 9223372036854775807 then some ⟨(Lib.trimRightB a0.data.toList (UInt8.ofNat (bt a1 0).toNat)).toArray⟩ else none
theorem je.calls (a0 a1 : ByteArray) (r : ByteArray) (w : World) (h : je.f a0 a1 = some r) :
  Calls Tryz.prog 93 #[.string a0, .string a1] w fun e w' => e = .returned (.string r) ∧ nG w w' := by
 unfold je.f at h
 split at h
 ·rename_i hok
  obtain rfl := Option.some.inj h
  obtain ⟨c, rfl, hc⟩ := one_byte hok.1 hok.2.1
  rw [KE]
  exact (Tryz.strings_TrimRight_one a0 c hc w hok.2.2).mono fun _ _ g => ⟨g.1, g.2 ▸ nG.refl _⟩
 ·cases h
def strings_Repeat.f (a0 : ByteArray) (a1 : Int) : Option ByteArray := if 0 ≤ a1 ∧ a1 ≤ 1000000 ∧ a0.size ≤ 1000000 then some ⟨(Lib.repeatL a0.data.toList a1.toNat).toArray⟩ else none
theorem strings_Repeat.calls (a0 : ByteArray) (a1 : Int) (r : ByteArray) (w : World) (h : strings_Repeat.f a0 a1 = some r) :
  Calls Tryz.prog 92 #[.string a0, .int .i64 a1] w fun e w' => e = .returned (.string r) ∧ Below w.heap.size w w' := by
 unfold strings_Repeat.f at h
 split at h
 ·rename_i hok
  obtain rfl := Option.some.inj h
  obtain ⟨n, rfl⟩ := Int.eq_ofNat_of_zero_le hok.1
  have h1 := hok.2.1
  have h2 : a0.size * n ≤ 1000000 * 1000000 := Nat.mul_le_mul hok.2.2 (by omega)
  exact Tryz.strings_Repeat a0 n w (by omega) (Nat.le_trans h2 (by decide))
 ·cases h
def strings_HasSuffix.f (a0 a1 : ByteArray) : Option Bool := if a0.size ≤ 9223372036854775807 then some (Lib.hasSuffix a0.data.toList a1.data.toList) else none
def strings_HasPrefix.f (a0 a1 : ByteArray) : Option Bool := some (Lib.hasPrefix a0.data.toList a1.data.toList)
def strconv_Itoa.f (a0 : Int) : Option ByteArray := if -9223372036854775808 ≤ a0 ∧ a0 ≤ 9223372036854775807 then some ⟨(Lib.itoa a0).toArray⟩ else none
theorem strconv_Itoa.calls (a0 : Int) (r : ByteArray) (w : World) (hG : GOk w) (h : strconv_Itoa.f a0 = some r) :
  Calls Tryz.prog 120 #[.int .i64 a0] w fun e w' => e = .returned (.string r) ∧ Below w.heap.size w w' := by
 unfold strconv_Itoa.f at h
 split at h
 ·rename_i hok
  obtain rfl := Option.some.inj h
  refine (Tryz.strconv_Itoa a0 hok.1 hok.2 w hG.tabs.p10).mono fun _ _ g => ⟨g.1, ?_⟩
  obtain ⟨k, os, rfl⟩ := g.2
  exact Lib.below_grow w.heap.size w (Nat.le_refl _) k os
 ·cases h
end Go.Proofs.YtafikkmnkeddpaaGreatDoor.P
set_option maxRecDepth 100000
namespace Go.Proofs.YtafikkmnkeddpaaGreatDoor.T
open Go.Proofs.YtafikkmnkeddpaaGreatDoor.P Go.RowKit Go.Proofs.YtafikkmnkeddpaaGreatDoorW.PrintWords Go.Proofs.YtafikkmnkeddpaaGreatDoorW.PrintLast Go.Proofs.YtafikkmnkeddpaaGreatDoorW.PrintMore Go.Proofs.Tryz
def dH.f (a : Int) : Option (List Int) := (gB.f 10 a).bind fun b => (some b.1)
def bC.j0 : Nat → Int → List Int → List Int → Option (List Int × List Int)
 | 0, _, _, _ => none
 | k + 1, a, b, c => if a ≥ 0 then ((fA.f b a).bind fun d => (some (d.1, c))) else ((fA.f c (wrap64 (-a))).bind fun e => (some (b, e.1)))
def bC.f (k : Nat) (a : Int) (b : Int) (c : Int) : Option (List Int × List Int) := (some (([a] : List Int) : List Int)).bind fun d => (if c ≥ 0 then ((dH.f c).bind fun e => ((gY.f d e).bind fun f => (bC.j0 k b f.1 (([1] : List Int))))) else ((dH.f (wrap64 (-c))).bind fun g => (bC.j0 k b d g)))
end Go.Proofs.YtafikkmnkeddpaaGreatDoor.T
set_option maxRecDepth 100000
namespace Go.Proofs.YtafikkmnkeddpaaGreatDoor.T
open Go.Proofs.YtafikkmnkeddpaaGreatDoor.P Go.RowKit Go.Proofs.YtafikkmnkeddpaaGreatDoorW.PrintWords Go.Proofs.YtafikkmnkeddpaaGreatDoorW.PrintLast Go.Proofs.YtafikkmnkeddpaaGreatDoorW.PrintMore Go.Proofs.YtafikkmnkeddpaaGreatDoor.E Go.Proofs.Tryz
def tys : List (TypeId × TI) := [(73, .sl 22 .u64 8)]
theorem OZ : ng prog 73 (match lk 73 tys with | some i => i | none => .bool) := ⟨by kernel_rfl, by kernel_rfl, by kernel_rfl, by kernel_rfl, by decide⟩
theorem jE : kL prog tys := And.intro OZ <| trivial
abbrev GOk (w : World) : Prop := True
theorem stays : rW GOk := ⟨fun w w' h hb => trivial⟩
theorem mixed : prog.follows .mixedOrders = true := by kernel_rfl
abbrev AO := jR prog GOk
abbrev FO := CB prog GOk
def gB.app : List AV → (AV → Option AV) → Option AV := fun l K => match l with
 | [.v (.int .u64 z0), .v (.int .i64 z1)] => (gB.f z0 z1).bind fun r => K (.tup [.ro true .u64 r.1, .v (.int .i64 r.2)])
 | _ => none
theorem gB.ok : jR prog GOk 91 gB.app := ⟨⟨f91, func91, by kernel_rfl, by kernel_rfl⟩, fun l args w O K r hG hO hl h => by
 unfold gB.app at h
 split at h
 ·rename_i z0 z1
  obtain ⟨y, hy, hK⟩ := Option.bind_eq_some_iff.1 h
  obtain ⟨v0, us0, rfl, h0, hl0⟩ := bY hl
  obtain rfl := iY h0
  obtain ⟨v1, us1, rfl, h1, hl1⟩ := bY hl0
  obtain rfl := iY h1
  obtain rfl := iK hl1
  refine ⟨_, hK, (gB.calls z0 z1 y.1 y.2 w hy).mono ?_⟩
  rintro e w' ⟨v0_, rfl, hR0, hb⟩
  exact ⟨_, rfl, (.tup _ _ (.cons _ _ _ _ (l9 hR0 hO) (.cons _ _ _ _ (.v _) .nil))), hb⟩
 ·cases h⟩
def gY.app : List AV → (AV → Option AV) → Option AV := fun l K => match l with
 | [.ro false .u64 z0, .ro false .u64 z1] => (gY.f z0 z1).bind fun r => K (.tup [.ro true .u64 r.1, .v (.int .i64 r.2)])
 | _ => none
theorem gY.ok : jR prog GOk 61 gY.app := ⟨⟨f61, func61, by kernel_rfl, by kernel_rfl⟩, fun l args w O K r hG hO hl h => by
 unfold gY.app at h
 split at h
 ·rename_i z0 z1
  obtain ⟨y, hy, hK⟩ := Option.bind_eq_some_iff.1 h
  obtain ⟨v0, us0, rfl, h0, hl0⟩ := bY hl
  obtain ⟨A0, c0, rfl, hr0, hc0⟩ := kN h0
  obtain ⟨v1, us1, rfl, h1, hl1⟩ := bY hl0
  obtain ⟨A1, c1, rfl, hr1, hc1⟩ := kN h1
  obtain rfl := iK hl1
  refine ⟨_, hK, (gY.calls A0 c0 z0 A1 c1 z1 y.1 y.2 w hr0 hc0 hr1 hc1 hy).mono ?_⟩
  rintro e w' ⟨v0_, rfl, hR0, hb⟩
  exact ⟨_, rfl, (.tup _ _ (.cons _ _ _ _ (l9 hR0 hO) (.cons _ _ _ _ (.v _) .nil))), hb⟩
 ·cases h⟩
def fA.app : List AV → (AV → Option AV) → Option AV := fun l K => match l with
 | [.ro false .u64 z0, .v (.int .i64 z1)] => (fA.f z0 z1).bind fun r => K (.tup [.ro true .u64 r.1, .v (.int .i64 r.2)])
 | _ => none
theorem fA.ok : jR prog GOk 89 fA.app := ⟨⟨f89, func89, by kernel_rfl, by kernel_rfl⟩, fun l args w O K r hG hO hl h => by
 unfold fA.app at h
 split at h
 ·rename_i z0 z1
  obtain ⟨y, hy, hK⟩ := Option.bind_eq_some_iff.1 h
  obtain ⟨v0, us0, rfl, h0, hl0⟩ := bY hl
  obtain ⟨A0, c0, rfl, hr0, hc0⟩ := kN h0
  obtain ⟨v1, us1, rfl, h1, hl1⟩ := bY hl0
  obtain rfl := iY h1
  obtain rfl := iK hl1
  refine ⟨_, hK, (fA.calls A0 c0 z0 z1 y.1 y.2 w hr0 hc0 hy).mono ?_⟩
  rintro e w' ⟨v0_, rfl, hR0, hb⟩
  exact ⟨_, rfl, (.tup _ _ (.cons _ _ _ _ (l9 hR0 hO) (.cons _ _ _ _ (.v _) .nil))), hb⟩
 ·cases h⟩
end Go.Proofs.YtafikkmnkeddpaaGreatDoor.T
set_option maxRecDepth 100000
namespace Go.Proofs.YtafikkmnkeddpaaGreatDoor.T
open Go.Proofs.YtafikkmnkeddpaaGreatDoor.P Go.RowKit Go.Proofs.YtafikkmnkeddpaaGreatDoorW.PrintWords Go.Proofs.YtafikkmnkeddpaaGreatDoorW.PrintLast Go.Proofs.YtafikkmnkeddpaaGreatDoorW.PrintMore Go.Proofs.YtafikkmnkeddpaaGreatDoor.E Go.Proofs.Tryz
def dH.enc (r : List Int) : AV := .ro true .u64 r
def dH.app : List AV → (AV → Option AV) → Option AV := fun l K => match l with
 | [.v (.int .i64 a)] => (dH.f a).bind fun r => K (dH.enc r)
 | _ => none
def dH.E : Env := ⟨11, tys, [(91, gB.app)], [], [], false, [73], false⟩
theorem dH.fok : FO 60 f60 (gQ f60) (dH.E) := fo jE func60 ⟨gB.ok, trivial⟩
theorem dH.ok : AO 60 (dH.app) := iM stays mixed (dH.fok) (gU rfl) fun l K r h => by
 dsimp only [dH.app] at h
 split at h
 ·rename_i a
  exact fin (enc := dH.enc) h rfl fun y h => by
   simp only [dH.f] at h
   exact via ((gB.f 10 a).bind fun b => (some (.ro true .u64 b.1))) (by revert h; exact tc)
 ·cases h
def bC.enc (r : List Int × List Int) : AV := .tup [.ro true .u64 r.1, .ro true .u64 r.2]
def bC.app (k : Nat) : List AV → (AV → Option AV) → Option AV := fun l K => match l with
 | [.v (.int .u64 a), .v (.int .i64 b), .v (.int .i64 c)] => (bC.f k a b c).bind fun r => K (bC.enc r)
 | _ => none
def bC.p0 (k : Nat) : Pt := ⟨[.c [1, 1, 1, 0, 0], .c [1, 1, 1, 0, 1], .c [1, 1, 1, 1]], [(1, none, []), (6, some .u64, []), (7, some .u64, [])], [], [], [], fun s => match s with
 | ⟨[(1, .v (.int .i64 a)), (6, .ro true .u64 b), (7, .ro true .u64 c)], []⟩ => (bC.j0 k a b c).map bC.enc
 | _ => none⟩
def bC.E (k : Nat) : Env := ⟨40, tys, [(60, dH.app), (61, gY.app), (89, fA.app)], [(5, bC.p0 k)], [], false, [73, 73], false⟩
theorem bC.fok (k : Nat) : FO 100 f100 (gQ f100) (bC.E k) := fo jE func100 ⟨dH.ok, ⟨gY.ok, ⟨fA.ok, trivial⟩⟩⟩
theorem bC.s0 : nR f100 bC.E bC.p0 := fun k s r h => by
 dsimp only [bC.p0] at h
 split at h
 ·rename_i a b c
  rcases k with _ | k
  ·cases h
  simp only [bC.j0] at h
  exact ⟨k, rfl, via (if (decide (a ≥ 0)) = true then ((fA.f b a).bind fun d => (some (.tup [.ro true .u64 d.1, .ro true .u64 c]))) else ((fA.f c (wrap64 (-a))).bind fun e => (some (.tup [.ro true .u64 b, .ro true .u64 e.1])))) (by revert h; exact tc)⟩
 ·cases h
theorem bC.pts : ∀ k, mD prog (gQ f100) (bC.E k) GOk (Fin prog f100) := mP stays mixed bC.fok [(5, bC.p0)] ⟨bC.s0, trivial⟩
theorem bC.ok (k : Nat) : AO 100 (bC.app k) := iM stays mixed (bC.fok k) (bC.pts k) fun l K r h => by
 dsimp only [bC.app] at h
 split at h
 ·rename_i a b c
  exact fin (enc := bC.enc) h rfl fun y h => by
   simp only [bC.f] at h
   exact via (if (decide (c ≥ 0)) = true then ((dH.f c).bind fun d => ((gY.f ([a] : List Int) d).bind fun e => ((bC.j0 k b e.1 ([1] : List Int)).map bC.enc))) else ((dH.f (wrap64 (-c))).bind fun f => ((bC.j0 k b ([a] : List Int) f).map bC.enc))) (by revert h; exact tc)
 ·cases h
end Go.Proofs.YtafikkmnkeddpaaGreatDoor.T
set_option maxRecDepth 100000
namespace Go.Proofs.YtafikkmnkeddpaaGreatDoor.T
open Go.Proofs.YtafikkmnkeddpaaGreatDoor.P Go.RowKit Go.Proofs.YtafikkmnkeddpaaGreatDoorW.PrintWords Go.Proofs.YtafikkmnkeddpaaGreatDoorW.PrintLast Go.Proofs.YtafikkmnkeddpaaGreatDoorW.PrintMore Go.Proofs.YtafikkmnkeddpaaGreatDoor.E Go.Proofs.Tryz
theorem bC.calls (k : Nat) (a0 : Int) (a1 : Int) (a2 : Int) (r0 : List Int) (r1 : List Int) (w : World) (h : bC.f k a0 a1 a2 = some (r0, r1)) : Calls prog 100 #[.int .u64 a0, .int .i64 a1, .int .i64 a2] w fun e w' => ∃ v0_ v1_ : Value, e = .returned (.tuple #[v0_, v1_]) ∧ Cs w' .u64 v0_ r0 ∧ Cs w' .u64 v1_ r1 ∧ Below w.heap.size w w' := by
 have hc := E.uD (l := [.v (.int .u64 a0), .v (.int .i64 a1), .v (.int .i64 a2)]) (bC.ok k) (w := w) trivial (.cons _ _ _ _ (.v _) (.cons _ _ _ _ (.v _) (.cons _ _ _ _ (.v _) .nil))) (by dsimp only [bC.app]; rw [h]; rfl)
 refine hc.mono ?_
 rintro e w' ⟨v, h1, h2, h3⟩
 obtain ⟨vs, rfl, hs⟩ := Kv h2
 obtain ⟨v0, us0, rfl, g0, hs⟩ := bY hs
 obtain ⟨v1, us1, rfl, g1, hs⟩ := bY hs
 obtain rfl := iK hs
 exact ⟨_, _, h1, DW g0, DW g1, h3⟩
end Go.Proofs.YtafikkmnkeddpaaGreatDoor.T
set_option maxRecDepth 100000
namespace Go.Proofs.YtafikkmnkeddpaaGreatDoor.U
open Go.Proofs.YtafikkmnkeddpaaGreatDoor.P Go.RowKit Go.Proofs.YtafikkmnkeddpaaGreatDoorW.PrintWords Go.Proofs.YtafikkmnkeddpaaGreatDoorW.PrintLast Go.Proofs.YtafikkmnkeddpaaGreatDoorW.PrintMore Go.Proofs.Tryz
def aZ.f (a : Int) (b : Int) : Option (Int) := (bg.f a).bind fun c => (if c.2.2.2.2 = 0 then (if c.1 < 64 then (if 0 ≤ c.1 then (if (shr .u64 b c.1) = 0 then (some 0) else (some 4)) else (none)) else (some 0)) else (some c.2.2.2.2))
end Go.Proofs.YtafikkmnkeddpaaGreatDoor.U
set_option maxRecDepth 100000
namespace Go.Proofs.YtafikkmnkeddpaaGreatDoor.U
open Go.Proofs.YtafikkmnkeddpaaGreatDoor.P Go.RowKit Go.Proofs.YtafikkmnkeddpaaGreatDoorW.PrintWords Go.Proofs.YtafikkmnkeddpaaGreatDoorW.PrintLast Go.Proofs.YtafikkmnkeddpaaGreatDoorW.PrintMore Go.Proofs.YtafikkmnkeddpaaGreatDoor.E Go.Proofs.Tryz
def tys : List (TypeId × TI) := [(3, .int .i64), (88, .st [.v (.int .i64 0), .v (.int .i64 0), .v (.int .i64 0), .v (.int .i64 0)] [(0, 1, false), (1, 1, false), (2, 1, false), (3, 1, false)])]
theorem ty3 : ng prog 3 (match lk 3 tys with | some i => i | none => .bool) := ⟨by kernel_rfl, by kernel_rfl⟩
theorem Jq : ng prog 88 (match lk 88 tys with | some i => i | none => .bool) := ⟨_, underlying88, by kernel_rfl, by kernel_rfl⟩
theorem jE : kL prog tys := And.intro ty3 <| And.intro Jq <| trivial
theorem stays : rW GOk := ⟨fun w w' h hb => h.below hb⟩
theorem mixed : prog.follows .mixedOrders = true := by kernel_rfl
abbrev AO := jR prog GOk
abbrev FO := CB prog GOk
def bg.app : List AV → (AV → Option AV) → Option AV := fun l K => match l with
 | [.v (.int .i64 z0)] => (bg.f z0).bind fun r => K (.tup [.agg [.v (.int .i64 r.1), .v (.int .i64 r.2.1), .v (.int .i64 r.2.2.1), .v (.int .i64 r.2.2.2.1)], .v (.int .i64 r.2.2.2.2)])
 | _ => none
theorem bg.ok : jR prog GOk 52 bg.app := ⟨⟨f52, func52, by kernel_rfl, by kernel_rfl⟩, fun l args w O K r hG hO hl h => by
 unfold bg.app at h
 split at h
 ·rename_i z0
  obtain ⟨y, hy, hK⟩ := Option.bind_eq_some_iff.1 h
  obtain ⟨v0, us0, rfl, h0, hl0⟩ := bY hl
  obtain rfl := iY h0
  obtain rfl := iK hl0
  refine ⟨_, hK, (bg.calls z0 y.1 y.2.1 y.2.2.1 y.2.2.2.1 y.2.2.2.2 w hG hy).mono ?_⟩
  rintro e w' ⟨rfl, hb⟩
  exact ⟨_, rfl, (.tup _ _ (.cons _ _ _ _ (.agg _ _ (.cons _ _ _ _ (.v _) (.cons _ _ _ _ (.v _) (.cons _ _ _ _ (.v _) (.cons _ _ _ _ (.v _) .nil))))) (.cons _ _ _ _ (.v _) .nil))), hb⟩
 ·cases h⟩
end Go.Proofs.YtafikkmnkeddpaaGreatDoor.U
set_option maxRecDepth 100000
namespace Go.Proofs.YtafikkmnkeddpaaGreatDoor.U
open Go.Proofs.YtafikkmnkeddpaaGreatDoor.P Go.RowKit Go.Proofs.YtafikkmnkeddpaaGreatDoorW.PrintWords Go.Proofs.YtafikkmnkeddpaaGreatDoorW.PrintLast Go.Proofs.YtafikkmnkeddpaaGreatDoorW.PrintMore Go.Proofs.YtafikkmnkeddpaaGreatDoor.E Go.Proofs.Tryz
def aZ.enc (r : Int) : AV := .v (.int .i64 r)
def aZ.app : List AV → (AV → Option AV) → Option AV := fun l K => match l with
 | [.v (.int .i64 a), .v (.int .u64 b)] => (aZ.f a b).bind fun r => K (aZ.enc r)
 | _ => none
def aZ.E : Env := ⟨25, tys, [(52, bg.app)], [], [], false, [24], false⟩
theorem aZ.fok : FO 72 f72 (gQ f72) (aZ.E) := fo jE func72 ⟨bg.ok, trivial⟩
theorem aZ.ok : AO 72 (aZ.app) := iM stays mixed (aZ.fok) (gU rfl) fun l K r h => by
 dsimp only [aZ.app] at h
 split at h
 ·rename_i a b
  exact fin (enc := aZ.enc) h rfl fun y h => by
   simp only [aZ.f] at h
   exact via ((bg.f a).bind fun c => (if (c.2.2.2.2 != 0) = true then (some (.v (.int .i64 c.2.2.2.2))) else (if (decide (c.1 < 64)) = true then (if (0 : Int) ≤ c.1 then (if ((shr .u64 b c.1) != 0) = true then (some (.v (.int .i64 4))) else (some (.v (.int .i64 0)))) else (none)) else (some (.v (.int .i64 0)))))) (by revert h; exact tc)
 ·cases h
end Go.Proofs.YtafikkmnkeddpaaGreatDoor.U
set_option maxRecDepth 100000
namespace Go.Proofs.YtafikkmnkeddpaaGreatDoor.U
open Go.Proofs.YtafikkmnkeddpaaGreatDoor.P Go.RowKit Go.Proofs.YtafikkmnkeddpaaGreatDoorW.PrintWords Go.Proofs.YtafikkmnkeddpaaGreatDoorW.PrintLast Go.Proofs.YtafikkmnkeddpaaGreatDoorW.PrintMore Go.Proofs.YtafikkmnkeddpaaGreatDoor.E Go.Proofs.Tryz
theorem aZ.calls (a0 : Int) (a1 : Int) (r : Int) (w : World) (hG : GOk w) (h : aZ.f a0 a1 = some r) : Calls prog 72 #[.int .i64 a0, .int .u64 a1] w fun e w' => e = .returned (.int .i64 r) ∧ Below w.heap.size w w' := by
 have hc := E.uD (l := [.v (.int .i64 a0), .v (.int .u64 a1)]) (aZ.ok) (w := w) hG (.cons _ _ _ _ (.v _) (.cons _ _ _ _ (.v _) .nil)) (by dsimp only [aZ.app]; rw [h]; rfl)
 refine hc.mono ?_
 rintro e w' ⟨v, h1, h2, h3⟩
 have g0 := h2
 obtain rfl := iY g0
 exact ⟨h1, h3⟩
end Go.Proofs.YtafikkmnkeddpaaGreatDoor.U
namespace Go.Proofs.YtafikkmnkeddpaaGreatDoor
open Go.RowKit Go.Sort Go.Proofs.YtafikkmnkeddpaaGreatDoorW.PrintWords P
def CP (f p q m x : Int) : Prop := (f = 0 ∧ p = 16 ∧ q = 11 ∧ m = -14 ∧ x = 15) ∨ (f = 1 ∧ p = 16 ∧ q = 8 ∧ m = -126 ∧ x = 127) ∨ (f = 2 ∧ p = 32 ∧ q = 24 ∧ m = -126 ∧ x = 127) ∨ (f = 3 ∧ p = 64 ∧ q = 53 ∧ m = -1022 ∧ x = 1023)
theorem CP.cells {f p q m x : Int} (h : CP f p q m x) {w : World} (hR : jA w) :
  w.cell? ⟨2, 4 * f.toNat, none⟩ = some (.int .i64 p) ∧ w.cell? ⟨2, 4 * f.toNat + 1, none⟩ = some (.int .i64 q) ∧ w.cell? ⟨2, 4 * f.toNat + 2, none⟩ = some (.int .i64 m) ∧ w.cell? ⟨2, 4 * f.toNat + 3, none⟩ = some (.int .i64 x) := by
 rcases h with ⟨rfl, rfl, rfl, rfl, rfl⟩ | ⟨rfl, rfl, rfl, rfl, rfl⟩ | ⟨rfl, rfl, rfl, rfl, rfl⟩ | ⟨rfl, rfl, rfl, rfl, rfl⟩ <;> exact ⟨hR.2 _ (by decide), hR.2 _ (by decide), hR.2 _ (by decide), hR.2 _ (by decide)⟩
set_option maxRecDepth 10000 in
set_option maxHeartbeats 1000000 in
theorem Fq (w : World) (f p q m x a : Int) (hf : CP f p q m x) (neg : Bool) (E F : Int) (hR : jA w)
  (hC : Calls Tryz.prog 72 #[.int .i64 f, .int .u64 a] w fun e w' => e = .returned (.int .i64 0) ∧ Below w.heap.size w w')
  (hS : ∀ W, Calls Tryz.prog 187 #[.agg #[.int .i64 p, .int .i64 q, .int .i64 m, .int .i64 x], .int .u64 a] W fun e w' => e = .returned (.tuple #[.bool neg, .int .u64 E, .int .u64 F]) ∧ Below W.heap.size W w') :
  Calls Tryz.prog 118 #[.int .i64 f, .int .u64 a] w fun e w' => e = .returned (.tuple #[.bool neg, .int .u64 E, .int .u64 F, .int .i64 0]) ∧ Below w.heap.size w w' := by
 have HR := Lib.hid hR
 have HS := Lib.hid hS
 have HF := Lib.hid hf
 have hk : ∀ w1, RowKit.Below w.heap.size w w1 → w1.cell? ⟨2, 4 * f.toNat, none⟩ = some (.int .i64 p) ∧ w1.cell? ⟨2, 4 * f.toNat + 1, none⟩ = some (.int .i64 q) ∧ w1.cell? ⟨2, 4 * f.toNat + 2, none⟩ = some (.int .i64 m) ∧ w1.cell? ⟨2, 4 * f.toNat + 3, none⟩ = some (.int .i64 x) := fun w1 hb => hf.cells (hR.below hb)
 rcases hf with ⟨rfl, rfl, rfl, rfl, rfl⟩ | ⟨rfl, rfl, rfl, rfl, rfl⟩ | ⟨rfl, rfl, rfl, rfl, rfl⟩ | ⟨rfl, rfl, rfl, rfl, rfl⟩
 all_goals
  have HK := Lib.hid hk
  clear hR hS hk
  go_enter Tryz.func118, Tryz.ntmps118
  go_wp2_with (first | (go_at_call 72; refine hC.mono ?_; rintro e1 w1 ⟨rfl, hb1⟩; obtain ⟨k0, k1, k2, k3⟩ := HK.out w1 hb1; have HB := Lib.hid hb1; clear hb1; simp only [Int.toNat, Nat.reduceMul, Nat.reduceAdd] at k0 k1 k2 k3) | (go_at_call 187; refine (HS.out _).mono ?_; rintro e1 w1 ⟨rfl, hb1⟩; have HB2 := Lib.hid hb1; clear hb1))
  exact bodyPost_ret (v := .tuple #[.bool neg, .int .u64 E, .int .u64 F, .int .i64 0]) (by simp [results, Tryz.results118, go_sem]) rfl ⟨rfl, HB.out.trans (HB2.out.mono HB.out.size)⟩
theorem newRow (W : World) (p q m x : Value) (t : Nat) : W.heap.size < (W.alloc (.cells #[p, q, m, x] t)).heap.size ∧ (W.alloc (.cells #[p, q, m, x] t)).cell? ⟨W.heap.size, 0, none⟩ = some p ∧ (W.alloc (.cells #[p, q, m, x] t)).cell? ⟨W.heap.size, 1, none⟩ = some q := by
 have hal := heap_alloc_new W (.cells #[p, q, m, x] t)
 refine ⟨by show _ < (W.heap.push _).size; rw [Array.size_push]; omega, ?_⟩
 generalize W.alloc (.cells #[p, q, m, x] t) = W1 at *
 generalize W.heap.size = g at *
 exact ⟨by simp [World.cell?, hal], by simp [World.cell?, hal]⟩
theorem Ns {w W W' : World} {g : Nat} {p q : Value} (hd : RowKit.Below W.heap.size W W') (HW : Hid (RowKit.Below w.heap.size w W ∧ g < W.heap.size)) (c0 : W.cell? ⟨g, 0, none⟩ = some p) (c1 : W.cell? ⟨g, 1, none⟩ = some q) :
  W'.cell? ⟨g, 0, none⟩ = some p ∧ W'.cell? ⟨g, 1, none⟩ = some q ∧ Hid (RowKit.Below w.heap.size w W' ∧ g < W'.heap.size) :=
 ⟨(hd.cell (p := ⟨g, 0, none⟩) HW.out.2).trans c0, (hd.cell (p := ⟨g, 1, none⟩) HW.out.2).trans c1, Lib.hid ⟨HW.out.1.trans (hd.mono HW.out.1.size), Nat.lt_of_lt_of_le HW.out.2 hd.size⟩⟩
theorem Qu {a : Int} (h : (a != 0) = false) : a = 0 := by simpa using h
theorem Qv {a : Int} (h : (a != 0) = true) : ¬ a = 0 := by simpa using h
def Nu (neg : Bool) (E F o v : Int) : Int :=
 if E = o then (if F = 0 then (if neg then 2 else 9) else if v ≠ 0 then 1 else 0)
 else if E = 0 then (if F = 0 then (if neg then 5 else 6) else if neg then 4 else 7)
 else if neg then 3 else 8
set_option maxRecDepth 10000 in
set_option maxHeartbeats 4000000 in
theorem IW (w : World) (f p q m x a : Int) (hf : CP f p q m x) (neg : Bool) (E F o : Int) (hR : jA w)
  (hC : Calls Tryz.prog 72 #[.int .i64 f, .int .u64 a] w fun e w' => e = .returned (.int .i64 0) ∧ Below w.heap.size w w')
  (hS : ∀ W, Calls Tryz.prog 187 #[.agg #[.int .i64 p, .int .i64 q, .int .i64 m, .int .i64 x], .int .u64 a] W fun e w' => e = .returned (.tuple #[.bool neg, .int .u64 E, .int .u64 F]) ∧ Below W.heap.size W w')
  (hO : ∀ W, Calls Tryz.prog 188 #[.int .i64 (p - q)] W fun e w' => e = .returned (.int .u64 o) ∧ RowKit.Below W.heap.size W w') :
  Calls Tryz.prog 117 #[.int .i64 f, .int .u64 a] w fun e w' => e = .returned (.tuple #[.int .i64 (Nu neg E F o (F / 2 ^ (q - 2).toNat)), .int .i64 0]) ∧ Below w.heap.size w w' := by
 have HR := Lib.hid hR
 have HS := Lib.hid hS
 have HO := Lib.hid hO
 have hk : ∀ w1, RowKit.Below w.heap.size w w1 → w1.cell? ⟨2, 4 * f.toNat, none⟩ = some (.int .i64 p) ∧ w1.cell? ⟨2, 4 * f.toNat + 1, none⟩ = some (.int .i64 q) ∧ w1.cell? ⟨2, 4 * f.toNat + 2, none⟩ = some (.int .i64 m) ∧ w1.cell? ⟨2, 4 * f.toNat + 3, none⟩ = some (.int .i64 x) := fun w1 hb => hf.cells (hR.below hb)
 have hv : F / 2 ^ (q - 2).toNat = 0 ∨ ¬ F / 2 ^ (q - 2).toNat = 0 := Classical.em _
 rcases hf with ⟨rfl, rfl, rfl, rfl, rfl⟩ | ⟨rfl, rfl, rfl, rfl, rfl⟩ | ⟨rfl, rfl, rfl, rfl, rfl⟩ | ⟨rfl, rfl, rfl, rfl, rfl⟩
 all_goals
  simp only [Int.reduceSub, Int.reduceToNat, Int.reducePow] at hv ⊢
  have HK := Lib.hid hk
  clear hR hS hk hO
  go_enter Tryz.func117, Tryz.ntmps117
  go_upto_region 4 with (go_at_call 72; refine hC.mono ?_; rintro e1 w1 ⟨rfl, hb1⟩; obtain ⟨k0, k1, k2, k3⟩ := HK.out w1 hb1; have HB := Lib.hid hb1; clear hb1; simp only [Int.toNat, Nat.reduceMul, Nat.reduceAdd] at k0 k1 k2 k3)
  go_upto_region 7 with (go_at_call 187; refine (HS.out _).mono ?_; rintro e2 w2 ⟨rfl, hb2⟩; have HB2 := Lib.hid hb2; clear hb2)
  obtain ⟨hg, n0, n1⟩ := newRow w1 _ _ _ _ 88
  have c0 := (HB2.out.cell (p := ⟨w1.heap.size, 0, none⟩) hg).trans n0
  have c1 := (HB2.out.cell (p := ⟨w1.heap.size, 1, none⟩) hg).trans n1
  have HW : Hid (RowKit.Below w.heap.size w w2 ∧ w1.heap.size < w2.heap.size) := Lib.hid ⟨(HB.out.alloc HB.out.size _).trans (HB2.out.mono (Nat.le_trans HB.out.size (Nat.le_of_lt hg))), Nat.lt_of_lt_of_le hg HB2.out.size⟩
  clear k0 k1 k2 k3 n0 n1 hg HB HB2
  generalize w1.heap.size = g at *
  clear hv
  by_cases hE : E = o <;> by_cases hF : F = 0 <;> by_cases hZ : E = 0 <;> cases neg
 all_goals
  go_wp2_with (go_at_call 188; refine (HO.out _).mono ?_; rintro e3 w3 ⟨rfl, hb3⟩; obtain ⟨c0, c1, HW⟩ := Ns hb3 HW c0 c1; clear hb3)
  all_goals exact bodyPost_ret (v := .tuple #[.int .i64 (Nu _ E F o _), .int .i64 0]) (by simp [results, Tryz.results117, go_sem, Nu, *]; try (first | exact Qu (by assumption) | exact Qv (by assumption))) rfl ⟨rfl, HW.out.1⟩
end Go.Proofs.YtafikkmnkeddpaaGreatDoor
-- Printed for this claim by given.py, a program of this repo, over the kit's printer. Lean checks it.
namespace Go.Proofs.YtafikkmnkeddpaaGreatDoor.Q
open Go.RowKit Go.Proofs.YtafikkmnkeddpaaGreatDoorW.PrintWords Go.Proofs.YtafikkmnkeddpaaGreatDoorW.PrintLast Go.Proofs.YtafikkmnkeddpaaGreatDoorW.PrintMore
attribute [local go_sem] Ey Ez Ic Ie BG BH EC ED
def Qw : Option Int → Value
 | none => .nilIface
 | some c => .iface 0 (.int .i64 c)
theorem kT : Qw none = .nilIface := rfl
theorem kU (c : Int) : Qw (some c) = .iface 0 (.int .i64 c) := rfl
theorem info5 : (Tryz.prog.info? 5).map (fun i => (i.zero, i.size, i.bytes)) = some (some (.int .u8 0), 1, 1) := by kernel_rfl
theorem info22 : (Tryz.prog.info? 22).map (fun i => (i.zero, i.size, i.bytes)) = some (some (.int .u64 0), 1, 8) := by kernel_rfl
end Go.Proofs.YtafikkmnkeddpaaGreatDoor.Q
-- Printed for this claim by given.py, a program of this repo, over the kit's printer. Lean checks it.
namespace Go.Proofs.YtafikkmnkeddpaaGreatDoor.Q
open Go.RowKit Go.Proofs.YtafikkmnkeddpaaGreatDoorW.PrintWords Go.Proofs.YtafikkmnkeddpaaGreatDoorW.PrintLast Go.Proofs.YtafikkmnkeddpaaGreatDoorW.PrintMore
attribute [local go_sem] Ey Ez Ic Ie BG BH EC ED
def cZ.l0 : Nat → List Int → Int → Option (List Int)
 | 0, _, _ => none
 | k + 1, x0, x3 => if x3 > 0 then (if 0 ≤ (wrap64 (x3 - 1)) then (if (wrap64 (x3 - 1)) < (x0.length : Int) then (if (rd x0 (wrap64 (x3 - 1))) = 0 then (cZ.l0 k x0 (wrap64 (x3 - 1))) else (if 0 ≤ x3 then (if x3 ≤ (x0.length : Int) then (some (x0.take (x3 : Int).toNat)) else (none)) else (none))) else (none)) else (none)) else (if 0 ≤ x3 then (if x3 ≤ (x0.length : Int) then (some (x0.take (x3 : Int).toNat)) else (none)) else (none))
def cZ.f (k : Nat) (l0 : List Int) : Option (List Int) := cZ.l0 k l0 (l0.length : Int)
set_option maxHeartbeats 8000000 in
set_option maxRecDepth 100000 in
theorem cZ.calls (k : Nat) (P0_ : Nat → Prop) (u9000_ : Value) (l0 : List Int) (r : List Int) (w0 w : World) (hB : Below w0.heap.size w0 w) (ho0 : Kd.R (Kd.int .u64) 22 w w0.heap.size P0_ u9000_ l0) (h : cZ.f k l0 = some r) :
  Calls Tryz.prog 112 #[u9000_] w fun e w' => ∃ v0_ : Value, e = .returned (v0_) ∧ Kd.R (Kd.int .u64) 22 w' w0.heap.size (fun k_ => (P0_ k_ ∨ w.heap.size ≤ k_)) v0_ r ∧ Below w0.heap.size w0 w' ∧ Kept w w' (fun k_ => P0_ k_) := by
 have HO0 := bH.mk (show Kd.R (Kd.int .u64) 22 w w0.heap.size (fun k_ => (P0_ k_ ∨ w.heap.size ≤ k_)) u9000_ l0 from Kd.mO ho0 (fun k_ hk => (.inl hk)))
 have HK := bH.mk (Kept.refl w (fun k_ => P0_ k_))
 have HW0 := bH.mk hB.size
 have HB := bH.mk hB
 clear hB
 have H : (cZ.l0 k l0 (l0.length : Int)) = some r := h
 clear h
 have H' := bH.mk H
 clear H
 obtain ⟨Ao2, co2, eo2⟩ := Kd.nZ HO0.out
 subst eo2
 go_enter Tryz.func112, Tryz.ntmps112
 go_wp2
 go_loopg [3] k (fun kq v3 w' => ∃ (x3_1 : Int), v3 = .int .i64 x3_1 ∧ bH (cZ.l0 kq l0 x3_1 = some r) ∧ bH (kq ≤ k) ∧ bH (Kd.R (Kd.int .u64) 22 w' w0.heap.size (fun k_ => (P0_ k_ ∨ w.heap.size ≤ k_)) (.slice Ao2 l0.length co2) l0) ∧ bH (Kept w w' (fun k_ => P0_ k_)) ∧ bH (Below w0.heap.size w0 w'))
 case atStart => exact ⟨((l0.length : Int)), (by first | with_reducible rfl | (simp; done) | rfl | (simp [*]; done)), H', ⟨Nat.le_refl _⟩, ⟨by (with_reducible repeat (first | apply Kd.iC | apply Kd.iD | apply Kd.jk)); exact HO0.out⟩, ⟨by repeat (first | (with_reducible first | exact HK.out | apply Kept.alloc | apply Kept.drewN | apply Kept.drew) | exact HK.out)⟩, ⟨by repeat (first | (with_reducible first | exact HB.out | apply aY | apply aN | apply bF) | exact HB.out)⟩⟩
 case round =>
  clear H'
  try clear c1
  try clear p2
  obtain ⟨x3_1, rfl, HA, HK1, HO_0, HK, HB⟩ := hrel
  cases gk with
  | zero => exact absurd HA.out (by simp [cZ.l0])
  | succ k1 =>
   have H := HA.out
   clear HA
   simp only [cZ.l0] at H
   by_cases c3 : x3_1 > 0
   ·rw [if_pos c3] at H
    have c3b0 : decide (0 < x3_1) = true := decide_eq_true c3
    clear c3
    obtain ⟨ji4, hji4⟩ : ∃ j_ : Int, (wrap64 (x3_1 - 1)) = j_ := ⟨_, rfl⟩
    replace H : (if 0 ≤ (ji4) then (if (ji4) < (l0.length : Int) then (if (rd l0 (ji4)) = 0 then (cZ.l0 k1 l0 ji4) else (if 0 ≤ x3_1 then (if x3_1 ≤ (l0.length : Int) then (some (l0.take (x3_1 : Int).toNat)) else (none)) else (none))) else (none)) else (none)) = some r := by first | (rw [hji4] at H; exact H) | (simp only [hji4] at H ⊢; exact H)
    have hji4w : (IntKind.i64.wrap (x3_1 - 1)) = ji4 := (OV _).trans hji4
    by_cases c5 : 0 ≤ (ji4)
    ·rw [if_pos c5] at H
     have c5b0 : decide (0 ≤ (ji4)) = true := decide_eq_true c5
     clear c5
     by_cases c6 : (ji4) < (l0.length : Int)
     ·rw [if_pos c6] at H
      have c6b0 : decide ((ji4) < (l0.length : Int)) = true := decide_eq_true c6
      clear c6
      by_cases c7 : (rd l0 (ji4)) = 0
      ·rw [if_pos c7] at H
       have c7b0 : ((rd l0 (ji4)) == 0) = true := beq_iff_eq.mpr c7
       have c7b1 : ((rd l0 (ji4)) != 0) = false := bne_eq_false_iff_eq.mpr c7
       clear c7
       have H' := bH.mk H
       clear H
       have p101 : 0 ≤ ((ji4) : Int) := of_decide_eq_true (by first | (with_reducible assumption) | assumption)
       have q101 : (ji4) < (l0.length : Int) := of_decide_eq_true (by first | (with_reducible assumption) | assumption)
       obtain ⟨ad101, e101, hx101_0⟩ := Kd.Du (Kd.mW HO_0.out).2.2 (ji4) p101 q101
       cases e101
       replace p101 := eq_true p101
       replace q101 := eq_true q101
       go_wp2
       go_roundg k1
       case measure => have := HK1.out; omega
       case rel => exact ⟨(ji4), (by first | with_reducible rfl | (simp; done) | (simp only [← hji4] <;> (first | rfl | simp)) | (simp [*]; done) | rfl), H', ⟨by have := HK1.out; omega⟩, ⟨by (with_reducible repeat (first | apply Kd.iC | apply Kd.iD | apply Kd.jk)); exact HO_0.out⟩, ⟨by repeat (first | (with_reducible first | exact HK.out | apply Kept.alloc | apply Kept.drewN | apply Kept.drew) | exact HK.out)⟩, ⟨by repeat (first | (with_reducible first | exact HB.out | apply aY | apply aN | apply bF) | exact HB.out)⟩⟩
      ·rw [if_neg c7] at H
       have c7b0 : ((rd l0 (ji4)) == 0) = false := beq_eq_false_iff_ne.mpr c7
       have c7b1 : ((rd l0 (ji4)) != 0) = true := bne_iff_ne.mpr c7
       by_cases c8 : 0 ≤ x3_1
       ·rw [if_pos c8] at H
        have c8b0 := eq_true c8
        have c8b1 : decide (0 ≤ x3_1) = true := decide_eq_true c8
        clear c8
        by_cases c9 : x3_1 ≤ (l0.length : Int)
        ·rw [if_pos c9] at H
         have c9b0 := eq_true c9
         have c9b1 : decide (x3_1 ≤ (l0.length : Int)) = true := decide_eq_true c9
         clear c9
         obtain ⟨y102, hy102⟩ : ∃ y_ : List Int, y_ = (l0.take (x3_1 : Int).toNat) := ⟨_, rfl⟩
         replace H : (some y102) = some r := by first | (rw [hy102]; with_reducible exact H) | (have H2_ := (Option.bind_some _ _).symm.trans H; rw [hy102]; with_reducible exact H2_) | (have H2_ := (Option.bind_some _ _).symm.trans H; with_reducible exact H2_) | with_reducible exact H | (rw [hy102]; exact H) | exact H
         have Ny102 := bH.mk hy102
         clear hy102
         obtain rfl := Option.some.inj H
         have p101 : 0 ≤ ((ji4) : Int) := of_decide_eq_true (by first | (with_reducible assumption) | assumption)
         have q101 : (ji4) < (l0.length : Int) := of_decide_eq_true (by first | (with_reducible assumption) | assumption)
         obtain ⟨ad101, e101, hx101_0⟩ := Kd.Du (Kd.mW HO_0.out).2.2 (ji4) p101 q101
         cases e101
         replace p101 := eq_true p101
         replace q101 := eq_true q101
         have q10 : (x3_1 : Int) ≤ ((l0.length : Int) : Int) := of_decide_eq_true (by first | (with_reducible assumption) | assumption)
         obtain ⟨i010, hi010, _, hsz10, _⟩ := info_parts info22
         have hcut10 := MC (P := Tryz.prog) 73 22 .i64 Tryz.underlying73 hi010 (some ad101) l0.length co2 x3_1 (of_decide_eq_true (by first | (with_reducible assumption) | assumption)) q10 (Kd.mW HO_0.out).2.1
         have hr10 := Kd.MG (m := (x3_1 : Int).toNat) HO_0.out (by omega)
         have hy10 : y102.length = (x3_1 : Int).toNat := (by rw [Ny102.out, List.length_take]; omega)
         rw [← Ny102.out] at hr10
         rw [← hy10] at hr10 hcut10
         clear hy10 hi010 hsz10 HO_0
         have HO104 := bH.mk hr10
         clear hr10
         replace q10 := eq_true q10
         go_wp2
         go_ret
         exact ⟨_, by first | rfl | (simp [kT, kU] <;> rfl) | (simp only [← hji4]; first | rfl | (simp [kT, kU] <;> rfl)) | (simp [*, kT, kU] <;> rfl) | (simp [bne]; done) | (simp [*, bne]; done), by (with_reducible repeat (first | apply Kd.iC | apply Kd.iD | apply Kd.jk)); exact HO104.out, by repeat (first | (with_reducible first | exact HB.out | apply aY | apply aN | apply bF) | exact HB.out), by repeat (first | (with_reducible first | exact HK.out | apply Kept.alloc | apply Kept.drewN | apply Kept.drew) | exact HK.out)⟩
        ·rw [if_neg c9] at H
         exact absurd H (by simp)
       ·rw [if_neg c8] at H
        exact absurd H (by simp)
     ·rw [if_neg c6] at H
      exact absurd H (by simp)
    ·rw [if_neg c5] at H
     exact absurd H (by simp)
   ·rw [if_neg c3] at H
    have c3b0 : decide (0 < x3_1) = false := decide_eq_false c3
    clear c3
    by_cases c11 : 0 ≤ x3_1
    ·rw [if_pos c11] at H
     have c11b0 := eq_true c11
     have c11b1 : decide (0 ≤ x3_1) = true := decide_eq_true c11
     clear c11
     by_cases c12 : x3_1 ≤ (l0.length : Int)
     ·rw [if_pos c12] at H
      have c12b0 := eq_true c12
      have c12b1 : decide (x3_1 ≤ (l0.length : Int)) = true := decide_eq_true c12
      clear c12
      obtain ⟨y105, hy105⟩ : ∃ y_ : List Int, y_ = (l0.take (x3_1 : Int).toNat) := ⟨_, rfl⟩
      replace H : (some y105) = some r := by first | (rw [hy105]; with_reducible exact H) | (have H2_ := (Option.bind_some _ _).symm.trans H; rw [hy105]; with_reducible exact H2_) | (have H2_ := (Option.bind_some _ _).symm.trans H; with_reducible exact H2_) | with_reducible exact H | (rw [hy105]; exact H) | exact H
      have Ny105 := bH.mk hy105
      clear hy105
      obtain rfl := Option.some.inj H
      have q13 : (x3_1 : Int) ≤ ((l0.length : Int) : Int) := of_decide_eq_true (by first | (with_reducible assumption) | assumption)
      obtain ⟨i013, hi013, _, hsz13, _⟩ := info_parts info22
      have hcut13 := MC (P := Tryz.prog) 73 22 .i64 Tryz.underlying73 hi013 Ao2 l0.length co2 x3_1 (of_decide_eq_true (by first | (with_reducible assumption) | assumption)) q13 (Kd.mW HO_0.out).2.1
      have hr13 := Kd.MG (m := (x3_1 : Int).toNat) HO_0.out (by omega)
      have hy13 : y105.length = (x3_1 : Int).toNat := (by rw [Ny105.out, List.length_take]; omega)
      rw [← Ny105.out] at hr13
      rw [← hy13] at hr13 hcut13
      clear hy13 hi013 hsz13 HO_0
      have HO107 := bH.mk hr13
      clear hr13
      replace q13 := eq_true q13
      go_wp2
      go_ret
      exact ⟨_, by first | rfl | (simp [kT, kU] <;> rfl) | (simp [*, kT, kU] <;> rfl) | (simp [bne]; done) | (simp [*, bne]; done), by (with_reducible repeat (first | apply Kd.iC | apply Kd.iD | apply Kd.jk)); exact HO107.out, by repeat (first | (with_reducible first | exact HB.out | apply aY | apply aN | apply bF) | exact HB.out), by repeat (first | (with_reducible first | exact HK.out | apply Kept.alloc | apply Kept.drewN | apply Kept.drew) | exact HK.out)⟩
     ·rw [if_neg c12] at H
      exact absurd H (by simp)
    ·rw [if_neg c11] at H
     exact absurd H (by simp)
def iw.l0 : Nat → List Int → Int → Int → Int → Option (List Int × Int)
 | 0, _, _, _, _ => none
 | k + 1, x0, x1, x6, x7 => if x7 ≥ 0 then (if 0 ≤ x7 then (if x7 < (x0.length : Int) then ((ni.f x6 (rd x0 x7) x1).bind fun bt109 => (iw.l0 k (x0.set (x7 : Int).toNat bt109.1) x1 bt109.2 (wrap64 (x7 - 1)))) else (none)) else (none)) else ((cZ.f k x0).bind fun t112 => (some (t112, x6)))
def iw.f (k : Nat) (l0 : List Int) (a1 : Int) : Option (List Int × Int) := iw.l0 k l0 a1 0 (wrap64 ((l0.length : Int) - 1))
set_option maxHeartbeats 8000000 in
set_option maxRecDepth 100000 in
theorem iw.calls (k : Nat) (P0_ : Nat → Prop) (u9000_ : Value) (l0 : List Int) (a1 : Int) (r1 : List Int) (r2 : Int) (w0 w : World) (hB : Below w0.heap.size w0 w) (ho0 : Kd.R (Kd.int .u64) 22 w w0.heap.size P0_ u9000_ l0) (h : iw.f k l0 a1 = some (r1, r2)) :
  Calls Tryz.prog 173 #[u9000_, .int .u64 a1] w fun e w' => ∃ v0_ : Value, e = .returned (.tuple #[v0_, .int .u64 r2]) ∧ Kd.R (Kd.int .u64) 22 w' w0.heap.size (fun k_ => (P0_ k_ ∨ w.heap.size ≤ k_)) v0_ r1 ∧ Below w0.heap.size w0 w' ∧ Kept w w' (fun k_ => P0_ k_) := by
 have HO0 := bH.mk (show Kd.R (Kd.int .u64) 22 w w0.heap.size (fun k_ => (P0_ k_ ∨ w.heap.size ≤ k_)) u9000_ l0 from Kd.mO ho0 (fun k_ hk => (.inl hk)))
 have HK := bH.mk (Kept.refl w (fun k_ => P0_ k_))
 have HW0 := bH.mk hB.size
 have HB := bH.mk hB
 clear hB
 have H : (iw.l0 k l0 a1 0 (wrap64 ((l0.length : Int) - 1))) = some (r1, r2) := h
 clear h
 have H' := bH.mk H
 clear H
 obtain ⟨Ao3, co3, eo3⟩ := Kd.nZ HO0.out
 subst eo3
 go_enter Tryz.func173, Tryz.ntmps173
 go_wp2
 go_loopg [6, 7] k (fun kq v6 v7 w' => ∃ (x0_1 : List Int) (x6_1 : Int) (x7_1 : Int), v6 = .int .u64 x6_1 ∧ v7 = .int .i64 x7_1 ∧ bH (iw.l0 kq x0_1 a1 x6_1 x7_1 = some (r1, r2)) ∧ bH (kq ≤ k) ∧ bH (Kd.R (Kd.int .u64) 22 w' w0.heap.size (fun k_ => (P0_ k_ ∨ w.heap.size ≤ k_)) (.slice Ao3 l0.length co3) x0_1) ∧ bH (Kept w w' (fun k_ => P0_ k_)) ∧ bH (Below w0.heap.size w0 w'))
 case atStart => exact ⟨(l0), (0), (wrap64 ((l0.length : Int) - 1)), (by first | with_reducible rfl | (simp; done) | rfl | (simp [*]; done)), (by first | with_reducible rfl | (simp; done) | rfl | (simp [*]; done)), H', ⟨Nat.le_refl _⟩, ⟨by (with_reducible repeat (first | apply Kd.iC | apply Kd.iD | apply Kd.jk)); exact HO0.out⟩, ⟨by repeat (first | (with_reducible first | exact HK.out | apply Kept.alloc | apply Kept.drewN | apply Kept.drew) | exact HK.out)⟩, ⟨by repeat (first | (with_reducible first | exact HB.out | apply aY | apply aN | apply bF) | exact HB.out)⟩⟩
 case round =>
  clear H'
  try clear c1
  try clear p2
  obtain ⟨x0_1, x6_1, x7_1, rfl, rfl, HA, HK1, HO_0, HK, HB⟩ := hrel
  have hl0_1 := (Kd.mW HO_0.out).1
  rw [hl0_1] at HO_0
  (try simp only [hl0_1])
  cases gk with
  | zero => exact absurd HA.out (by simp [iw.l0])
  | succ k1 =>
   have H := HA.out
   clear HA
   simp only [iw.l0] at H
   by_cases c4 : x7_1 ≥ 0
   ·rw [if_pos c4] at H
    have c4b0 : decide (0 ≤ x7_1) = true := decide_eq_true c4
    clear c4
    by_cases c5 : 0 ≤ x7_1
    ·rw [if_pos c5] at H
     have c5b0 : decide (0 ≤ x7_1) = true := decide_eq_true c5
     clear c5
     by_cases c6 : x7_1 < (x0_1.length : Int)
     ·rw [if_pos c6] at H
      have c6b0 : decide (x7_1 < (x0_1.length : Int)) = true := decide_eq_true c6
      clear c6
      replace H := Option.bind_eq_some_iff.mp H
      obtain ⟨⟨t109, t110⟩, A70, H⟩ := H
      replace H : (iw.l0 k1 (x0_1.set (x7_1 : Int).toNat t109) a1 t110 (wrap64 (x7_1 - 1))) = some (r1, r2) := H
      have A7 := bH.mk A70
      clear A70
      obtain ⟨y111, hy111⟩ : ∃ y_ : List Int, y_ = (x0_1.set (x7_1 : Int).toNat t109) := ⟨_, rfl⟩
      replace H : (iw.l0 k1 y111 a1 t110 (wrap64 (x7_1 - 1))) = some (r1, r2) := by first | (rw [hy111]; with_reducible exact H) | (have H2_ := (Option.bind_some _ _).symm.trans H; rw [hy111]; with_reducible exact H2_) | (have H2_ := (Option.bind_some _ _).symm.trans H; with_reducible exact H2_) | with_reducible exact H | (rw [hy111]; exact H) | exact H
      have Ny111 := bH.mk hy111
      clear hy111
      have H' := bH.mk H
      clear H
      have p108 : 0 ≤ (x7_1 : Int) := of_decide_eq_true (by first | (with_reducible assumption) | assumption)
      have q108 : x7_1 < (x0_1.length : Int) := of_decide_eq_true (by first | (with_reducible assumption) | assumption)
      obtain ⟨ad108, e108, hx108_0⟩ := Kd.Du (Kd.mW HO_0.out).2.2 x7_1 p108 q108
      cases e108
      replace p108 := eq_true p108
      replace q108 := eq_true q108
      go_wp2_with (first | ((with_reducible refine lW (f := 221) rfl ?_); refine tK (some 24) rfl rfl Tryz.func221 (by kernel_rfl) rfl #[.int .u64 x6_1, .int .u64 (rd x0_1 x7_1), .int .u64 a1] rfl (by (try simp only [List.map_toArray, List.map_cons, List.map_nil]); first | done | rfl | (simp only [List.length_drop, List.length_take]; rfl)) ?_; (with_reducible refine (ni.calls x6_1 (rd x0_1 x7_1) a1 t109 t110 _ A7.out).mono ?_); rintro e w' ⟨rfl, ⟨nd, rfl⟩⟩; refine ⟨_, rfl, ?_⟩; (try (rw [Gm wr]; generalize hq_ : World.drewN wr _ = wr; have n0_ : bH (Kd.R (Kd.int .u64) 22 wr w0.heap.size (fun k_ => (P0_ k_ ∨ w.heap.size ≤ k_)) (.slice (some ad108) x0_1.length co3) x0_1) := ⟨by rw [← hq_]; exact (by (with_reducible repeat (first | apply Kd.iC | apply Kd.iD | apply Kd.jk)); exact HO_0.out)⟩; have n1_ : bH (Kept w wr (fun k_ => P0_ k_)) := ⟨by rw [← hq_]; exact (by repeat (first | (with_reducible first | exact HK.out | apply Kept.alloc | apply Kept.drewN | apply Kept.drew) | exact HK.out))⟩; have n2_ : bH (Below w0.heap.size w0 wr) := ⟨by rw [← hq_]; exact (by repeat (first | (with_reducible first | exact HB.out | apply aY | apply aN | apply bF) | exact HB.out))⟩; clear HO_0 HK HB hq_; have HO_0 := n0_; have HK := n1_; have HB := n2_; clear n0_ n1_ n2_)); have p8 : 0 ≤ (x7_1 : Int) := of_decide_eq_true (by first | (with_reducible assumption) | assumption); have q8 : (x7_1 : Int) < ((x0_1.length : Int) : Int) := of_decide_eq_true (by first | (with_reducible assumption) | assumption); obtain ⟨go8, co8, eo8, gb8, gl8, cl8, HG8⟩ := Kd.Qb HO_0.out (by omega); (first | cases eo8 | (injection eo8 with ea_ en_ ec_; (first | subst ea_ | (injection ea_ with ea_; subst ea_)); subst ec_; clear en_)); have GB8 := bH.mk gb8; have GG8 := bH.mk HG8; clear gb8 gl8 HG8; have HMgo8 := bH.mk (show (P0_ go8 ∨ w.heap.size ≤ go8) from (HO_0.out.1 _ rfl)); (first | simp only [add_plain] at hx108_0 | skip); obtain ⟨hx8_0, hf8_0⟩ := Kd.Il 0 HO_0.out (x7_1 : Int) p8 q8; replace p8 := eq_true p8; replace q8 := eq_true q8; obtain ⟨hy9_, hz9_⟩ := Kd.Il 0 HO_0.out (x7_1 : Int) (of_decide_eq_true (by first | (with_reducible assumption) | assumption)) (of_decide_eq_true (by first | (with_reducible assumption) | assumption)); have HP9 := Kd.Qg HO_0.out (x7_1 : Int) t109) | ((with_reducible refine Gz (t := 22) (p := 27) rfl ?_); refine EM (t := 22) (p := 27) (v := ?vo_w10) (w1 := (wr.setCell ⟨go8, (x7_1 : Int).toNat, none⟩ (.int .u64 t109))) ?hg ?ho ?hn ?hr ?_; (case ho => rfl); (case hg => rfl); (case hn => rfl); (case hr => first | (go_simp; done) | (go_simp; rfl)); intro w10 hw; have hg : wr.grownBy w10 (some go8) := (by rw [hw]; exact HP9.2); have hp_ : Kd.R (Kd.int .u64) 22 w10 w0.heap.size (fun k_ => (P0_ k_ ∨ w.heap.size ≤ k_)) (.slice (some ⟨go8, 0, none⟩) x0_1.length co3) y111 := (by rw [hw, Ny111.out]; exact HP9.1); clear HP9; have n0_ := bH.mk (hp_); have n1_ := bH.mk ((by rw [hw]; exact Jm (HB.out) GB8.out : Below w0.heap.size w0 w10)); have n2_ := bH.mk (Kept.LZ (S := (fun k_ => P0_ k_)) hg (by repeat (first | (with_reducible first | exact HK.out | apply Kept.alloc | apply Kept.drewN | apply Kept.drew) | exact HK.out)) (fun k_ e_ => (HO_0.out.1 k_ e_))); clear HO_0; clear HB; clear HK; have HO_0 := n0_; have HB := n1_; have HK := n2_; clear n0_ n1_ n2_; clear hg hw hp_))
      (try simp only [← hl0_1])
      go_roundg k1
      case measure => have := HK1.out; omega
      case rel => exact ⟨(y111), (t110), (wrap64 (x7_1 - 1)), (by first | with_reducible rfl | (simp; done) | rfl | (simp [*]; done)), (by first | with_reducible rfl | (simp; done) | rfl | (simp [*]; done)), H', ⟨by have := HK1.out; omega⟩, ⟨by (try simp only [hl0_1]); (with_reducible repeat (first | apply Kd.iC | apply Kd.iD | apply Kd.jk)); exact HO_0.out⟩, ⟨by repeat (first | (with_reducible first | exact HK.out | apply Kept.alloc | apply Kept.drewN | apply Kept.drew) | exact HK.out)⟩, ⟨by repeat (first | (with_reducible first | exact HB.out | apply aY | apply aN | apply bF) | exact HB.out)⟩⟩
     ·rw [if_neg c6] at H
      exact absurd H (by simp)
    ·rw [if_neg c5] at H
     exact absurd H (by simp)
   ·rw [if_neg c4] at H
    have c4b0 : decide (0 ≤ x7_1) = false := decide_eq_false c4
    clear c4
    replace H := Option.bind_eq_some_iff.mp H
    obtain ⟨t112, A110, H⟩ := H
    replace H : (some (t112, x6_1)) = some (r1, r2) := H
    have A11 := bH.mk A110
    clear A110
    simp only [Option.some.injEq, Prod.mk.injEq] at H
    obtain ⟨rfl, rfl⟩ := H
    go_wp2_with (first | ((with_reducible refine lW (f := 112) rfl ?_); refine tK (some 29) rfl rfl Tryz.func112 (by kernel_rfl) rfl #[.slice Ao3 x0_1.length co3] rfl (by (try simp only [List.map_toArray, List.map_cons, List.map_nil]); first | done | rfl | (simp only [List.length_drop, List.length_take]; rfl)) ?_; (with_reducible refine (cZ.calls k1 (fun k_ => some k_ = (.slice Ao3 x0_1.length co3 : Value).ownBlock) (.slice Ao3 x0_1.length co3) x0_1 t112 w0 _ ?side1 ?side2 A11.out).mono ?_); (case side1 => repeat (first | (with_reducible first | exact HB.out | apply aY | apply aN | apply bF) | exact HB.out)); (case side2 => exact Kd.Dh rfl HO_0.out); rintro e w12 ⟨v113, rfl, ho0, hb, hkp⟩; refine ⟨_, rfl, ?_⟩; have n0_ := bH.mk (Kd.mO (ok' := fun k_ => (P0_ k_ ∨ w.heap.size ≤ k_)) ho0 (fun k_ hk_ => Or.elim hk_ (fun hs_ => (HO_0.out.1 k_ (hs_).symm)) (fun hn_ => (.inr (Nat.le_trans (by first | exact HK.out.1 | exact (show Kept w _ (fun k_ => P0_ k_) from by repeat (first | (with_reducible first | exact HK.out | apply Kept.alloc | apply Kept.drewN | apply Kept.drew) | exact HK.out)).1) hn_))))); have n1_ := bH.mk (Kept.then_ (S := (fun k_ => P0_ k_)) (by repeat (first | (with_reducible first | exact HK.out | apply Kept.alloc | apply Kept.drewN | apply Kept.drew) | exact HK.out)) hkp (fun k_ hs_ => (fun e_ => (HO_0.out.1 k_ e_.symm)) hs_)); have n2_ := bH.mk (hb); clear HK; clear HB; clear HO_0; have HO114 := n0_; have HK := n1_; have HB := n2_; clear n0_ n1_ n2_; (try clear hb); (try clear hkp); (try clear ho0)))
    go_ret2
    exact ⟨_, by first | rfl | (simp [kT, kU] <;> rfl) | (simp [*, kT, kU] <;> rfl) | (simp [bne]; done) | (simp [*, bne]; done), by (with_reducible repeat (first | apply Kd.iC | apply Kd.iD | apply Kd.jk)); exact HO114.out, by repeat (first | (with_reducible first | exact HB.out | apply aY | apply aN | apply bF) | exact HB.out), by repeat (first | (with_reducible first | exact HK.out | apply Kept.alloc | apply Kept.drewN | apply Kept.drew) | exact HK.out)⟩
mutual
def bP.l0 : Nat → List Int → List Int → Option (ByteArray × Int)
 | 0, _, _ => none
 | k + 1, x4, x5 => if (x4.length : Int) > 0 then ((iw.f k x4 10000000000000000000).bind fun bt122 => (bP.l1 k bt122.1 x5 bt122.2 0)) else (if 0 ≤ (x5.length : Int) then (if ((x5.length : Int) : Int).toNat ≤ 281474976710656 then (bP.l2 k x5 (([] : List Int)) (x5.length : Int) 0) else (none)) else (none))
def bP.l1 : Nat → List Int → List Int → Int → Int → Option (ByteArray × Int)
 | 0, _, _, _, _ => none
 | k + 1, x4, x5, x6, x7 => if x7 < 19 then (if (x4.length : Int) > 0 then (if x5.length < 140737488355328 then (bP.l1 k x4 (x5 ++ [(IntKind.u64.wrap (48 + (Int.tmod x6 10))) % 256]) (IntKind.u64.wrap (Int.tdiv x6 10)) (wrap64 (x7 + 1))) else (none)) else (if x6 > 0 then (if x5.length < 140737488355328 then (bP.l1 k x4 (x5 ++ [(IntKind.u64.wrap (48 + (Int.tmod x6 10))) % 256]) (IntKind.u64.wrap (Int.tdiv x6 10)) (wrap64 (x7 + 1))) else (none)) else (bP.l0 k x4 x5))) else (bP.l0 k x4 x5)
def bP.l2 : Nat → List Int → List Int → Int → Int → Option (ByteArray × Int)
 | 0, _, _, _, _ => none
 | k + 1, x5, x8, x52, x53 => if x53 < x52 then (if 0 ≤ (wrap64 ((wrap64 ((x5.length : Int) - 1)) - x53)) then (if (wrap64 ((wrap64 ((x5.length : Int) - 1)) - x53)) < (x5.length : Int) then (if x8.length < 140737488355328 then (bP.l2 k x5 (x8 ++ [rd x5 (wrap64 ((wrap64 ((x5.length : Int) - 1)) - x53))]) x52 (wrap64 (x53 + 1))) else (none)) else (none)) else (none)) else (some (strOfNums x8, 0))
end
def bP.f (k : Nat) (l0 : List Int) : Option (ByteArray × Int) := (kE.f (([l0] : List (List Int)))).bind fun t118 => (if t118 = true then (some ((⟨#[]⟩ : ByteArray), 5)) else ((jd.f l0).bind fun t119 => (if (t119.length : Int) = 0 then (some ((⟨#[48]⟩ : ByteArray), 0)) else (bP.l0 k t119 ([] : List Int)))))
set_option maxHeartbeats 8000000 in
set_option maxRecDepth 100000 in
theorem bP.calls (k : Nat) (P0_ : Nat → Prop) (A0 : Option Addr) (c0 : Nat) (l0 : List Int) (r1 : ByteArray) (r2 : Int) (w : World) (hs0 : Kd.V (Kd.int .u64) 22 w w.heap.size (fun k_ => P0_ k_) (.slice A0 l0.length c0) l0) (h : bP.f k l0 = some (r1, r2)) :
  Calls Tryz.prog 90 #[.slice A0 l0.length c0] w fun e w' => e = .returned (.tuple #[.string r1, .int .i64 r2]) ∧ Below w.heap.size w w' := by
 have HO0 := bH.mk (show Kd.V (Kd.int .u64) 22 w w.heap.size (fun k_ => (P0_ k_ ∨ w.heap.size ≤ k_)) (.slice A0 l0.length c0) l0 from Kd.uP hs0 (fun k_ hk => .inl hk))
 have HB := bH.mk (Below.refl w.heap.size w)
 have H : ((kE.f (([l0] : List (List Int)))).bind fun t118 => (if t118 = true then (some ((⟨#[]⟩ : ByteArray), 5)) else ((jd.f l0).bind fun t119 => (if (t119.length : Int) = 0 then (some ((⟨#[48]⟩ : ByteArray), 0)) else (bP.l0 k t119 ([] : List Int)))))) = some (r1, r2) := h
 clear h
 obtain ⟨y115, hy115⟩ : ∃ y_ : List (List Int), y_ = (([l0] : List (List Int))) := ⟨_, rfl⟩
 replace H : ((kE.f y115).bind fun t118 => (if t118 = true then (some ((⟨#[]⟩ : ByteArray), 5)) else ((jd.f l0).bind fun t119 => (if (t119.length : Int) = 0 then (some ((⟨#[48]⟩ : ByteArray), 0)) else (bP.l0 k t119 ([] : List Int)))))) = some (r1, r2) := by first | (rw [hy115]; with_reducible exact H) | (have H2_ := (Option.bind_some _ _).symm.trans H; rw [hy115]; with_reducible exact H2_) | (have H2_ := (Option.bind_some _ _).symm.trans H; with_reducible exact H2_) | with_reducible exact H | (rw [hy115]; exact H) | exact H
 have Ny115 := bH.mk hy115
 clear hy115
 replace H := Option.bind_eq_some_iff.mp H
 obtain ⟨t118, A20, H⟩ := H
 replace H : (if t118 = true then (some ((⟨#[]⟩ : ByteArray), 5)) else ((jd.f l0).bind fun t119 => (if (t119.length : Int) = 0 then (some ((⟨#[48]⟩ : ByteArray), 0)) else (bP.l0 k t119 ([] : List Int))))) = some (r1, r2) := H
 have A2 := bH.mk A20
 clear A20
 by_cases c3 : t118 = true
 ·subst c3
  have H1 : (some ((⟨#[]⟩ : ByteArray), 5)) = some (r1, r2) := by rw [if_pos rfl] at H; exact H
  clear H
  have H := H1
  clear H1
  simp only [Option.some.injEq, Prod.mk.injEq] at H
  obtain ⟨rfl, rfl⟩ := H
  go_enter Tryz.func90, Tryz.ntmps90
  go_wp2_with (first | ((with_reducible refine wC (N := 11) rfl ?_); (try (refine nC (by rfl) ?_; dsimp only)); refine Kd.L8 (Kd.slice 22 (Kd.int .u64)) _ 73 ?hg (N' := 11) ?hd (xs := ([l0] : List (List Int))) (inner := [.slice A0 l0.length c0]) (ok := (fun k_ => (P0_ k_ ∨ w.heap.size ≤ k_))) (okp := (fun k_ => (P0_ k_ ∨ w.heap.size ≤ k_))) ?hr ?hp (fun _ hk => hk) ((show ∀ k_, w.heap.size ≤ k_ → (fun k_ => (P0_ k_ ∨ w.heap.size ≤ k_)) k_ from fun k_ hk => (.inr (Nat.le_trans (iT (by repeat (first | (with_reducible first | exact HB.out | apply aY | apply aN | apply bF) | exact HB.out))) hk))) _ (Nat.le_refl _)) (Below.refl _ _) (Nat.le_refl _) (by simp) ?_; (case hd => rfl); (case hg => rfl); (case hr => first | (go_simp; done) | (go_simp; rfl)); (case hp => exact (nM.one (show Kd.FK (Kd.slice 22 (Kd.int .u64)) _ _ l0 [.slice A0 l0.length c0] from (Kd.tV (Kd.pX (Kd.uP (ok' := (fun k_ => (P0_ k_ ∨ w.heap.size ≤ k_))) (HO0.out) (fun k_ hk => hk))).2.1 (Kd.V_F (Kd.uP (ok' := (fun k_ => (P0_ k_ ∨ w.heap.size ≤ k_))) (HO0.out) (fun k_ hk => hk))))) (nM.none _ _))); intro v116 w4 ho5 hb hg_ hnew_; clear hg_ hnew_; (first | rw [← Ny115.out] at ho5 | (simp only [Int.reduceToNat] at ho5; rw [← Ny115.out] at ho5)); have n0_ := bH.mk (Kd.tN (by (with_reducible repeat (first | apply Kd.vX | apply Kd.vY | apply Kd.zW)); exact HO0.out) (Kd.Gp ho5) hb); have n1_ := bH.mk (Kd.Dj ho5 (iT (by repeat (first | (with_reducible first | exact HB.out | apply aY | apply aN | apply bF) | exact HB.out)))); have n2_ := bH.mk (oD (by repeat (first | (with_reducible first | exact HB.out | apply aY | apply aN | apply bF) | exact HB.out)) hb); clear HO0; clear HB; have HO0 := n0_; have HO117 := n1_; have HB := n2_; clear n0_ n1_ n2_; clear hb ho5; obtain ⟨Ao6, co6, eo6⟩ := Kd.Dk HO117.out; subst eo6) | ((with_reducible refine lW (f := 111) rfl ?_); refine tK (some 12) rfl rfl Tryz.func111 (by kernel_rfl) rfl #[.slice Ao6 y115.length co6] rfl (by (try simp only [List.map_toArray, List.map_cons, List.map_nil]); first | done | rfl | (simp only [List.length_drop, List.length_take]; rfl)) ?_; (with_reducible refine (kE.calls _ _ y115 true _ ?side1 ?side2 A2.out).mono ?_); (case side1 => repeat (first | exact (Kd.qQ HO117.out).2.2 | (with_reducible refine Kd.wz ?_ _) | (with_reducible refine Kd.wB ?_ _) | (with_reducible refine Kd.z_ ?_))); (case side2 => exact (Kd.qQ HO117.out).2.1); rintro e w' ⟨rfl, ⟨nd, rfl⟩⟩; refine ⟨_, rfl, ?_⟩))
  go_ret2
  exact ⟨by first | rfl | (simp [kT, kU] <;> rfl) | (simp [*, kT, kU] <;> rfl) | (simp [bne]; done) | (simp [*, bne]; done), by repeat (first | (with_reducible first | exact HB.out | apply aY | apply aN | apply bF) | exact HB.out)⟩
 ·replace c3 := Bool.eq_false_iff.mpr c3
  subst c3
  have H1 : ((jd.f l0).bind fun t119 => (if (t119.length : Int) = 0 then (some ((⟨#[48]⟩ : ByteArray), 0)) else (bP.l0 k t119 ([] : List Int)))) = some (r1, r2) := by rw [if_neg (show ¬ (false = true) by decide)] at H; exact H
  clear H
  have H := H1
  clear H1
  replace H := Option.bind_eq_some_iff.mp H
  obtain ⟨t119, A70, H⟩ := H
  replace H : (if (t119.length : Int) = 0 then (some ((⟨#[48]⟩ : ByteArray), 0)) else (bP.l0 k t119 ([] : List Int))) = some (r1, r2) := H
  have A7 := bH.mk A70
  clear A70
  by_cases c8 : (t119.length : Int) = 0
  ·rw [if_pos c8] at H
   have c8b0 : ((t119.length : Int) == 0) = true := beq_iff_eq.mpr c8
   have c8b1 : ((t119.length : Int) != 0) = false := bne_eq_false_iff_eq.mpr c8
   clear c8
   simp only [Option.some.injEq, Prod.mk.injEq] at H
   obtain ⟨rfl, rfl⟩ := H
   go_enter Tryz.func90, Tryz.ntmps90
   go_wp2_with (first | ((with_reducible refine wC (N := 11) rfl ?_); (try (refine nC (by rfl) ?_; dsimp only)); refine Kd.L8 (Kd.slice 22 (Kd.int .u64)) _ 73 ?hg (N' := 11) ?hd (xs := ([l0] : List (List Int))) (inner := [.slice A0 l0.length c0]) (ok := (fun k_ => (P0_ k_ ∨ w.heap.size ≤ k_))) (okp := (fun k_ => (P0_ k_ ∨ w.heap.size ≤ k_))) ?hr ?hp (fun _ hk => hk) ((show ∀ k_, w.heap.size ≤ k_ → (fun k_ => (P0_ k_ ∨ w.heap.size ≤ k_)) k_ from fun k_ hk => (.inr (Nat.le_trans (iT (by repeat (first | (with_reducible first | exact HB.out | apply aY | apply aN | apply bF) | exact HB.out))) hk))) _ (Nat.le_refl _)) (Below.refl _ _) (Nat.le_refl _) (by simp) ?_; (case hd => rfl); (case hg => rfl); (case hr => first | (go_simp; done) | (go_simp; rfl)); (case hp => exact (nM.one (show Kd.FK (Kd.slice 22 (Kd.int .u64)) _ _ l0 [.slice A0 l0.length c0] from (Kd.tV (Kd.pX (Kd.uP (ok' := (fun k_ => (P0_ k_ ∨ w.heap.size ≤ k_))) (HO0.out) (fun k_ hk => hk))).2.1 (Kd.V_F (Kd.uP (ok' := (fun k_ => (P0_ k_ ∨ w.heap.size ≤ k_))) (HO0.out) (fun k_ hk => hk))))) (nM.none _ _))); intro v116 w9 ho10 hb hg_ hnew_; clear hg_ hnew_; (first | rw [← Ny115.out] at ho10 | (simp only [Int.reduceToNat] at ho10; rw [← Ny115.out] at ho10)); have n0_ := bH.mk (Kd.tN (by (with_reducible repeat (first | apply Kd.vX | apply Kd.vY | apply Kd.zW)); exact HO0.out) (Kd.Gp ho10) hb); have n1_ := bH.mk (Kd.Dj ho10 (iT (by repeat (first | (with_reducible first | exact HB.out | apply aY | apply aN | apply bF) | exact HB.out)))); have n2_ := bH.mk (oD (by repeat (first | (with_reducible first | exact HB.out | apply aY | apply aN | apply bF) | exact HB.out)) hb); clear HO0; clear HB; have HO0 := n0_; have HO117 := n1_; have HB := n2_; clear n0_ n1_ n2_; clear hb ho10; obtain ⟨Ao11, co11, eo11⟩ := Kd.Dk HO117.out; subst eo11) | ((with_reducible refine lW (f := 111) rfl ?_); refine tK (some 12) rfl rfl Tryz.func111 (by kernel_rfl) rfl #[.slice Ao11 y115.length co11] rfl (by (try simp only [List.map_toArray, List.map_cons, List.map_nil]); first | done | rfl | (simp only [List.length_drop, List.length_take]; rfl)) ?_; (with_reducible refine (kE.calls _ _ y115 false _ ?side1 ?side2 A2.out).mono ?_); (case side1 => repeat (first | exact (Kd.qQ HO117.out).2.2 | (with_reducible refine Kd.wz ?_ _) | (with_reducible refine Kd.wB ?_ _) | (with_reducible refine Kd.z_ ?_))); (case side2 => exact (Kd.qQ HO117.out).2.1); rintro e w' ⟨rfl, ⟨nd, rfl⟩⟩; refine ⟨_, rfl, ?_⟩) | ((with_reducible refine lW (f := 172) rfl ?_); refine tK (some 14) rfl rfl Tryz.func172 (by kernel_rfl) rfl #[.slice A0 l0.length c0] rfl (by (try simp only [List.map_toArray, List.map_cons, List.map_nil]); first | done | rfl | (simp only [List.length_drop, List.length_take]; rfl)) ?_; (with_reducible refine (jd.calls _ _ l0 t119 _ ?side1 ?side2 A7.out).mono ?_); (case side1 => repeat (first | exact (Kd.pX HO0.out).2.2 | (with_reducible refine Kd.wz ?_ _) | (with_reducible refine Kd.wB ?_ _) | (with_reducible refine Kd.z_ ?_))); (case side2 => exact (Kd.pX HO0.out).2.1); rintro e w12 ⟨v120, rfl, ho0, hb⟩; refine ⟨_, rfl, ?_⟩; have n0_ := bH.mk (Kd.tN (by (with_reducible repeat (first | apply Kd.vX | apply Kd.vY | apply Kd.zW)); exact HO0.out) (Kd.xg ho0) hb); have n1_ := bH.mk (Kd.EH (by (with_reducible repeat (first | apply Kd.Ig | apply Kd.Ih | apply Kd.L6)); exact HO117.out) (Kd.xg ho0) hb); have n2_ := bH.mk (Kd.vZ (Kd.Gn (M := fun k_ => (w.heap.size ≤ k_)) ho0 (iT (by repeat (first | (with_reducible first | exact HB.out | apply aY | apply aN | apply bF) | exact HB.out))) (fun k_ h_ => h_)) (iT (by repeat (first | (with_reducible first | exact HB.out | apply aY | apply aN | apply bF) | exact HB.out)))); have n3_ := bH.mk (oD (by repeat (first | (with_reducible first | exact HB.out | apply aY | apply aN | apply bF) | exact HB.out)) hb); clear HO0; clear HO117; clear HB; have HO0 := n0_; have HO117 := n1_; have HO121 := n2_; have HB := n3_; clear n0_ n1_ n2_ n3_; (try clear hb); (try clear hb2); (try clear hk); (try clear hi); (try clear ho0); obtain ⟨Ao13, co13, eo13⟩ := Kd.nZ HO121.out; subst eo13))
   go_ret2
   exact ⟨by first | rfl | (simp [kT, kU] <;> rfl) | (simp [*, kT, kU] <;> rfl) | (simp [bne]; done) | (simp [*, bne]; done), by repeat (first | (with_reducible first | exact HB.out | apply aY | apply aN | apply bF) | exact HB.out)⟩
  ·rw [if_neg c8] at H
   have c8b0 : ((t119.length : Int) == 0) = false := beq_eq_false_iff_ne.mpr c8
   have c8b1 : ((t119.length : Int) != 0) = true := bne_iff_ne.mpr c8
   have c8b2 : ¬ (t119 = []) := fun h_ => c8 (by rw [h_]; rfl)
   have H' := bH.mk H
   clear H
   go_enter Tryz.func90, Tryz.ntmps90
   go_wp2_with (first | ((with_reducible refine wC (N := 11) rfl ?_); (try (refine nC (by rfl) ?_; dsimp only)); refine Kd.L8 (Kd.slice 22 (Kd.int .u64)) _ 73 ?hg (N' := 11) ?hd (xs := ([l0] : List (List Int))) (inner := [.slice A0 l0.length c0]) (ok := (fun k_ => (P0_ k_ ∨ w.heap.size ≤ k_))) (okp := (fun k_ => (P0_ k_ ∨ w.heap.size ≤ k_))) ?hr ?hp (fun _ hk => hk) ((show ∀ k_, w.heap.size ≤ k_ → (fun k_ => (P0_ k_ ∨ w.heap.size ≤ k_)) k_ from fun k_ hk => (.inr (Nat.le_trans (iT (by repeat (first | (with_reducible first | exact HB.out | apply aY | apply aN | apply bF) | exact HB.out))) hk))) _ (Nat.le_refl _)) (Below.refl _ _) (Nat.le_refl _) (by simp) ?_; (case hd => rfl); (case hg => rfl); (case hr => first | (go_simp; done) | (go_simp; rfl)); (case hp => exact (nM.one (show Kd.FK (Kd.slice 22 (Kd.int .u64)) _ _ l0 [.slice A0 l0.length c0] from (Kd.tV (Kd.pX (Kd.uP (ok' := (fun k_ => (P0_ k_ ∨ w.heap.size ≤ k_))) (HO0.out) (fun k_ hk => hk))).2.1 (Kd.V_F (Kd.uP (ok' := (fun k_ => (P0_ k_ ∨ w.heap.size ≤ k_))) (HO0.out) (fun k_ hk => hk))))) (nM.none _ _))); intro v116 w14 ho15 hb hg_ hnew_; clear hg_ hnew_; (first | rw [← Ny115.out] at ho15 | (simp only [Int.reduceToNat] at ho15; rw [← Ny115.out] at ho15)); have n0_ := bH.mk (Kd.tN (by (with_reducible repeat (first | apply Kd.vX | apply Kd.vY | apply Kd.zW)); exact HO0.out) (Kd.Gp ho15) hb); have n1_ := bH.mk (Kd.Dj ho15 (iT (by repeat (first | (with_reducible first | exact HB.out | apply aY | apply aN | apply bF) | exact HB.out)))); have n2_ := bH.mk (oD (by repeat (first | (with_reducible first | exact HB.out | apply aY | apply aN | apply bF) | exact HB.out)) hb); clear HO0; clear HB; have HO0 := n0_; have HO117 := n1_; have HB := n2_; clear n0_ n1_ n2_; clear hb ho15; obtain ⟨Ao16, co16, eo16⟩ := Kd.Dk HO117.out; subst eo16) | ((with_reducible refine lW (f := 111) rfl ?_); refine tK (some 12) rfl rfl Tryz.func111 (by kernel_rfl) rfl #[.slice Ao16 y115.length co16] rfl (by (try simp only [List.map_toArray, List.map_cons, List.map_nil]); first | done | rfl | (simp only [List.length_drop, List.length_take]; rfl)) ?_; (with_reducible refine (kE.calls _ _ y115 false _ ?side1 ?side2 A2.out).mono ?_); (case side1 => repeat (first | exact (Kd.qQ HO117.out).2.2 | (with_reducible refine Kd.wz ?_ _) | (with_reducible refine Kd.wB ?_ _) | (with_reducible refine Kd.z_ ?_))); (case side2 => exact (Kd.qQ HO117.out).2.1); rintro e w' ⟨rfl, ⟨nd, rfl⟩⟩; refine ⟨_, rfl, ?_⟩) | ((with_reducible refine lW (f := 172) rfl ?_); refine tK (some 14) rfl rfl Tryz.func172 (by kernel_rfl) rfl #[.slice A0 l0.length c0] rfl (by (try simp only [List.map_toArray, List.map_cons, List.map_nil]); first | done | rfl | (simp only [List.length_drop, List.length_take]; rfl)) ?_; (with_reducible refine (jd.calls _ _ l0 t119 _ ?side1 ?side2 A7.out).mono ?_); (case side1 => repeat (first | exact (Kd.pX HO0.out).2.2 | (with_reducible refine Kd.wz ?_ _) | (with_reducible refine Kd.wB ?_ _) | (with_reducible refine Kd.z_ ?_))); (case side2 => exact (Kd.pX HO0.out).2.1); rintro e w17 ⟨v120, rfl, ho0, hb⟩; refine ⟨_, rfl, ?_⟩; have n0_ := bH.mk (Kd.tN (by (with_reducible repeat (first | apply Kd.vX | apply Kd.vY | apply Kd.zW)); exact HO0.out) (Kd.xg ho0) hb); have n1_ := bH.mk (Kd.EH (by (with_reducible repeat (first | apply Kd.Ig | apply Kd.Ih | apply Kd.L6)); exact HO117.out) (Kd.xg ho0) hb); have n2_ := bH.mk (Kd.vZ (Kd.Gn (M := fun k_ => (w.heap.size ≤ k_)) ho0 (iT (by repeat (first | (with_reducible first | exact HB.out | apply aY | apply aN | apply bF) | exact HB.out))) (fun k_ h_ => h_)) (iT (by repeat (first | (with_reducible first | exact HB.out | apply aY | apply aN | apply bF) | exact HB.out)))); have n3_ := bH.mk (oD (by repeat (first | (with_reducible first | exact HB.out | apply aY | apply aN | apply bF) | exact HB.out)) hb); clear HO0; clear HO117; clear HB; have HO0 := n0_; have HO117 := n1_; have HO121 := n2_; have HB := n3_; clear n0_ n1_ n2_ n3_; (try clear hb); (try clear hb2); (try clear hk); (try clear hi); (try clear ho0); obtain ⟨Ao18, co18, eo18⟩ := Kd.nZ HO121.out; subst eo18))
   go_loopg [4, 5] k (fun kq v4 v5 w' => ∃ (x4_1 : List Int) (x5_1 : List Int), bH (bP.l0 kq x4_1 x5_1 = some (r1, r2)) ∧ bH (kq ≤ k) ∧ bH (Kd.R (Kd.int .u64) 22 w' w.heap.size (fun k_ => (w.heap.size ≤ k_)) v4 x4_1) ∧ bH (Kd.R (Kd.int .u8) 5 w' w.heap.size (fun k_ => (w.heap.size ≤ k_)) v5 x5_1) ∧ bH (Below w.heap.size w w'))
   case atStart => exact ⟨(t119), (([] : List Int)), H', ⟨Nat.le_refl _⟩, ⟨by (with_reducible repeat (first | apply Kd.iC | apply Kd.iD | apply Kd.jk)); exact Kd.mO HO121.out (fun _ hk => hk.1)⟩, ⟨by first | exact Kd.EJ _ _ _ _ _ | exact Kd.QW _ _ _ _ _ | exact Kd.QV _ _ _ _ _ | exact Kd.Rf _ _ _ _ _ | exact Kd.QU _ _ _ _ _⟩, ⟨by repeat (first | (with_reducible first | exact HB.out | apply aY | apply aN | apply bF) | exact HB.out)⟩⟩
   case round =>
    clear H'
    try clear c1
    try clear p2
    try clear c3
    try clear c8
    try clear c8b0
    try clear c8b1
    try clear c8b2
    try clear c9
    try clear c11
    try clear c17
    obtain ⟨x4_1, x5_1, HA, HK1, HO_4, HO_5, HB⟩ := hrel
    cases gk with
    | zero => exact absurd HA.out (by simp [bP.l0])
    | succ k1 =>
     have H := HA.out
     clear HA
     simp only [bP.l0] at H
     by_cases c19 : (x4_1.length : Int) > 0
     ·rw [if_pos c19] at H
      have c19b0 : decide (0 < (x4_1.length : Int)) = true := decide_eq_true c19
      have c19b1 : decide (0 < x4_1.length) = true := decide_eq_true (by omega)
      have c19b2 : (0 < x4_1.length) = True := eq_true (by omega)
      clear c19
      replace H := Option.bind_eq_some_iff.mp H
      obtain ⟨⟨t122, t125⟩, A200, H⟩ := H
      replace H : (bP.l1 k1 t122 x5_1 t125 0) = some (r1, r2) := H
      have A20 := bH.mk A200
      clear A200
      have H' := bH.mk H
      clear H
      obtain ⟨Ao21, co21, eo21⟩ := Kd.nZ HO_4.out
      subst eo21
      go_wp2_with (first | ((with_reducible refine lW (f := 173) rfl ?_); refine tK (some 23) rfl rfl Tryz.func173 (by kernel_rfl) rfl #[.slice Ao21 x4_1.length co21, .int .u64 10000000000000000000] rfl (by (try simp only [List.map_toArray, List.map_cons, List.map_nil]); first | done | rfl | (simp only [List.length_drop, List.length_take]; rfl)) ?_; (with_reducible refine (iw.calls k1 (fun k_ => some k_ = (.slice Ao21 x4_1.length co21 : Value).ownBlock) (.slice Ao21 x4_1.length co21) x4_1 10000000000000000000 t122 t125 w _ ?side1 ?side2 A20.out).mono ?_); (case side1 => repeat (first | (with_reducible first | exact HB.out | apply aY | apply aN | apply bF) | exact HB.out)); (case side2 => exact Kd.Dh rfl HO_4.out); rintro e w22 ⟨v123, rfl, ho0, hb, hkp⟩; refine ⟨_, rfl, ?_⟩; have n0_ := bH.mk (Kd.mO (ok' := fun k_ => (w.heap.size ≤ k_)) (Kd.Ox ((Kd.MH HO_5.out (Kd.Dv HO_4.out) (by decide))) hkp (fun k_ hk_ hs_ => (hk_.2) hs_)) (fun k_ hk_ => hk_.1.1)); have n1_ := bH.mk (Kd.mO (ok' := fun k_ => (w.heap.size ≤ k_)) ho0 (fun k_ hk_ => Or.elim hk_ (fun hs_ => (HO_4.out.1 k_ (hs_).symm)) (fun hn_ => (Nat.le_trans (iT (by repeat (first | (with_reducible first | exact HB.out | apply aY | apply aN | apply bF) | exact HB.out))) hn_)))); have n2_ := bH.mk (hb); clear HO_5; clear HB; clear HO_4; have HO_5 := n0_; have HO124 := n1_; have HB := n2_; clear n0_ n1_ n2_; (try clear hb); (try clear hkp); (try clear ho0)))
      go_loopg [5, 6, 7] k1 (fun kq v5 v6 v7 w' => ∃ (x5_2 : List Int) (x6_2 : Int) (x7_2 : Int), v6 = .int .u64 x6_2 ∧ v7 = .int .i64 x7_2 ∧ bH (bP.l1 kq t122 x5_2 x6_2 x7_2 = some (r1, r2)) ∧ bH (kq ≤ k1) ∧ bH (Kd.R (Kd.int .u64) 22 w' w.heap.size (fun k_ => (w.heap.size ≤ k_)) v123 t122) ∧ bH (Kd.R (Kd.int .u8) 5 w' w.heap.size (fun k_ => (w.heap.size ≤ k_)) v5 x5_2) ∧ bH (Below w.heap.size w w'))
      case atStart => exact ⟨(x5_1), (t125), (0), (by first | with_reducible rfl | (simp; done) | rfl | (simp [*]; done)), (by first | with_reducible rfl | (simp; done) | rfl | (simp [*]; done)), H', ⟨Nat.le_refl _⟩, ⟨by (with_reducible repeat (first | apply Kd.iC | apply Kd.iD | apply Kd.jk)); exact HO124.out⟩, ⟨by (with_reducible repeat (first | apply Kd.iC | apply Kd.iD | apply Kd.jk)); exact HO_5.out⟩, ⟨by repeat (first | (with_reducible first | exact HB.out | apply aY | apply aN | apply bF) | exact HB.out)⟩⟩
      case round =>
       clear H'
       try clear c1
       try clear p2
       try clear c3
       try clear c8
       try clear c8b0
       try clear c8b1
       try clear c8b2
       try clear c9
       try clear c11
       try clear c17
       try clear c19
       try clear c19b0
       try clear c19b1
       try clear c19b2
       try clear p2
       obtain ⟨x5_2, x6_2, x7_2, rfl, rfl, HA, HK2, HO_4, HO_5, HB⟩ := hrel
       cases gk with
       | zero => exact absurd HA.out (by simp [bP.l1])
       | succ k2 =>
        have H := HA.out
        clear HA
        simp only [bP.l1] at H
        by_cases c23 : x7_2 < 19
        ·rw [if_pos c23] at H
         have c23b0 : decide (x7_2 < 19) = true := decide_eq_true c23
         clear c23
         by_cases c24 : (t122.length : Int) > 0
         ·rw [if_pos c24] at H
          have c24b0 : decide (0 < (t122.length : Int)) = true := decide_eq_true c24
          have c24b1 : decide (0 < t122.length) = true := decide_eq_true (by omega)
          have c24b2 : (0 < t122.length) = True := eq_true (by omega)
          clear c24
          by_cases c25 : x5_2.length < 140737488355328
          ·rw [if_pos c25] at H
           have LMc25 := bH.mk c25
           clear c25
           obtain ⟨y126, hy126⟩ : ∃ y_ : List Int, y_ = (x5_2 ++ [(IntKind.u64.wrap (48 + (Int.tmod x6_2 10))) % 256]) := ⟨_, rfl⟩
           replace H : (bP.l1 k2 t122 y126 (IntKind.u64.wrap (Int.tdiv x6_2 10)) (wrap64 (x7_2 + 1))) = some (r1, r2) := by first | (rw [hy126]; with_reducible exact H) | (have H2_ := (Option.bind_some _ _).symm.trans H; rw [hy126]; with_reducible exact H2_) | (have H2_ := (Option.bind_some _ _).symm.trans H; with_reducible exact H2_) | with_reducible exact H | (rw [hy126]; exact H) | exact H
           have Ny126 := bH.mk hy126
           clear hy126
           have H' := bH.mk H
           clear H
           obtain ⟨Ao26, co26, eo26⟩ := Kd.nZ HO_4.out
           subst eo26
           go_wp2_with (first | ((with_reducible refine rM (b := .append) (xs := #[.tmp 39, .tmp 44]) rfl ?_); (try (refine nC (by rfl) ?_; dsimp only)); at_builtin; refine Kd.zY (Kd.int .u8) (w0 := w) w.heap.size rfl (.tmp 39) (.tmp 44) 64 5 (.int .u8 0) 1 rfl Tryz.underlying64 info5 rfl (by decide) (by omega) u5 x5_2 ((IntKind.u64.wrap (48 + (Int.tmod x6_2 10))) % 256) [.int .u8 ((IntKind.u64.wrap (48 + (Int.tmod x6_2 10))) % 256)] (fun k_ => (w.heap.size ≤ k_)) (fun _ => False) rfl rfl ?aP (fun _ hk => hk.elim) ?aF ?aO ?aB ?aS ?aL ?_; (case aP => exact rfl); (case aB => exact (by repeat (first | (with_reducible first | exact HB.out | apply aY | apply aN | apply bF) | exact HB.out))); (case aF => exact (fun k_ hk => (Nat.le_trans (iT (by repeat (first | (with_reducible first | exact HB.out | apply aY | apply aN | apply bF) | exact HB.out))) hk))); (case aO => exact (by (with_reducible repeat (first | apply Kd.iC | apply Kd.iD | apply Kd.jk)); exact HO_5.out)); (case aS => exact (iT (by repeat (first | (with_reducible first | exact HB.out | apply aY | apply aN | apply bF) | exact HB.out)))); (case aL => have := LMc25.out; omega); intro v127 w27 ho hb hg hat; rw [← Ny126.out] at ho; have n0_ := bH.mk (Kd.Ik (by (with_reducible repeat (first | apply Kd.iC | apply Kd.iD | apply Kd.jk)); exact HO_4.out) (Kd.Dv (by (with_reducible repeat (first | apply Kd.iC | apply Kd.iD | apply Kd.jk)); exact HO_5.out)) (by decide) hg); have n1_ := bH.mk (hb); have n2_ := bH.mk (ho); clear HO_4; clear HB; clear HO_5; have HO_4 := n0_; have HB := n1_; have HO128 := n2_; clear n0_ n1_ n2_; clear ho hb hg hat))
           go_roundg k2
           case measure => have := HK1.out; have := HK2.out; omega
           case rel => exact ⟨(y126), (IntKind.u64.wrap (Int.tdiv x6_2 10)), (wrap64 (x7_2 + 1)), (by first | with_reducible rfl | (simp; done) | rfl | (simp [*]; done)), (by first | with_reducible rfl | (simp; done) | rfl | (simp [*]; done)), H', ⟨by have := HK1.out; have := HK2.out; omega⟩, ⟨by (with_reducible repeat (first | apply Kd.iC | apply Kd.iD | apply Kd.jk)); exact HO_4.out⟩, ⟨by (with_reducible repeat (first | apply Kd.iC | apply Kd.iD | apply Kd.jk)); exact HO128.out⟩, ⟨by repeat (first | (with_reducible first | exact HB.out | apply aY | apply aN | apply bF) | exact HB.out)⟩⟩
          ·rw [if_neg c25] at H
           exact absurd H (by simp)
         ·rw [if_neg c24] at H
          have c24b0 : decide (0 < (t122.length : Int)) = false := decide_eq_false c24
          have c24b1 : decide (0 < t122.length) = false := decide_eq_false (by omega)
          have c24b2 : (0 < t122.length) = False := eq_false (by omega)
          clear c24
          by_cases c28 : x6_2 > 0
          ·rw [if_pos c28] at H
           have c28b0 : decide (0 < x6_2) = true := decide_eq_true c28
           clear c28
           by_cases c29 : x5_2.length < 140737488355328
           ·rw [if_pos c29] at H
            have LMc29 := bH.mk c29
            clear c29
            obtain ⟨y129, hy129⟩ : ∃ y_ : List Int, y_ = (x5_2 ++ [(IntKind.u64.wrap (48 + (Int.tmod x6_2 10))) % 256]) := ⟨_, rfl⟩
            replace H : (bP.l1 k2 t122 y129 (IntKind.u64.wrap (Int.tdiv x6_2 10)) (wrap64 (x7_2 + 1))) = some (r1, r2) := by first | (rw [hy129]; with_reducible exact H) | (have H2_ := (Option.bind_some _ _).symm.trans H; rw [hy129]; with_reducible exact H2_) | (have H2_ := (Option.bind_some _ _).symm.trans H; with_reducible exact H2_) | with_reducible exact H | (rw [hy129]; exact H) | exact H
            have Ny129 := bH.mk hy129
            clear hy129
            have H' := bH.mk H
            clear H
            obtain ⟨Ao30, co30, eo30⟩ := Kd.nZ HO_4.out
            subst eo30
            go_wp2_with (first | ((with_reducible refine rM (b := .append) (xs := #[.tmp 39, .tmp 44]) rfl ?_); (try (refine nC (by rfl) ?_; dsimp only)); at_builtin; refine Kd.zY (Kd.int .u8) (w0 := w) w.heap.size rfl (.tmp 39) (.tmp 44) 64 5 (.int .u8 0) 1 rfl Tryz.underlying64 info5 rfl (by decide) (by omega) u5 x5_2 ((IntKind.u64.wrap (48 + (Int.tmod x6_2 10))) % 256) [.int .u8 ((IntKind.u64.wrap (48 + (Int.tmod x6_2 10))) % 256)] (fun k_ => (w.heap.size ≤ k_)) (fun _ => False) rfl rfl ?aP (fun _ hk => hk.elim) ?aF ?aO ?aB ?aS ?aL ?_; (case aP => exact rfl); (case aB => exact (by repeat (first | (with_reducible first | exact HB.out | apply aY | apply aN | apply bF) | exact HB.out))); (case aF => exact (fun k_ hk => (Nat.le_trans (iT (by repeat (first | (with_reducible first | exact HB.out | apply aY | apply aN | apply bF) | exact HB.out))) hk))); (case aO => exact (by (with_reducible repeat (first | apply Kd.iC | apply Kd.iD | apply Kd.jk)); exact HO_5.out)); (case aS => exact (iT (by repeat (first | (with_reducible first | exact HB.out | apply aY | apply aN | apply bF) | exact HB.out)))); (case aL => have := LMc29.out; omega); intro v130 w31 ho hb hg hat; rw [← Ny129.out] at ho; have n0_ := bH.mk (Kd.Ik (by (with_reducible repeat (first | apply Kd.iC | apply Kd.iD | apply Kd.jk)); exact HO_4.out) (Kd.Dv (by (with_reducible repeat (first | apply Kd.iC | apply Kd.iD | apply Kd.jk)); exact HO_5.out)) (by decide) hg); have n1_ := bH.mk (hb); have n2_ := bH.mk (ho); clear HO_4; clear HB; clear HO_5; have HO_4 := n0_; have HB := n1_; have HO131 := n2_; clear n0_ n1_ n2_; clear ho hb hg hat))
            go_roundg k2
            case measure => have := HK1.out; have := HK2.out; omega
            case rel => exact ⟨(y129), (IntKind.u64.wrap (Int.tdiv x6_2 10)), (wrap64 (x7_2 + 1)), (by first | with_reducible rfl | (simp; done) | rfl | (simp [*]; done)), (by first | with_reducible rfl | (simp; done) | rfl | (simp [*]; done)), H', ⟨by have := HK1.out; have := HK2.out; omega⟩, ⟨by (with_reducible repeat (first | apply Kd.iC | apply Kd.iD | apply Kd.jk)); exact HO_4.out⟩, ⟨by (with_reducible repeat (first | apply Kd.iC | apply Kd.iD | apply Kd.jk)); exact HO131.out⟩, ⟨by repeat (first | (with_reducible first | exact HB.out | apply aY | apply aN | apply bF) | exact HB.out)⟩⟩
           ·rw [if_neg c29] at H
            exact absurd H (by simp)
          ·rw [if_neg c28] at H
           have c28b0 : decide (0 < x6_2) = false := decide_eq_false c28
           clear c28
           have H' := bH.mk H
           clear H
           obtain ⟨Ao32, co32, eo32⟩ := Kd.nZ HO_4.out
           subst eo32
           go_wp2
           go_roundg k2
           case measure => have := HK1.out; have := HK2.out; omega
           case rel => exact ⟨(t122), (x5_2), H', ⟨by have := HK1.out; have := HK2.out; omega⟩, ⟨by (with_reducible repeat (first | apply Kd.iC | apply Kd.iD | apply Kd.jk)); exact HO_4.out⟩, ⟨by (with_reducible repeat (first | apply Kd.iC | apply Kd.iD | apply Kd.jk)); exact HO_5.out⟩, ⟨by repeat (first | (with_reducible first | exact HB.out | apply aY | apply aN | apply bF) | exact HB.out)⟩⟩
        ·rw [if_neg c23] at H
         have c23b0 : decide (x7_2 < 19) = false := decide_eq_false c23
         clear c23
         have H' := bH.mk H
         clear H
         go_wp2
         go_roundg k2
         case measure => have := HK1.out; have := HK2.out; omega
         case rel => exact ⟨(t122), (x5_2), H', ⟨by have := HK1.out; have := HK2.out; omega⟩, ⟨by (with_reducible repeat (first | apply Kd.iC | apply Kd.iD | apply Kd.jk)); exact HO_4.out⟩, ⟨by (with_reducible repeat (first | apply Kd.iC | apply Kd.iD | apply Kd.jk)); exact HO_5.out⟩, ⟨by repeat (first | (with_reducible first | exact HB.out | apply aY | apply aN | apply bF) | exact HB.out)⟩⟩
     ·rw [if_neg c19] at H
      have c19b0 : decide (0 < (x4_1.length : Int)) = false := decide_eq_false c19
      have c19b1 : decide (0 < x4_1.length) = false := decide_eq_false (by omega)
      have c19b2 : (0 < x4_1.length) = False := eq_false (by omega)
      clear c19
      by_cases c33 : 0 ≤ (x5_1.length : Int)
      ·rw [if_pos c33] at H
       have c33b0 := eq_true c33
       have c33b1 : decide (0 ≤ (x5_1.length : Int)) = true := decide_eq_true c33
       clear c33
       by_cases c34 : ((x5_1.length : Int) : Int).toNat ≤ 281474976710656
       ·rw [if_pos c34] at H
        have c34b0 := eq_true c34
        have c34b1 : decide (((x5_1.length : Int) : Int).toNat ≤ 281474976710656) = true := decide_eq_true c34
        clear c34
        obtain ⟨y135, hy135⟩ : ∃ y_ : List Int, y_ = (([] : List Int)) := ⟨_, rfl⟩
        replace H : (bP.l2 k1 x5_1 y135 (x5_1.length : Int) 0) = some (r1, r2) := by first | (rw [hy135]; with_reducible exact H) | (have H2_ := (Option.bind_some _ _).symm.trans H; rw [hy135]; with_reducible exact H2_) | (have H2_ := (Option.bind_some _ _).symm.trans H; with_reducible exact H2_) | with_reducible exact H | (rw [hy135]; exact H) | exact H
        have Ny135 := bH.mk hy135
        clear hy135
        have H' := bH.mk H
        clear H
        obtain ⟨Ao35, co35, eo35⟩ := Kd.nZ HO_4.out
        subst eo35
        obtain ⟨Ao36, co36, eo36⟩ := Kd.nZ HO_5.out
        subst eo36
        go_wp2_with (first | ((with_reducible refine wC (N := 50) rfl ?_); (try (refine nC (by rfl) ?_; dsimp only)); refine Kd.Nz (Kd.int .u8) _ 5 rfl (N := 50) rfl 64 _ _ rfl (x5_1.length : Int) rfl rfl Tryz.underlying64 (.int .u8 0) 1 info5 rfl (by decide) (by omega) 0 (ok := fun _ => True) (okp := fun _ => True) rfl (fun _ hk => hk) trivial (of_decide_eq_true (by first | (with_reducible assumption) | assumption)) (Nat.le_trans (Nat.mul_le_mul_right _ (of_decide_eq_true (by first | (with_reducible assumption) | assumption) : (x5_1.length : Int).toNat ≤ 281474976710656)) (by omega)) (Below.refl _ _) (Nat.le_refl _) ?_; intro v136 w37 ho38 hb hg_ hnew_; clear hg_ hnew_; (first | rw [← Ny135.out] at ho38 | (simp only [Int.reduceToNat] at ho38; rw [← Ny135.out] at ho38)); have n0_ := bH.mk (Kd.yA (by (with_reducible repeat (first | apply Kd.iC | apply Kd.iD | apply Kd.jk)); exact HO_4.out) hb); have n1_ := bH.mk (Kd.MI (by (with_reducible repeat (first | apply Kd.iC | apply Kd.iD | apply Kd.jk)); exact HO_5.out) (Kd.xg ho38) hb); have n2_ := bH.mk (Kd.vZ (Kd.Qe (Kd.Gn (M := fun k_ => (w.heap.size ≤ k_)) ho38 (iT (by repeat (first | (with_reducible first | exact HB.out | apply aY | apply aN | apply bF) | exact HB.out))) (fun k_ h_ => h_)) (Kd.Qa (by (with_reducible repeat (first | apply Kd.iC | apply Kd.iD | apply Kd.jk)); exact HO_5.out))) (iT (by repeat (first | (with_reducible first | exact HB.out | apply aY | apply aN | apply bF) | exact HB.out)))); have n3_ := bH.mk (oD (by repeat (first | (with_reducible first | exact HB.out | apply aY | apply aN | apply bF) | exact HB.out)) hb); clear HO_4; clear HO_5; clear HB; have HO_4 := n0_; have HO_5 := n1_; have HO137 := n2_; have HB := n3_; clear n0_ n1_ n2_ n3_; clear hb ho38))
        go_loopg [8, 53] k1 (fun kq v8 v53 w' => ∃ (x8_2 : List Int) (x53_2 : Int), v53 = .int .i64 x53_2 ∧ bH (bP.l2 kq x5_1 x8_2 (x5_1.length : Int) x53_2 = some (r1, r2)) ∧ bH (kq ≤ k1) ∧ bH (Kd.R (Kd.int .u8) 5 w' w.heap.size (fun k_ => (w.heap.size ≤ k_) ∧ some k_ ≠ (v8 : Value).ownBlock) (.slice Ao36 x5_1.length co36) x5_1) ∧ bH (Kd.R (Kd.int .u8) 5 w' w.heap.size (fun k_ => (w.heap.size ≤ k_) ∧ some k_ ≠ ((.slice Ao36 x5_1.length co36) : Value).ownBlock) v8 x8_2) ∧ bH (Below w.heap.size w w'))
        case atStart => exact ⟨(y135), (0), (by first | with_reducible rfl | (simp; done) | rfl | (simp [*]; done)), H', ⟨Nat.le_refl _⟩, ⟨by (with_reducible repeat (first | apply Kd.iC | apply Kd.iD | apply Kd.jk)); exact HO_5.out⟩, ⟨by (with_reducible repeat (first | apply Kd.iC | apply Kd.iD | apply Kd.jk)); exact Kd.mO HO137.out (fun _ hk => ⟨hk.1.1, hk.2⟩)⟩, ⟨by repeat (first | (with_reducible first | exact HB.out | apply aY | apply aN | apply bF) | exact HB.out)⟩⟩
        case round =>
         clear H'
         try clear c1
         try clear c2
         try clear p2
         try clear c3
         try clear p6
         try clear c8
         try clear c8b0
         try clear c8b1
         try clear c8b2
         try clear c9
         try clear c11
         try clear c17
         try clear c19
         try clear c19b0
         try clear c19b1
         try clear c19b2
         try clear c23
         try clear c23b0
         try clear c24
         try clear c24b0
         try clear c24b1
         try clear c24b2
         try clear c25
         try clear c28
         try clear c28b0
         try clear c29
         try clear c33
         try clear c33b0
         try clear c33b1
         try clear c34
         try clear c34b0
         try clear c34b1
         try clear p2
         obtain ⟨x8_2, x53_2, rfl, HA, HK2, HO_5, HO_8, HB⟩ := hrel
         cases gk with
         | zero => exact absurd HA.out (by simp [bP.l2])
         | succ k2 =>
          have H := HA.out
          clear HA
          simp only [bP.l2] at H
          by_cases c39 : x53_2 < (x5_1.length : Int)
          ·rw [if_pos c39] at H
           have c39b0 : decide (x53_2 < (x5_1.length : Int)) = true := decide_eq_true c39
           clear c39
           obtain ⟨ji40, hji40⟩ : ∃ j_ : Int, (wrap64 ((wrap64 ((x5_1.length : Int) - 1)) - x53_2)) = j_ := ⟨_, rfl⟩
           replace H : (if 0 ≤ (ji40) then (if (ji40) < (x5_1.length : Int) then (if x8_2.length < 140737488355328 then (bP.l2 k2 x5_1 (x8_2 ++ [rd x5_1 (ji40)]) (x5_1.length : Int) (wrap64 (x53_2 + 1))) else (none)) else (none)) else (none)) = some (r1, r2) := by first | (rw [hji40] at H; exact H) | (simp only [hji40] at H ⊢; exact H)
           have hji40w : (IntKind.i64.wrap ((wrap64 ((x5_1.length : Int) - 1)) - x53_2)) = ji40 := (OV _).trans hji40
           by_cases c41 : 0 ≤ (ji40)
           ·rw [if_pos c41] at H
            have c41b0 : decide (0 ≤ (ji40)) = true := decide_eq_true c41
            clear c41
            by_cases c42 : (ji40) < (x5_1.length : Int)
            ·rw [if_pos c42] at H
             have c42b0 : decide ((ji40) < (x5_1.length : Int)) = true := decide_eq_true c42
             clear c42
             by_cases c43 : x8_2.length < 140737488355328
             ·rw [if_pos c43] at H
              have LMc43 := bH.mk c43
              clear c43
              obtain ⟨y139, hy139⟩ : ∃ y_ : List Int, y_ = (x8_2 ++ [rd x5_1 (ji40)]) := ⟨_, rfl⟩
              replace H : (bP.l2 k2 x5_1 y139 (x5_1.length : Int) (wrap64 (x53_2 + 1))) = some (r1, r2) := by first | (rw [hy139]; with_reducible exact H) | (have H2_ := (Option.bind_some _ _).symm.trans H; rw [hy139]; with_reducible exact H2_) | (have H2_ := (Option.bind_some _ _).symm.trans H; with_reducible exact H2_) | with_reducible exact H | (rw [hy139]; exact H) | exact H
              have Ny139 := bH.mk hy139
              clear hy139
              have H' := bH.mk H
              clear H
              have p138 : 0 ≤ ((ji40) : Int) := of_decide_eq_true (by first | (with_reducible assumption) | assumption)
              have q138 : (ji40) < (x5_1.length : Int) := of_decide_eq_true (by first | (with_reducible assumption) | assumption)
              obtain ⟨ad138, e138, hx138_0⟩ := Kd.Du (Kd.mW HO_5.out).2.2 (ji40) p138 q138
              cases e138
              replace p138 := eq_true p138
              replace q138 := eq_true q138
              go_wp2_with (first | ((with_reducible refine rM (b := .append) (xs := #[.tmp 56, .tmp 65]) rfl ?_); (try (refine nC (by rfl) ?_; dsimp only)); at_builtin; refine Kd.zY (Kd.int .u8) (w0 := w) w.heap.size rfl (.tmp 56) (.tmp 65) 64 5 (.int .u8 0) 1 rfl Tryz.underlying64 info5 rfl (by decide) (by omega) u8 x8_2 (rd x5_1 (ji40)) [.int .u8 (rd x5_1 (ji40))] (fun k_ => (w.heap.size ≤ k_) ∧ some k_ ≠ (.slice (some ad138) x5_1.length co36 : Value).ownBlock) (fun _ => False) rfl rfl ?aP (fun _ hk => hk.elim) ?aF ?aO ?aB ?aS ?aL ?_; (case aP => exact rfl); (case aB => exact (by repeat (first | (with_reducible first | exact HB.out | apply aY | apply aN | apply bF) | exact HB.out))); (case aF => exact (fun k_ hk => ⟨(Nat.le_trans (iT (by repeat (first | (with_reducible first | exact HB.out | apply aY | apply aN | apply bF) | exact HB.out))) hk), Kd.fresh' (Kd.Qa (by (with_reducible repeat (first | apply Kd.iC | apply Kd.iD | apply Kd.jk)); exact HO_5.out)) k_ hk⟩)); (case aO => exact (by (with_reducible repeat (first | apply Kd.iC | apply Kd.iD | apply Kd.jk)); exact HO_8.out)); (case aS => exact (iT (by repeat (first | (with_reducible first | exact HB.out | apply aY | apply aN | apply bF) | exact HB.out)))); (case aL => have := LMc43.out; omega); intro v140 w44 ho hb hg hat; rw [← Ny139.out] at ho; have n0_ := bH.mk (Kd.OH (ok := (fun k_ => (w.heap.size ≤ k_))) (by (with_reducible repeat (first | apply Kd.iC | apply Kd.iD | apply Kd.jk)); exact HO_5.out) hg hat); have n1_ := bH.mk (hb); have n2_ := bH.mk (ho); clear HO_5; clear HB; clear HO_8; have HO_5 := n0_; have HB := n1_; have HO141 := n2_; clear n0_ n1_ n2_; clear ho hb hg hat))
              go_roundg k2
              case measure => have := HK1.out; have := HK2.out; omega
              case rel => exact ⟨(y139), (wrap64 (x53_2 + 1)), (by first | with_reducible rfl | (simp; done) | rfl | (simp [*]; done)), H', ⟨by have := HK1.out; have := HK2.out; omega⟩, ⟨by (with_reducible repeat (first | apply Kd.iC | apply Kd.iD | apply Kd.jk)); exact HO_5.out⟩, ⟨by (with_reducible repeat (first | apply Kd.iC | apply Kd.iD | apply Kd.jk)); exact HO141.out⟩, ⟨by repeat (first | (with_reducible first | exact HB.out | apply aY | apply aN | apply bF) | exact HB.out)⟩⟩
             ·rw [if_neg c43] at H
              exact absurd H (by simp)
            ·rw [if_neg c42] at H
             exact absurd H (by simp)
           ·rw [if_neg c41] at H
            exact absurd H (by simp)
          ·rw [if_neg c39] at H
           have c39b0 : decide (x53_2 < (x5_1.length : Int)) = false := decide_eq_false c39
           clear c39
           simp only [Option.some.injEq, Prod.mk.injEq] at H
           obtain ⟨rfl, rfl⟩ := H
           have hcv45 := Gu (P := Tryz.prog) Tryz.underlying64 Tryz.underlying5 Tryz.underlying9 (Kd.tX HO_8.out)
           go_wp2
           go_ret2
           exact ⟨by first | rfl | (simp [kT, kU] <;> rfl) | (simp [*, kT, kU] <;> rfl) | (simp [bne]; done) | (simp [*, bne]; done), by repeat (first | (with_reducible first | exact HB.out | apply aY | apply aN | apply bF) | exact HB.out)⟩
       ·rw [if_neg c34] at H
        exact absurd H (by simp)
      ·rw [if_neg c33] at H
       exact absurd H (by simp)
end Go.Proofs.YtafikkmnkeddpaaGreatDoor.Q
namespace Go.Proofs.YtafikkmnkeddpaaGreatDoor.P
open Go.RowKit Go.Proofs.YtafikkmnkeddpaaGreatDoorW.PrintWords Go.Proofs.YtafikkmnkeddpaaGreatDoorW.PrintLast Go.Proofs.YtafikkmnkeddpaaGreatDoorW.PrintMore
theorem w64 {x : Int} (h1 : -9223372036854775808 ≤ x) (h2 : x ≤ 9223372036854775807) : wrap64 x = x := by unfold wrap64; omega
theorem wu64 {x : Int} (h1 : 0 ≤ x) (h2 : x < 18446744073709551616) : IntKind.u64.wrap x = x := by
 simp only [IntKind.wrap, IntKind.bits, IntKind.signed]
 simp
 omega
theorem Ev.one {α : Type} {g : Nat → Option α} {r : α} (h : ∀ k, g (k + 1) = some r) : Ev g r := Ev.step (f := fun _ => some r) h (Ev.now r)
theorem Ev.pos {α : Type} {c : Prop} [Decidable c] {f g : Nat → Option α} {r : α} (h : c) (k : Ev f r) : Ev (fun n => if c then f n else g n) r := Ev.congr (fun n => if_pos h) k
theorem Ev.neg {α : Type} {c : Prop} [Decidable c] {f g : Nat → Option α} {r : α} (h : ¬ c) (k : Ev g r) : Ev (fun n => if c then f n else g n) r := Ev.congr (fun n => if_neg h) k
theorem zy (xs : List Nat) (i : Nat) : rd (toI xs) (i : Int) = (xs.getD i 0 : Nat) := by
 unfold rd toI
 rw [Int.toNat_natCast, List.getD_eq_getElem?_getD, List.getD_eq_getElem?_getD, List.getElem?_map]
 cases xs[i]? <;> rfl
theorem Np (xs : List Nat) (i v : Nat) : (toI xs).set ((i : Int)).toNat (v : Int) = toI (xs.set i v) := by
 unfold toI
 rw [Int.toNat_natCast, List.map_set]
theorem Kw (v : Nat) : wI v = toI (toW v) := rfl
theorem Fg {k : Nat} (h : k < 1000000000000000000) : wrap64 ((k : Int) + 1) = ((k + 1 : Nat) : Int) := by rw [w64 (by omega) (by omega)]; omega
theorem Ky {s : Nat} (h : s < 18446744073709551616) : IntKind.u64.wrap (s : Int) = (s : Int) := wu64 (by omega) (by omega)
theorem zA (xs : List Nat) (x : Nat) : toI xs ++ [(x : Int)] = toI (xs ++ [x]) := by unfold toI; rw [List.map_append]; rfl
end Go.Proofs.YtafikkmnkeddpaaGreatDoor.P
namespace Go.Proofs.YtafikkmnkeddpaaGreatDoor.P
open Go.RowKit Go.Proofs.YtafikkmnkeddpaaGreatDoorW.PrintWords Go.Proofs.YtafikkmnkeddpaaGreatDoorW.PrintLast Go.Proofs.YtafikkmnkeddpaaGreatDoorW.PrintMore
theorem Et (xs : List Nat) (n : Nat) : (toI xs).take n = toI (xs.take n) := by unfold toI; rw [List.map_take]
theorem Oo {xs : List Nat} (hw : Wd xs) (hl : xs.length ≤ 1000000000) (n : Nat) (hn : n ≤ xs.length) (hz : ∀ k, n ≤ k → xs.getD k 0 = 0) : Ev (fun k => Q.cZ.l0 k (toI xs) (n : Int)) (wI (val xs)) := by
 induction n with
 | zero =>
  refine Ev.one fun k => ?_
  rw [Q.cZ.l0, if_neg (by omega), if_pos (by omega), kH, if_pos (by omega), Int.toNat_natCast, Et, pG hw 0 hn hz (.inl rfl)]
  rfl
 | succ n ih =>
  have e : wrap64 (((n + 1 : Nat) : Int) - 1) = (n : Int) := by rw [w64 (by omega) (by omega)]; omega
  by_cases h0 : xs.getD n 0 = 0
  ·refine Ev.step (f := fun k => Q.cZ.l0 k (toI xs) (n : Int)) (fun k => ?_) (ih (by omega) fun k hk => ?_)
   ·rw [Q.cZ.l0, if_pos (by omega), e, if_pos (by omega), kH, if_pos (by omega), zy, if_pos (by rw [h0]; rfl)]
   ·rcases Nat.lt_or_ge n k with h1 | h1
    ·exact hz k h1
    ·rw [show k = n by omega]; exact h0
  ·refine Ev.one fun k => ?_
   rw [Q.cZ.l0, if_pos (by omega), e, if_pos (by omega), kH, if_pos (by omega), zy, if_neg (by omega), if_pos (by omega), if_pos (by omega), Int.toNat_natCast, Et, pG hw (n + 1) hn hz (.inr (by simpa using h0))]
   rfl
theorem PY {xs : List Nat} (hw : Wd xs) (hl : xs.length ≤ 1000000000) : Ev (fun k => Q.cZ.f k (toI xs)) (wI (val xs)) := by
 unfold Q.cZ.f
 have := Oo hw hl xs.length (Nat.le_refl _) (fun k hk => by rw [List.getD_eq_getElem?_getD, List.getElem?_eq_none hk]; rfl)
 rw [kH]
 exact this
theorem Oq {zs : List Nat} {k : Nat} (h : k < zs.length) (v : Nat) : val (zs.set k v) + WB ^ k * zs.getD k 0 = val zs + WB ^ k * v := by
 have h1 := kZ (zs.set k v) (k + 1)
 have h2 := kZ zs (k + 1)
 rw [jD _ _ _ h, vJ (ys := zs) (by rw [List.length_set]) (k + 1) (fun j hj => getD_set_ne _ _ _ _ (by omega))] at h1
 rw [dG] at h2
 omega
theorem Je {H N P V V' Dl d t r X : Nat} (ht : t = r * H + d) (h1 : V' + P * d = V + P * (t / N)) (h3 : X + (Dl + P * d) * N = V * N + r * (P * H) + (Dl + P * d)) : X + Dl * N = V' * N + t % N * P + Dl := by
 have e1 := Nat.mod_add_div t N
 have e2 : P * (t % N) + P * (N * (t / N)) = P * (r * H) + P * d := by rw [← Nat.mul_add, e1, ht, Nat.mul_add]
 have e3 : P * (N * (t / N)) = P * (t / N) * N := by rw [Nat.mul_comm N, Nat.mul_assoc]
 have e4 : r * (P * H) = P * (r * H) := Nat.mul_left_comm _ _ _
 have e5 : t % N * P = P * (t % N) := Nat.mul_comm _ _
 have e6 : V' * N + P * d * N = V * N + P * (t / N) * N := by rw [← Nat.add_mul, h1, Nat.add_mul]
 have e7 : (Dl + P * d) * N = Dl * N + P * d * N := Nat.add_mul _ _ _
 generalize P * (t / N) * N = A at *
 generalize P * (t % N) = B at *
 generalize P * (r * H) = C at *
 generalize P * d * N = D at *
 omega
theorem Ot (r x d : Nat) (hr : r < d) (hx : x < WB) (hd : d < WB) : Q.ni.f (r : Int) (x : Int) (d : Int) = some ((((r * WB + x) / d : Nat) : Int), (((r * WB + x) % d : Nat) : Int)) := by
 have c0 : (0 : Int) ≤ (r : Int) := Int.natCast_nonneg _
 have c1 : (r : Int) < (d : Int) := by omega
 have c2 : (0 : Int) ≤ (x : Int) := Int.natCast_nonneg _
 have c3 : (x : Int) < 18446744073709551616 := by have : x < 18446744073709551616 := hx; omega
 have c4 : (d : Int) < 18446744073709551616 := by have : d < 18446744073709551616 := hd; omega
 have e : (r : Int) * 18446744073709551616 + (x : Int) = ((r * WB + x : Nat) : Int) := by rw [Int.natCast_add, Int.natCast_mul]; rfl
 unfold Q.ni.f
 rw [if_pos ⟨c0, c1, c2, c3, c4⟩, e, Int.natCast_ediv, Int.natCast_emod]
theorem Jf (ys : List Nat) (d : Nat) (hw : Wd ys) (hl : ys.length ≤ 1000000000) (h0 : 0 < d) (hd : d < WB) :
  ∀ i, i ≤ ys.length → ∀ (xs : List Nat) (r : Nat), Wd xs → xs.length = ys.length → r < d → val ys + val (ys.take i) * d = val xs * d + r * WB ^ i + val (ys.take i) → (∀ m, m < i → xs.getD m 0 = ys.getD m 0) →
   Ev (fun k => Q.iw.l0 k (toI xs) (d : Int) (r : Int) ((i : Int) - 1)) (wI (val ys / d), ((val ys % d : Nat) : Int)) := by
 intro i
 induction i with
 | zero =>
  intro hi xs r h1 h2 h3 h4 h5
  have c1 : ¬ (((0 : Nat) : Int) - 1 ≥ 0) := by omega
  have e1 : val ys = r + d * val xs := by
   have : val (ys.take 0) = 0 := rfl
   rw [this, Nat.pow_zero, Nat.zero_mul, Nat.mul_one, Nat.add_zero, Nat.add_zero] at h4
   rw [h4, Nat.mul_comm, Nat.add_comm]
  have e2 : val ys / d = val xs := by rw [e1, Nat.add_mul_div_left _ _ h0, Nat.div_eq_of_lt h3, Nat.zero_add]
  have e3 : val ys % d = r := by rw [e1, Nat.add_mul_mod_self_left, Nat.mod_eq_of_lt h3]
  rw [e2, e3]
  have ht := PY h1 (by rw [h2]; exact hl)
  refine Ev.step (f := fun k => (Q.cZ.f k (toI xs)).bind fun t => some (t, (r : Int))) (fun k => by rw [Q.iw.l0, if_neg c1]) ?_
  exact Ev.bind ht (Ev.now _)
 | succ i ih =>
  intro hi xs r h1 h2 h3 h4 h5
  have c0 : ((i + 1 : Nat) : Int) - 1 = (i : Int) := by omega
  have c1 : (i : Int) ≥ 0 := by omega
  have c2 : (0 : Int) ≤ (i : Int) := by omega
  have c3 : (i : Int) < (xs.length : Int) := by omega
  have c3' : i < xs.length := by omega
  have c4 : i ≤ ys.length := by omega
  have c5 : wrap64 ((i : Int) - 1) = (i : Int) - 1 := w64 (by omega) (by omega)
  have q1 : ∀ m, m < i → i ≠ m := fun m hm => by omega
  have q2 : ∀ m, m < i → m < i + 1 := fun m hm => by omega
  have hdi := h1.get i
  have hdd := h5 i (Nat.lt_succ_self i)
  have ht : r * WB + xs.getD i 0 < d * WB := by
   have : (r + 1) * WB ≤ d * WB := Nat.mul_le_mul_right _ h3
   rw [Nat.add_mul, Nat.one_mul] at this
   exact Nat.lt_of_lt_of_le (Nat.add_lt_add_left hdi _) this
  have hq : (r * WB + xs.getD i 0) / d < WB := Nat.div_lt_of_lt_mul ht
  have hts := dG ys i
  have hvs := Oq c3' ((r * WB + xs.getD i 0) / d)
  rw [hts, ← hdd, Nat.pow_succ] at h4
  have := ih c4 (xs.set i ((r * WB + xs.getD i 0) / d)) ((r * WB + xs.getD i 0) % d) (h1.set _ _ hq) (by rw [List.length_set]; exact h2) (Nat.mod_lt _ h0) (Je rfl hvs h4) (fun m hm => by rw [getD_set_ne _ _ _ _ (q1 m hm)]; exact h5 m (q2 m hm))
  refine Ev.step (f := fun k => Q.iw.l0 k (toI (xs.set i ((r * WB + xs.getD i 0) / d))) (d : Int) (((r * WB + xs.getD i 0) % d : Nat) : Int) ((i : Int) - 1)) (fun k => ?_) this
  rw [c0, Q.iw.l0, if_pos c1, if_pos c2, kH, if_pos c3, zy, Ot _ _ _ h3 hdi hd]
  simp only [Option.bind_some]
  rw [Np, c5]
theorem LU (v d : Nat) (hl : (toW v).length ≤ 1000000000) (h0 : 0 < d) (hd : d < WB) : Ev (fun k => Q.iw.f k (wI v) (d : Int)) (wI (v / d), ((v % d : Nat) : Int)) := by
 have := Jf (toW v) d (kX v) hl h0 hd (toW v).length (Nat.le_refl _) (toW v) 0 (kX v) rfl h0 (by rw [iI _ (Nat.le_refl _), Nat.zero_mul, Nat.add_zero, Nat.add_comm]) (fun _ _ => rfl)
 rw [dI] at this
 unfold Q.iw.f
 rw [Kw, kH, w64 (by omega) (by omega)]
 exact this
def qc (v : Nat) : List Nat := if h : v = 0 then [] else (v % 10) :: qc (v / 10)
termination_by v
decreasing_by exact Nat.div_lt_self (by omega) (by decide)
theorem wX : qc 0 = [] := by rw [qc]; simp
theorem zU {v : Nat} (h : v ≠ 0) : qc v = (v % 10) :: qc (v / 10) := by rw [qc]; simp [h]
theorem Eu {v : Nat} (h : v ≠ 0) : 10 ^ ((qc v).length - 1) ≤ v ∧ v < 10 ^ (qc v).length ∧ 0 < (qc v).length := by
 induction v using Nat.strongRecOn with
 | _ v ih =>
  rw [zU h]
  simp only [List.length_cons, Nat.add_sub_cancel]
  by_cases h1 : v / 10 = 0
  ·rw [h1, wX]; simp; omega
  ·obtain ⟨h2, h3, h4⟩ := ih (v / 10) (by omega) h1
   obtain ⟨n, hn⟩ : ∃ n, (qc (v / 10)).length = n + 1 := ⟨(qc (v / 10)).length - 1, by omega⟩
   rw [hn] at h2 h3 ⊢
   rw [Nat.add_sub_cancel] at h2
   rw [Nat.pow_succ 10 (n + 1), Nat.pow_succ 10 n] at *
   omega
def asc (l : List Nat) : List Int := toI (l.map (48 + ·))
theorem zV (l : List Nat) (d : Nat) : asc l ++ [((48 + d : Nat) : Int)] = asc (l ++ [d]) := by unfold asc; rw [zA, List.map_append]; rfl
theorem pW (l : List Nat) : (asc l).length = l.length := by unfold asc; rw [kH, List.length_map]
theorem LV (bs : List Nat) (hl : bs.length ≤ 1000000) : ∀ d i, i + d = bs.length →
  Ev (fun k => Q.bP.l2 k (toI bs) (toI (bs.reverse.take i)) (bs.length : Int) (i : Int)) (strOfNums (toI bs.reverse), 0) := by
 intro d
 induction d with
 | zero =>
  intro i hi
  have c1 : ¬ ((i : Int) < (bs.length : Int)) := by omega
  have he : bs.reverse.take i = bs.reverse := List.take_of_length_le (by rw [List.length_reverse]; omega)
  exact Ev.one fun k => by rw [Q.bP.l2, if_neg c1, he]
 | succ d ih =>
  intro i hi
  have c1 : (i : Int) < (bs.length : Int) := by omega
  have c2 : (0 : Int) ≤ ((bs.length - 1 - i : Nat) : Int) := by omega
  have c3 : ((bs.length - 1 - i : Nat) : Int) < (bs.length : Int) := by omega
  have c6 : i + 1 + d = bs.length := by omega
  have c7 : i < 1000000000000000000 := by omega
  have c8 : (bs.reverse.take i).length < 140737488355328 := by rw [List.length_take, List.length_reverse]; omega
  have c9 : i < bs.reverse.length := by rw [List.length_reverse]; omega
  have c10 : bs.length - 1 - i < bs.length := by omega
  have e0 : bs.reverse.take i ++ [bs.getD (bs.length - 1 - i) 0] = bs.reverse.take (i + 1) := by
   rw [List.take_add_one, List.getElem?_eq_getElem c9, List.getElem_reverse, List.getD_eq_getElem?_getD, List.getElem?_eq_getElem c10]
   rfl
  have e1 : wrap64 ((wrap64 ((bs.length : Int) - 1)) - (i : Int)) = ((bs.length - 1 - i : Nat) : Int) := by rw [w64 (x := (bs.length : Int) - 1) (by omega) (by omega), w64 (by omega) (by omega)]; omega
  refine Ev.step (f := fun k => Q.bP.l2 k (toI bs) (toI (bs.reverse.take (i + 1))) (bs.length : Int) ((i + 1 : Nat) : Int)) (fun k => ?_) (ih (i + 1) c6)
  rw [Q.bP.l2, kH, if_pos c1, e1, if_pos c2, if_pos c3, kH, if_pos c8, zy, zA, e0, Fg c7]
theorem LW (n : Nat) (hQ : n = 0 ↔ (wI n).length = 0) (v : Nat) {r : ByteArray × Int}
  (hend : ∀ bs : List Nat, bs.length ≤ 1000000 → qc v = bs ++ qc n → Ev (fun k => Q.bP.l0 k (wI n) (asc bs)) r) :
  ∀ d j : Nat, j + d = 19 → ∀ (bs : List Nat) (q : Nat), bs.length + d ≤ 1000000 → q < 10 ^ d → qc v = bs ++ qc (n * 10 ^ d + q) → Ev (fun k => Q.bP.l1 k (wI n) (asc bs) (q : Int) (j : Int)) r := by
 intro d
 induction d with
 | zero =>
  intro j hj bs q h1 h2 h3
  have hq : q = 0 := by simpa using h2
  subst hq
  have c1 : ¬ ((j : Int) < 19) := by omega
  rw [Nat.pow_zero, Nat.mul_one, Nat.add_zero] at h3
  exact Ev.step (f := fun k => Q.bP.l0 k (wI n) (asc bs)) (fun k => by rw [Q.bP.l1, if_neg c1]) (hend bs h1 h3)
 | succ d ih =>
  intro j hj bs q h1 h2 h3
  have c1 : (j : Int) < 19 := by omega
  have c2 : j < 1000000000000000000 := by omega
  have c3 : j + 1 + d = 19 := by omega
  have hpow : 10 ^ (d + 1) = 10 * 10 ^ d := by rw [Nat.pow_succ, Nat.mul_comm]
  have hq10 : q / 10 < 10 ^ d := Nat.div_lt_of_lt_mul (by rw [← hpow]; exact h2)
  have hb1 : (bs ++ [q % 10]).length + d ≤ 1000000 := by rw [List.length_append]; simp; omega
  have hb2 : bs.length < 140737488355328 := by omega
  have hqs : q < 10000000000000000000 := by
   have : 10 ^ (d + 1) ≤ 10 ^ 19 := Nat.pow_le_pow_right (by decide) (by omega)
   exact Nat.lt_of_lt_of_le h2 this
  have e1 : (IntKind.u64.wrap (48 + (Int.tmod (q : Int) 10))) % 256 = ((48 + q % 10 : Nat) : Int) := by
   rw [Int.tmod_eq_emod_of_nonneg (Int.natCast_nonneg _), wu64 (by omega) (by omega)]; omega
  have e2 : IntKind.u64.wrap (Int.tdiv (q : Int) 10) = ((q / 10 : Nat) : Int) := by
   rw [Int.tdiv_eq_ediv_of_nonneg (Int.natCast_nonneg _), wu64 (by omega) (by omega)]; omega
  have go : (n * 10 ^ (d + 1) + q ≠ 0) → Ev (fun k => Q.bP.l1 k (wI n) (asc (bs ++ [q % 10])) ((q / 10 : Nat) : Int) ((j + 1 : Nat) : Int)) r := fun hne =>
   ih (j + 1) c3 (bs ++ [q % 10]) (q / 10) hb1 hq10 (by
    rw [h3, zU hne, hpow, Nat.mul_left_comm n 10, Nat.mul_add_mod, Nat.mul_add_div (by decide), List.append_assoc]
    rfl)
  by_cases hL : 0 < (wI n).length
  ·have hQ0 : n ≠ 0 := fun h => by rw [hQ.1 h] at hL; exact Nat.lt_irrefl 0 hL
   have hne : n * 10 ^ (d + 1) + q ≠ 0 := by
    have := Nat.mul_pos (Nat.pos_of_ne_zero hQ0) (Nat.pow_pos (n := d + 1) (show 0 < 10 by decide))
    omega
   refine Ev.step (f := fun k => Q.bP.l1 k (wI n) (asc (bs ++ [q % 10])) ((q / 10 : Nat) : Int) ((j + 1 : Nat) : Int)) (fun k => ?_) (go hne)
   rw [Q.bP.l1, if_pos c1, if_pos (show ((wI n).length : Int) > 0 from Int.natCast_pos.2 hL), pW, if_pos hb2, e1, e2, zV, Fg c2]
  ·have hL0 : (wI n).length = 0 := Nat.eq_zero_of_not_pos hL
   have c4 : ¬ (((wI n).length : Int) > 0) := by omega
   have hQ0 := hQ.2 hL0
   by_cases hq0 : 0 < q
   ·refine Ev.step (f := fun k => Q.bP.l1 k (wI n) (asc (bs ++ [q % 10])) ((q / 10 : Nat) : Int) ((j + 1 : Nat) : Int)) (fun k => ?_) (go (by omega))
    rw [Q.bP.l1, if_pos c1, if_neg c4, if_pos (show (q : Int) > 0 from Int.natCast_pos.2 hq0), pW, if_pos hb2, e1, e2, zV, Fg c2]
   ·have hq1 : q = 0 := Nat.eq_zero_of_not_pos hq0
    subst hq1
    rw [hQ0, Nat.zero_mul, Nat.add_zero, ← hQ0] at h3
    refine Ev.step (f := fun k => Q.bP.l0 k (wI n) (asc bs)) (fun k => ?_) (hend bs (by omega) h3)
    rw [Q.bP.l1, if_pos c1, if_neg c4, if_neg (by decide)]
theorem rJ (n : Nat) : n = 0 ↔ (wI n).length = 0 := by rw [jC, o7]
theorem LX (v : Nat) (hd1 : (qc v).length ≤ 900000) : ∀ V : Nat, (toW V).length ≤ 1000000000 → ∀ bs : List Nat, qc v = bs ++ qc V → Ev (fun k => Q.bP.l0 k (wI V) (asc bs)) (strOfNums (asc (qc v).reverse), 0) := by
 intro V
 induction V using Nat.strongRecOn with
 | _ V ih =>
  intro hl bs h6
  have hbl : bs.length ≤ 900000 := by
   have := congrArg List.length h6
   rw [List.length_append] at this
   omega
  by_cases hV : V = 0
  ·have c1 : ¬ (((wI V).length : Int) > 0) := by have := (rJ V).1 hV; omega
   rw [hV, wX, List.append_nil] at h6
   have e1 : (0 : Int) ≤ (((asc bs).length : Nat) : Int) := Int.natCast_nonneg _
   have e2 : (((asc bs).length : Nat) : Int).toNat ≤ 281474976710656 := by rw [pW]; omega
   have := LV (bs.map (48 + ·)) (by rw [List.length_map]; omega) (bs.map (48 + ·)).length 0 (Nat.zero_add _)
   rw [← List.map_reverse] at this
   rw [h6]
   refine Ev.step (f := fun k => Q.bP.l2 k (asc bs) ([] : List Int) ((asc bs).length : Int) 0) (fun k => by rw [Q.bP.l0, if_neg c1, if_pos e1, if_pos e2]) ?_
   rw [pW, ← List.length_map (f := (48 + ·))]
   exact this
  ·have c1 : ((wI V).length : Int) > 0 := by have h1 : (wI V).length ≠ 0 := fun h => hV ((rJ V).2 h); omega
   have hb := LU V 10000000000000000000 hl (by decide) (by decide)
   refine Ev.step (f := fun k => (Q.iw.f k (wI V) ((10000000000000000000 : Nat) : Int)).bind fun t => Q.bP.l1 k t.1 (asc bs) t.2 ((0 : Nat) : Int)) (fun k => by rw [Q.bP.l0, if_pos c1]; rfl) ?_
   refine Ev.bind hb ?_
   have hlt : V / 10000000000000000000 < V := Nat.div_lt_self (Nat.pos_of_ne_zero hV) (by decide)
   have hln : (toW (V / 10000000000000000000)).length ≤ 1000000000 := Nat.le_trans (iO (Nat.le_of_lt hlt)) hl
   have hdm : V / 10000000000000000000 * 10000000000000000000 + V % 10000000000000000000 = V := by rw [Nat.mul_comm]; exact Nat.div_add_mod _ _
   have hm : V % 10000000000000000000 < 10000000000000000000 := Nat.mod_lt _ (by decide)
   generalize V / 10000000000000000000 = n at *
   generalize V % 10000000000000000000 = q at *
   have h10 : (10 : Nat) ^ 19 = 10000000000000000000 := by decide
   exact LW n (rJ n) v (fun cs l1 l2 => ih n hlt hln cs l2) 19 0 rfl bs q (by omega) (by rw [h10]; exact hm) (by rw [h10, hdm]; exact h6)
theorem Ew {v : Nat} (h : v ≠ 0) : asc (qc v).reverse = (Lib.decDigits v).map fun b => (b.toNat : Int) := by
 induction v using Nat.strongRecOn with
 | _ v ih =>
  have hb : ∀ d : Nat, d < 10 → (((UInt8.ofNat (48 + d)).toNat : Nat) : Int) = ((48 + d : Nat) : Int) := fun d hd => by
   have : (UInt8.ofNat (48 + d)).toNat = (48 + d) % 256 := by simp
   rw [this, Nat.mod_eq_of_lt (by omega)]
  rw [zU h, List.reverse_cons, ← zV]
  by_cases h1 : v < 10
  ·rw [Nat.div_eq_of_lt h1, wX, Nat.mod_eq_of_lt h1, Lib.decDigits, dif_pos h1]
   show [((48 + v : Nat) : Int)] = [(((UInt8.ofNat (48 + v)).toNat : Nat) : Int)]
   rw [hb v h1]
  ·rw [Lib.decDigits, dif_neg h1, List.map_append, ih (v / 10) (by omega) (by omega)]
   show _ ++ [((48 + v % 10 : Nat) : Int)] = _ ++ [(((UInt8.ofNat (48 + v % 10)).toNat : Nat) : Int)]
   rw [hb (v % 10) (Nat.mod_lt _ (by decide))]
theorem LY {v : Nat} (h : v ≠ 0) : strOfNums (asc (qc v).reverse) = ⟨(Lib.decDigits v).toArray⟩ := by
 rw [Ew h]
 exact Lib.Lz.strOfNums_map _
theorem Jg {l : List Int} (h : OkI l) (hf : (toW (vI l)).length ≤ 1024) : Q.kE.f [l] = some false := by
 unfold Q.kE.f
 rw [if_pos ⟨by simp, fun x hx => by rw [List.mem_singleton.1 hx]; exact h⟩]
 have : ¬ 1024 < (toW (vI l)).length := by omega
 simp [mF, this]
theorem Ou {l : List Int} (h : OkI l) (hf : iU (vI l)) : Ev (fun k => Q.bP.f k l) (⟨(Lib.decDigits (vI l)).toArray⟩, 0) := by
 unfold iU at hf
 unfold Q.bP.f
 rw [Jg h hf]
 have hc : Q.jd.f l = some (wI (vI l)) := by unfold Q.jd.f; rw [if_pos (show WdI l ∧ l.length ≤ 1000000000 from h)]
 rw [hc]
 simp only [Option.bind_some]
 refine Ev.neg (by decide) ?_
 by_cases hv : vI l = 0
 ·refine Ev.pos (by have := (rJ (vI l)).1 hv; omega) ?_
  rw [hv, Lib.decDigits_one (show 0 < 10 by decide)]
  exact Ev.now _
 ·refine Ev.neg (by have h1 : (wI (vI l)).length ≠ 0 := fun h => hv ((rJ _).2 h); omega) ?_
  rw [← LY hv]
  have hlen : (qc (vI l)).length ≤ 900000 := by
   have h1 := (Eu hv).1
   have h2 := nV (vI l)
   rw [show WB = 2 ^ 64 from rfl, ← Nat.pow_mul] at h2
   have h3 := vG (Nat.lt_of_le_of_lt (Nat.le_trans (Nat.pow_le_pow_left (show 2 ≤ 10 by decide) _) h1) h2)
   omega
  exact LX (vI l) hlen (vI l) (by omega) [] rfl
end Go.Proofs.YtafikkmnkeddpaaGreatDoor.P
namespace Go.Proofs.YtafikkmnkeddpaaGreatDoor.P
open Go.RowKit Go.Proofs.YtafikkmnkeddpaaGreatDoorW.PrintWords Go.Proofs.YtafikkmnkeddpaaGreatDoorW.PrintLast
def Nv (p q a : Int) : Int := a / 2 ^ (q - 1).toNat % 2 ^ (p - q).toNat
def KF (q a : Int) : Int := a % 2 ^ (q - 1).toNat
def IX (p a : Int) : Bool := decide (a / 2 ^ (p - 1).toNat ≠ 0)
def Qx (p q a : Int) : Int :=
 if Nv p q a = 2 ^ (p - q).toNat - 1 then (if KF q a = 0 then (if IX p a then 2 else 9) else if KF q a / 2 ^ (q - 2).toNat ≠ 0 then 1 else 0)
 else if Nv p q a = 0 then (if KF q a = 0 then (if IX p a then 5 else 6) else if IX p a then 4 else 7)
 else if IX p a then 3 else 8
def xC (p a : Int) : Prop := 0 ≤ a ∧ a < 2 ^ p.toNat
instance (p a : Int) : Decidable (xC p a) := by unfold xC; infer_instance
theorem KG (a s : Int) (h0 : 0 ≤ a) (hs : 0 ≤ s) (h : s ≤ 64) : shr .u64 a s = a / 2 ^ s.toNat := by
 unfold shr
 rw [Nat.min_eq_left (by simp [IntKind.bits]; omega)]
theorem DY {k : Nat} (h : k ≤ 64) : (2 : Int) ^ k ≤ 18446744073709551616 := by
 have h1 : 2 ^ k ≤ 2 ^ 64 := Nat.pow_le_pow_right (by decide) h
 have h2 : (2 : Int) ^ k = ((2 ^ k : Nat) : Int) := by simp
 have h3 : (2 : Nat) ^ 64 = 18446744073709551616 := by decide
 omega
theorem OU (a o : Int) (s : Nat) (h0 : 0 ≤ a) (h1 : a < 18446744073709551616) (hs : s ≤ 64) (ho : o = 2 ^ s - 1) : Go.bits .and .u64 a o = a % 2 ^ s := by
 have hp := DY hs
 have hq : (0 : Int) < 2 ^ s := Int.pow_pos (by decide)
 rw [u64_and _ _ h0 h1 (by omega) (by omega)]
 obtain ⟨n, rfl⟩ : ∃ n : Nat, a = n := ⟨a.toNat, by omega⟩
 have e : o.toNat = 2 ^ s - 1 := by
  rw [ho, show (2 : Int) ^ s = ((2 ^ s : Nat) : Int) by simp]
  have : 0 < 2 ^ s := Nat.pow_pos (by decide)
  omega
 rw [e, Int.toNat_natCast, Nat.and_two_pow_sub_one_eq_mod]
 simp
theorem KH : ∀ n : Fin 65, V.bT.f ((n.val : Nat) : Int) = some (2 ^ n.val - 1) := by decide +kernel
theorem Fv (n : Int) (h0 : 0 ≤ n) (h : n ≤ 64) : V.bT.f n = some (2 ^ n.toNat - 1) := by
 have := KH ⟨n.toNat, by omega⟩
 simp only at this
 rwa [show ((n.toNat : Nat) : Int) = n by omega] at this
theorem vC {f p q m x : Int} (h : CP f p q m x) : 2 ≤ q ∧ q < p ∧ p ≤ 64 ∧ 16 ≤ p := by
 rcases h with ⟨rfl, rfl, rfl, rfl, rfl⟩ | ⟨rfl, rfl, rfl, rfl, rfl⟩ | ⟨rfl, rfl, rfl, rfl, rfl⟩ | ⟨rfl, rfl, rfl, rfl, rfl⟩ <;> decide
theorem xC.bnd {p a : Int} (h : xC p a) (hp : p ≤ 64) : 0 ≤ a ∧ a < 18446744073709551616 := by
 have h2 := h.2
 have := DY (k := p.toNat) (by omega)
 exact ⟨h.1, by omega⟩
theorem He (f p q m x a : Int) (hf : CP f p q m x) (ha : xC p a) : V.gy.f p q m x a = some (IX p a, Nv p q a, KF q a) := by
 obtain ⟨b1, b2, b3, b4⟩ := (vC hf)
 obtain ⟨h0, h1⟩ := ha.bnd b3
 have d0 : 0 ≤ a / 2 ^ (q - 1).toNat := Int.ediv_nonneg h0 (Int.le_of_lt (Int.pow_pos (by decide)))
 have d1 : a / 2 ^ (q - 1).toNat ≤ a := Int.ediv_le_self _ h0
 have hs : ∀ z : Int, (z != 0) = decide (z ≠ 0) := fun z => by by_cases hz : z = 0 <;> simp [hz]
 unfold V.gy.f
 rw [Go.IntWalk.wrap64_in (p - 1) (by omega), Go.IntWalk.wrap64_in (q - 1) (by omega), Go.IntWalk.wrap64_in (p - q) (by omega), if_pos (by omega), if_pos (by omega), Fv (p - q) (by omega) (by omega), Fv (q - 1) (by omega) (by omega)]
 simp only [Option.bind_some]
 rw [KG a (p - 1) h0 (by omega) (by omega), KG a (q - 1) h0 (by omega) (by omega), OU _ _ (p - q).toNat d0 (by omega) (by omega) rfl, OU _ _ (q - 1).toNat h0 h1 (by omega) rfl, hs]
 rfl
theorem CS (f p q m x a : Int) (e : l7 f = some (p, q, m, x)) (hf : CP f p q m x) (ha : xC p a) : U.aZ.f f a = some 0 := by
 obtain ⟨b1, b2, b3, b4⟩ := (vC hf)
 obtain ⟨h0, h1⟩ := ha
 have hz : a / 2 ^ p.toNat = 0 := Int.ediv_eq_zero_of_lt h0 h1
 have hP : bg.f f = some (p, q, m, x, 0) := by unfold bg.f; rw [e]
 unfold U.aZ.f
 rw [hP]
 simp only [Option.bind_some]
 rw [if_pos trivial]
 by_cases h64 : p < 64
 ·rw [if_pos h64, if_pos (by omega), KG a p h0 (by omega) (by omega), hz, if_pos rfl]
 ·rw [if_neg h64]
theorem uM {f p q m x : Int} (h : l7 f = some (p, q, m, x)) : CP f p q m x := by
 unfold l7 at h
 unfold CP
 split at h
 ·cases h; simp [*]
 ·split at h
  ·cases h; simp [*]
  ·split at h
   ·cases h; simp [*]
   ·split at h
    ·cases h; simp [*]
    ·cases h
def jm.f (a0 a1 : Int) : Option (Int × Int) := match l7 a0 with | some (p, q, _, _) => if xC p a1 then some (Qx p q a1, 0) else none | none => none
theorem jm.calls (a0 a1 : Int) (r1 r2 : Int) (w : World) (hG : GOk w) (h : jm.f a0 a1 = some (r1, r2)) :
  Calls Tryz.prog 117 #[.int .i64 a0, .int .u64 a1] w fun e w' => e = .returned (.tuple #[.int .i64 r1, .int .i64 r2]) ∧ Below w.heap.size w w' := by
 unfold jm.f at h
 split at h
 ·rename_i p q m x e
  have hf := uM e
  split at h
  ·rename_i hok
   cases h
   have := IW w a0 p q m x a1 hf _ _ _ _ hG.tabs.rows (U.aZ.calls a0 a1 0 w hG (CS a0 p q m x a1 e hf hok)) (fun W => V.gy.calls p q m x a1 _ _ _ W (He a0 p q m x a1 hf hok)) (fun W => V.bT.calls (p - q) _ W (Fv (p - q) (by have := (vC hf); omega) (by have := (vC hf); omega)))
   unfold Nu at this
   exact this
  ·cases h
 ·cases h
def iV.f (a0 a1 : Int) : Option (Bool × Int × Int × Int) := match l7 a0 with | some (p, q, _, _) => if xC p a1 then some (IX p a1, Nv p q a1, KF q a1, 0) else none | none => none
theorem iV.calls (a0 a1 : Int) (r1 : Bool) (r2 r3 r4 : Int) (w : World) (hG : GOk w) (h : iV.f a0 a1 = some (r1, r2, r3, r4)) :
  Calls Tryz.prog 118 #[.int .i64 a0, .int .u64 a1] w fun e w' => e = .returned (.tuple #[.bool r1, .int .u64 r2, .int .u64 r3, .int .i64 r4]) ∧ Below w.heap.size w w' := by
 unfold iV.f at h
 split at h
 ·rename_i p q m x e
  have hf := uM e
  split at h
  ·rename_i hok
   cases h
   exact Fq w a0 p q m x a1 hf _ _ _ hG.tabs.rows (U.aZ.calls a0 a1 0 w hG (CS a0 p q m x a1 e hf hok)) (fun W => V.gy.calls p q m x a1 _ _ _ W (He a0 p q m x a1 hf hok))
  ·cases h
 ·cases h
theorem Po {W : World} {A : Option Addr} {n : Nat} {xs : List Int} (h : Kd.C (Kd.int .u64) W A n xs) : Kd.F (Kd.int .u64) W (fun _ => True) A n xs := fun W' hW => by
 have hs : W.heap.size ≤ W'.heap.size := by
  rcases Nat.eq_zero_or_pos W.heap.size with h0 | h0
  ·rw [h0]; exact Nat.zero_le _
  ·have := Ii (hW (W.heap.size - 1) trivial (by omega)) (by omega)
   omega
 have hb : Below W.heap.size W { W with heap := W'.heap } := ⟨rfl, rfl, rfl, hs, fun k hk => hW k trivial hk⟩
 have h2 := Kd.m_ h hb
 exact ⟨h2.1, h2.2.1, fun hp => h2.2.2 hp⟩
def bP.f (l0 : List Int) : Option (ByteArray × Int) := if OkI l0 ∧ iU (vI l0) then some (⟨(Lib.decDigits (vI l0)).toArray⟩, 0) else none
theorem bP.calls (A0 : Option Addr) (c0 : Nat) (l0 : List Int) (r1 : ByteArray) (r2 : Int) (w : World) (hr0 : Kd.C (Kd.int .u64) w A0 l0.length l0) (hc0 : l0.length ≤ c0) (h : bP.f l0 = some (r1, r2)) :
  Calls Tryz.prog 90 #[.slice A0 l0.length c0] w fun e w' => e = .returned (.tuple #[.string r1, .int .i64 r2]) ∧ Below w.heap.size w w' := by
 unfold bP.f at h
 split at h
 ·rename_i hok
  cases h
  obtain ⟨k, hk⟩ := (Ou hok.1 hok.2).rounds
  exact Q.bP.calls k (fun _ => True) A0 c0 l0 _ _ w (Kd.RV hc0 (Po hr0)) hk
 ·cases h
end Go.Proofs.YtafikkmnkeddpaaGreatDoor.P
namespace Go.Proofs.YtafikkmnkeddpaaGreatDoor.P
open Go.RowKit Go.Proofs.YtafikkmnkeddpaaGreatDoorW.PrintWords Go.Proofs.YtafikkmnkeddpaaGreatDoorW.PrintLast Go.Proofs.YtafikkmnkeddpaaGreatDoorW.PrintMore
def tmN (k : Nat) (e t : Int) : Nat := k * 10 ^ t.toNat * 2 ^ e.toNat
def tmD (e t : Int) : Nat := 10 ^ (-t).toNat * 2 ^ (-e).toNat
theorem Iz {v m k : Nat} (h : v < 2 ^ m) (hm : m ≤ 64 * k) : (toW v).length ≤ k := by
 refine jZ (Nat.lt_of_lt_of_le h ?_)
 rw [show WB = 2 ^ 64 from rfl, ← Nat.pow_mul]
 exact Nat.pow_le_pow_right (by decide) hm
theorem mX {v m : Nat} (h : v < 2 ^ m) (hm : m ≤ 65536) : iU v := Iz h hm
theorem nN {v : Nat} (h : iU v) : OkI (wI v) := OkI.wI (Nat.le_trans h (by decide))
theorem rY (t : Nat) : 10 ^ t ≤ 2 ^ (4 * t) := by
 rw [Nat.pow_mul]
 exact Nat.pow_le_pow_left (by decide) t
theorem OM (t : Int) (h0 : 0 ≤ t) (h : t ≤ 2000) : T.dH.f t = some (wI (10 ^ t.toNat)) := by
 have hf : iU (10 ^ t.toNat) := mX (m := 4 * t.toNat + 1) (Nat.lt_of_le_of_lt (rY _) (Nat.pow_lt_pow_right (by decide) (by omega))) (by omega)
 have hp : gB.f 10 t = some (wI (10 ^ t.toNat), 0) := by
  unfold gB.f
  rw [if_pos ⟨by decide, by decide, h0, by omega, hf⟩]
  rfl
 unfold T.dH.f
 rw [hp]
 rfl
theorem yI {n : Nat} (h0 : 0 < n) (h : n < WB) : wI n = [(n : Int)] := by
 rw [Kw, mZ (by omega), Nat.mod_eq_of_lt h, Nat.div_eq_of_lt h, jv]
 rfl
theorem JC {a b m : Nat} (ha : iU a) (hb : iU b) (hm : iU (a * b)) : gY.f (wI a) (wI b) = some (wI (a * b), 0) := by
 unfold gY.f
 rw [kQ, kQ, if_pos ⟨⟨nN ha, nN hb⟩, ha, hb, hm⟩]
theorem JD {a : Nat} {s : Int} (h0 : 0 ≤ s) (h : s ≤ 2000) (ha : iU a) (hm : iU (a * 2 ^ s.toNat)) : fA.f (wI a) s = some (wI (a * 2 ^ s.toNat), 0) := by
 unfold fA.f
 rw [kQ, if_pos ⟨nN ha, h0, by omega, ha, hm⟩]
theorem O4 (n : Nat) (e t : Int) (h0 : 0 < n) (hn : n < WB) (he1 : -2000 ≤ e) (he2 : e ≤ 2000) (ht1 : -2000 ≤ t) (ht2 : t ≤ 2000) : iU (tmN n e t) ∧ iU (tmD e t) := by
 have hn64 : n < 2 ^ 64 := hn
 have b1 : n * 10 ^ t.toNat < 2 ^ (64 + 4 * t.toNat) := by rw [Nat.pow_add]; exact Nat.mul_lt_mul_of_lt_of_le hn64 (rY _) (Nat.pow_pos (by decide))
 have b2 : n * 10 ^ t.toNat * 2 ^ e.toNat < 2 ^ (64 + 4 * t.toNat + e.toNat) := by rw [Nat.pow_add 2 (64 + 4 * t.toNat)]; exact Nat.mul_lt_mul_of_pos_right b1 (Nat.pow_pos (by decide))
 have b3 : 10 ^ (-t).toNat < 2 ^ (1 + 4 * (-t).toNat) := Nat.lt_of_le_of_lt (rY _) (Nat.pow_lt_pow_right (by decide) (by omega))
 have b4 : 10 ^ (-t).toNat * 2 ^ (-e).toNat < 2 ^ (1 + 4 * (-t).toNat + (-e).toNat) := by rw [Nat.pow_add 2 (1 + 4 * (-t).toNat)]; exact Nat.mul_lt_mul_of_pos_right b3 (Nat.pow_pos (by decide))
 exact ⟨mX b2 (by omega), mX b4 (by omega)⟩
theorem GI (n : Nat) (e t : Int) (h0 : 0 < n) (hn : n < WB) (he1 : -2000 ≤ e) (he2 : e ≤ 2000) (ht1 : -2000 ≤ t) (ht2 : t ≤ 2000) :
  T.bC.f 1 (n : Int) e t = some (wI (tmN n e t), wI (tmD e t)) := by
 have hn64 : n < 2 ^ 64 := hn
 have b1 : n * 10 ^ t.toNat < 2 ^ (64 + 4 * t.toNat) := by rw [Nat.pow_add]; exact Nat.mul_lt_mul_of_lt_of_le hn64 (rY _) (Nat.pow_pos (by decide))
 have b2 : n * 10 ^ t.toNat * 2 ^ e.toNat < 2 ^ (64 + 4 * t.toNat + e.toNat) := by rw [Nat.pow_add 2 (64 + 4 * t.toNat)]; exact Nat.mul_lt_mul_of_pos_right b1 (Nat.pow_pos (by decide))
 have b3 : 10 ^ (-t).toNat < 2 ^ (1 + 4 * (-t).toNat) := Nat.lt_of_le_of_lt (rY _) (Nat.pow_lt_pow_right (by decide) (by omega))
 have b4 : 10 ^ (-t).toNat * 2 ^ (-e).toNat < 2 ^ (1 + 4 * (-t).toNat + (-e).toNat) := by rw [Nat.pow_add 2 (1 + 4 * (-t).toNat)]; exact Nat.mul_lt_mul_of_pos_right b3 (Nat.pow_pos (by decide))
 have f0 : iU n := mX hn64 (by omega)
 have f1 : iU (n * 10 ^ t.toNat) := mX b1 (by omega)
 have f2 : iU (n * 10 ^ t.toNat * 2 ^ e.toNat) := mX b2 (by omega)
 have f3 : iU (10 ^ (-t).toNat) := mX b3 (by omega)
 have f4 : iU (10 ^ (-t).toNat * 2 ^ (-e).toNat) := mX b4 (by omega)
 have f5 : iU (10 ^ t.toNat) := mX (m := 4 * t.toNat + 1) (Nat.lt_of_le_of_lt (rY _) (Nat.pow_lt_pow_right (by decide) (by omega))) (by omega)
 have w1 : [(n : Int)] = wI n := (yI h0 hn).symm
 have w2 : ([1] : List Int) = wI 1 := (yI (by decide) (by decide)).symm
 have f6 : iU 1 := mX (m := 1) (by decide) (by decide)
 have j : ∀ a b : Nat, iU a → iU b → iU (a * 2 ^ e.toNat) → iU (b * 2 ^ (-e).toNat) → T.bC.j0 1 e (wI a) (wI b) = some (wI (a * 2 ^ e.toNat), wI (b * 2 ^ (-e).toNat)) := fun a b g1 g2 g3 g4 => by
  rw [T.bC.j0]
  by_cases hc : e ≥ 0
  ·have : (-e).toNat = 0 := by omega
   rw [if_pos hc, JD hc he2 g1 g3, this, Nat.pow_zero, Nat.mul_one]
   rfl
  ·have : e.toNat = 0 := by omega
   rw [if_neg hc, w64 (by omega) (by omega), JD (by omega) (by omega) g2 g4, this, Nat.pow_zero, Nat.mul_one]
   rfl
 unfold T.bC.f tmN tmD
 simp only [Option.bind_some]
 rw [w1, w2]
 by_cases hc : t ≥ 0
 ·have e1 : (-t).toNat = 0 := by omega
  rw [e1, Nat.pow_zero] at f4
  rw [if_pos hc, OM t hc ht2]
  simp only [Option.bind_some]
  rw [JC (m := 0) f0 f5 f1]
  simp only [Option.bind_some]
  rw [j _ _ f1 f6 f2 f4, e1, Nat.pow_zero]
 ·have e1 : t.toNat = 0 := by omega
  rw [e1, Nat.pow_zero, Nat.mul_one] at f2
  rw [if_neg hc, w64 (by omega) (by omega), OM (-t) (by omega) (by omega)]
  simp only [Option.bind_some]
  rw [j _ _ f0 f3 f2 f4, e1, Nat.pow_zero, Nat.mul_one]
def fgs (b : Int) : Option Int := match Ieee.double.mul (FloatKind.f64.nearest b) 4599094494301215282 with | some r => (FloatKind.f64.decode r).toInt .zero | none => none
def GK : Nat → Bool
 | 0 => true
 | n + 1 => (fgs ((n : Int) - 1110) == some (Int.tdiv (((n : Int) - 1110) * 30103) 100000)) && GK n
theorem JE : GK 2300 = true := by decide +kernel
theorem JF : ∀ m n, n < m → GK m = true → fgs ((n : Int) - 1110) = some (Int.tdiv (((n : Int) - 1110) * 30103) 100000)
 | m + 1, n, h, ha => by
  simp only [GK, Bool.and_eq_true, beq_iff_eq] at ha
  by_cases hn : n = m
  ·rw [hn]; exact ha.1
  ·exact JF m n (by omega) ha.2
theorem O5 (b : Int) (h1 : -1100 ≤ b) (h2 : b ≤ 1180) : ∃ r, Ieee.double.mul (FloatKind.f64.nearest b) 4599094494301215282 = some r ∧ (FloatKind.f64.decode r).toInt .zero = some (Int.tdiv (b * 30103) 100000) := by
 have h := JF 2300 (b + 1110).toNat (by omega) JE
 rw [show (((b + 1110).toNat : Nat) : Int) - 1110 = b by omega] at h
 unfold fgs at h
 split at h
 ·rename_i r e
  exact ⟨r, e, h⟩
 ·cases h
end Go.Proofs.YtafikkmnkeddpaaGreatDoor.P
namespace Go.Proofs.YtafikkmnkeddpaaGreatDoor
open Go.RowKit Go.Proofs.YtafikkmnkeddpaaGreatDoorW.PrintWords Go.Proofs.YtafikkmnkeddpaaGreatDoorW.PrintLast Go.Proofs.YtafikkmnkeddpaaGreatDoorW.PrintMore P
def Ac (n : Nat) (e : Int) : Nat → Int → Option Int
 | 0, _ => none
 | f + 1, x => if tmN n e (-x - 1) < tmD e (-x - 1) then some x else Ac n e f (x + 1)
theorem DC {a : Int} (h1 : -40000000 ≤ a) (h2 : a ≤ 40000000) : -400 ≤ a.tdiv 100000 ∧ a.tdiv 100000 ≤ 400 := by
 rcases Int.le_total 0 a with h | h
 ·rw [Int.tdiv_eq_ediv_of_nonneg h]; omega
 ·obtain ⟨c, rfl⟩ : ∃ c, a = -c := ⟨-a, by omega⟩
  rw [Int.neg_tdiv, Int.tdiv_eq_ediv_of_nonneg (by omega)]; omega
theorem MP (W : World) (p q m x : Value) (t : Nat) : W.heap.size < (W.alloc (.cells #[p, q, m, x] t)).heap.size ∧ (W.alloc (.cells #[p, q, m, x] t)).cell? ⟨W.heap.size, 1, none⟩ = some q ∧ (W.alloc (.cells #[p, q, m, x] t)).cell? ⟨W.heap.size, 2, none⟩ = some m := by
 have hal := heap_alloc_new W (.cells #[p, q, m, x] t)
 refine ⟨by show _ < (W.heap.push _).size; rw [Array.size_push]; omega, ?_⟩
 generalize W.alloc (.cells #[p, q, m, x] t) = W1 at *
 generalize W.heap.size = g at *
 exact ⟨by simp [World.cell?, hal], by simp [World.cell?, hal]⟩
theorem O6 (n : Nat) (e t : Int) (h0 : 0 < n) (hn : n < WB) (he1 : -2000 ≤ e) (he2 : e ≤ 2000) (ht1 : -2000 ≤ t) (ht2 : t ≤ 2000) :
  (tmN n e t < tmD e t → iy.f (wI (tmN n e t)) (wI (tmD e t)) = some (-1)) ∧ (¬ tmN n e t < tmD e t → ∃ z : Int, 0 ≤ z ∧ iy.f (wI (tmN n e t)) (wI (tmD e t)) = some z) := by
 obtain ⟨f1, f2⟩ := O4 n e t h0 hn he1 he2 ht1 ht2
 have : iy.f (wI (tmN n e t)) (wI (tmD e t)) = some (nX (tmN n e t) (tmD e t)) := by
  unfold iy.f
  rw [kQ, kQ, if_pos ⟨nN f1, nN f2⟩]
 rw [this]
 refine ⟨fun h => by rw [rC h], fun h => ⟨_, ?_, rfl⟩⟩
 unfold nX
 rw [if_neg h]
 split <;> decide
theorem below3 {w W wr w1 w2 : World} {g : Nat} (h0 : w.heap.size = g) (h1 : Below g w W) (h2 : Below W.heap.size W wr) (h3 : Below wr.heap.size wr w1) (h4 : nG w1 w2) : Below w.heap.size w w2 ∧ Below W.heap.size W w2 := by
 subst h0
 have a := h2.trans (h3.mono h2.size)
 have b := a.trans (h4.below.mono a.size)
 exact ⟨h1.trans (b.mono h1.size), b⟩
theorem IB {m : Nat} (h : 1 < m) : dB m = dB (m / 2) + 1 := by
 have h1 := oG (v := m / 2) (by omega)
 have h2 := kP (m / 2)
 have h3 := lC (v := m / 2) (by omega)
 obtain ⟨k, hk⟩ : ∃ k, dB (m / 2) = k + 1 := ⟨_, h3⟩
 rw [hk, Nat.add_sub_cancel] at h1
 rw [hk] at h2 ⊢
 refine ql ?_ ?_
 ·rw [Nat.pow_succ]; omega
 ·rw [Nat.pow_succ] at h2 ⊢; rw [Nat.pow_succ]; omega
theorem IC {m : Nat} (h : 0 < m) : 0 < dB m := by rw [lC (by omega)]; omega
theorem IE : dB 1 = 1 := by decide
set_option maxRecDepth 10000 in
set_option maxHeartbeats 1000000 in
theorem yJ (w : World) (neg : Bool) (n : Nat) (e below : Int) (r : Int) (h0 : 0 < n) (hn : n < 18014398509481984) (he1 : -1100 ≤ e) (he2 : e ≤ 1100)
  (hr : Ac n e 40 (Int.tdiv ((e + ((dB n : Nat) : Int) - 1) * 30103) 100000 - 2) = some r) :
  Calls Tryz.prog 99 #[.agg #[.bool neg, .int .u64 n, .int .i64 e, .int .u64 below]] w fun e w' => e = .returned (.int .i64 r) ∧ Below w.heap.size w w' := by
 have hbn : dB n ≤ 54 := mY hn
 have HR := Lib.hid hr
 clear hr
 go_enter Tryz.func99, Tryz.ntmps99
 go_wp2
 go_loop [3, 4] (fun t u => ∃ m j : Nat, t = .int .i64 (e + (j : Int)) ∧ u = .int .u64 (m : Int) ∧ 0 < m ∧ m ≤ n ∧ j ≤ 60 ∧ Hid (dB n = j + dB m)) (fun _ u => (intOf u).toNat)
 case atStart => exact ⟨n, 0, by go_num, rfl, h0, Nat.le_refl _, by omega, Lib.hid (Nat.zero_add _).symm⟩
 case round =>
  obtain ⟨m, j, rfl, rfl, hm, hmn, hj, hb⟩ := hrel
  have hb2 := hb.out
  by_cases hgt : 1 < m
  ·have hh := IB hgt
   have c1 : dB (m / 2) + (j + 1) = dB n := by omega
   have c2 : j + 1 ≤ 60 := by have := IC (show 0 < m / 2 by omega); omega
   have c3 : 0 < m / 2 ∧ m / 2 ≤ n := by omega
   have H1 := Lib.hid c1
   clear hh c1 hb hb2 hbn
   go_wp2
   go_round
   case rel => exact ⟨m / 2, j + 1, by go_num, by go_num, c3.1, c3.2, c2, Lib.hid (by have := H1.out; omega)⟩
   case measure => simp only [intOf]; omega
  ·have hm1 : m = 1 := by omega
   subst hm1
   have hj2 : dB n = j + 1 := by rw [hb2, IE]
   obtain ⟨fr, F1, F2⟩ := O5 (e + (j : Int)) (by omega) (by omega)
   have HR2 : Hid (Ac n e 40 (((e + (j : Int)) * 30103).tdiv 100000 - 2) = some r) := Lib.hid (by
    have := HR.out
    rwa [hj2, show e + ((j + 1 : Nat) : Int) - 1 = e + (j : Int) by omega] at this)
   have c5 : -1100 ≤ e + (j : Int) ∧ e + (j : Int) ≤ 1160 := by omega
   clear HR hb hb2 hj2 hbn hj
   generalize e + (j : Int) = B at *
   have c6 : -400 ≤ (B * 30103).tdiv 100000 ∧ (B * 30103).tdiv 100000 ≤ 400 := DC (by omega) (by omega)
   generalize (B * 30103).tdiv 100000 = T at *
   have hop : ∀ w, (binOp .mul 50 (.float .f64 (floatOfInt .f64 B)) (.float .f64 4599094494301215282)).run Tryz.prog w = .ok (.float .f64 fr) w := fun w => run_float_arith w .mul _ .f64 _ _ fr F1
   have hcv : ∀ w, (convert 50 3 (.float .f64 fr)).run Tryz.prog w = .ok (.int .i64 T) w := fun w => run_convert_float_int w _ _ .f64 .i64 fr T (by rw [Tryz.underlying50]; rfl) Tryz.underlying3 (by
    unfold floatToIntVal
    rw [F2]
    simp only
    rw [if_pos ⟨by show (-9223372036854775808 : Int) ≤ T; omega, by show T ≤ (9223372036854775807 : Int); omega⟩])
   clear F1 F2
   go_wp2_with (first | simp only [hop] | simp only [hcv])
   clear hop hcv
   obtain ⟨hg, n1, n2⟩ := MP w (.bool neg) (.int .u64 (n : Int)) (.int .i64 e) (.int .u64 below) 118
   have hbW : Below w.heap.size w (w.alloc (.cells #[.bool neg, .int .u64 (n : Int), .int .i64 e, .int .u64 below] 118)) := (Below.refl _ _).alloc (Nat.le_refl _) _
   generalize w.alloc (.cells #[.bool neg, .int .u64 (n : Int), .int .i64 e, .int .u64 below] 118) = W at *
   generalize hge : w.heap.size = g at *
   have HGE := Lib.hid hge
   clear hge
   have HW := Lib.hid (And.intro hg (And.intro n1 (And.intro n2 hbW)))
   clear hg n1 n2 hbW
   go_loopw [5] (fun t wr => ∃ (f : Nat) (x : Int), t = .int .i64 x ∧ f ≤ 40 ∧ -402 ≤ x ∧ x + f ≤ 440 ∧ Hid (Ac n e f x = some r) ∧ Hid (Below W.heap.size W wr)) (fun t wr => (440 - intOf t).toNat)
   case atStart => exact ⟨40, T - 2, by go_num, by omega, by omega, by omega, HR2, Lib.hid (Below.refl _ _)⟩
   case round =>
    obtain ⟨f, x, rfl, hf, hx1, hx2, hd, hb⟩ := hrel
    obtain ⟨m, rfl⟩ : ∃ m, f = m + 1 := by
     cases f with
     | zero => exact absurd hd.out (by simp [Ac])
     | succ m => exact ⟨m, rfl⟩
    have hT := GI n e (-x - 1) h0 (Nat.lt_trans hn (by decide)) (by omega) (by omega) (by omega) (by omega)
    obtain ⟨q1, q2, q3, q4⟩ := HW.out
    have k1 := (hb.out.cell (p := ⟨g, 1, none⟩) q1).trans q2
    have k2 := (hb.out.cell (p := ⟨g, 2, none⟩) q1).trans q3
    have HC := Lib.hid (Go.Proofs.YtafikkmnkeddpaaGreatDoor.T.bC.calls 1 (n : Int) e (-x - 1) _ _ wr hT)
    have HM := Lib.hid (O6 n e (-x - 1) h0 (Nat.lt_trans hn (by decide)) (by omega) (by omega) (by omega) (by omega))
    have hdo := hd.out
    rw [Ac] at hdo
    clear hT q1 q2 q3 q4
    by_cases hlt : tmN n e (-x - 1) < tmD e (-x - 1)
    ·rw [if_pos hlt] at hdo
     obtain rfl := Option.some.inj hdo
     have HM2 := Lib.hid (HM.out.1 hlt)
     clear HM hlt hdo hd
     go_wp2_with (first | (go_at_call 100; refine HC.out.mono ?_; rintro e1 w1 ⟨v0, v1, rfl, ho1, ho2, hb1⟩; obtain ⟨A0, c0, rfl, l0, d0⟩ := ho1; obtain ⟨A1, c1, rfl, l1, d1⟩ := ho2; have HB1 := Lib.hid hb1; clear hb1) | (go_at_call 103; refine (iy.calls _ _ _ _ _ _ _ _ d0 l0 d1 l1 HM2.out).mono ?_; rintro e2 w2 ⟨rfl, hd2⟩))
     go_ret
     exact ⟨rfl, (below3 HGE.out HW.out.2.2.2 hb.out HB1.out hd2).1⟩
    ·rw [if_neg hlt] at hdo
     obtain ⟨z, hz, hm2⟩ := HM.out.2 hlt
     have HM2 := Lib.hid hm2
     have HD := Lib.hid hdo
     clear HM hlt hdo hd hm2
     go_wp2_with (first | (go_at_call 100; refine HC.out.mono ?_; rintro e1 w1 ⟨v0, v1, rfl, ho1, ho2, hb1⟩; obtain ⟨A0, c0, rfl, l0, d0⟩ := ho1; obtain ⟨A1, c1, rfl, l1, d1⟩ := ho2; have HB1 := Lib.hid hb1; clear hb1) | (go_at_call 103; refine (iy.calls _ _ _ _ _ _ _ _ d0 l0 d1 l1 HM2.out).mono ?_; rintro e2 w2 ⟨rfl, hd2⟩))
     go_roundw
     case rel => exact ⟨m, x + 1, by go_num, by omega, by omega, by omega, HD, Lib.hid (below3 HGE.out HW.out.2.2.2 hb.out HB1.out hd2).2⟩
     case measure => simp only [intOf]; omega
end Go.Proofs.YtafikkmnkeddpaaGreatDoor
namespace Go.Proofs.YtafikkmnkeddpaaGreatDoor.P
open Go.RowKit Go.Proofs.YtafikkmnkeddpaaGreatDoorW.PrintWords Go.Proofs.YtafikkmnkeddpaaGreatDoorW.PrintLast
def Hf (n e : Int) : Prop := 0 < n ∧ n < 18014398509481984 ∧ -1100 ≤ e ∧ e ≤ 1100
instance (n e : Int) : Decidable (Hf n e) := by unfold Hf; infer_instance
def jQ.f (a0_0 : Bool) (a0_1 a0_2 a0_3 : Int) : Option Int := if Hf a0_1 a0_2 then Ac a0_1.toNat a0_2 40 (Int.tdiv ((a0_2 + ((dB a0_1.toNat : Nat) : Int) - 1) * 30103) 100000 - 2) else none
end Go.Proofs.YtafikkmnkeddpaaGreatDoor.P
namespace Go.Proofs.YtafikkmnkeddpaaGreatDoor
open Go.RowKit Go.Sort Go.Proofs.YtafikkmnkeddpaaGreatDoorW.PrintWords Go.Proofs.YtafikkmnkeddpaaGreatDoorW.PrintLast P
namespace P
def zS (cl : Bool) (lo hi v : Nat) : Bool := (decide (lo < v) && decide (v < hi)) || (cl && decide (lo ≤ v) && decide (v ≤ hi))
end P
theorem Gl {a b : Nat} (ha : iU a) (hb : iU b) : iy.f (wI a) (wI b) = some (nX a b) := by
 unfold iy.f
 rw [kQ, kQ, if_pos ⟨nN ha, nN hb⟩]
theorem uO (a b : Nat) : (nX a b = -1 ∧ a < b) ∨ (nX a b = 0 ∧ a = b) ∨ (nX a b = 1 ∧ b < a) := by
 rcases Nat.lt_trichotomy a b with h | h | h
 ·exact .inl ⟨rC h, h⟩
 ·exact .inr (.inl ⟨by rw [h]; exact CX b, h⟩)
 ·exact .inr (.inr ⟨yt h, h⟩)
def tJ (w : World) (b v : Nat) : Prop := b < w.heap.size ∧ ∃ A c, w.cell? ⟨b, 0, none⟩ = some (.slice A (wI v).length c) ∧ (wI v).length ≤ c ∧ Kd.C (Kd.int .u64) w A (wI v).length (wI v)
theorem tJ.below {w w' : World} {b v : Nat} (h : tJ w b v) (hb : Below w.heap.size w w') : tJ w' b v := by
 obtain ⟨h1, A, c, h2, h3, h4⟩ := h
 exact ⟨Nat.lt_of_lt_of_le h1 hb.size, A, c, (hb.cell (p := ⟨b, 0, none⟩) h1).trans h2, h3, Kd.m_ h4 hb⟩
set_option maxRecDepth 10000 in
set_option maxHeartbeats 1000000 in
theorem vV (w : World) (bd bl bh bc : Nat) (A : Option Addr) (c v d lo hi : Nat) (cl : Bool) (hr : Kd.C (Kd.int .u64) w A (wI v).length (wI v)) (hc : (wI v).length ≤ c)
  (hd : tJ w bd d) (hl : tJ w bl lo) (hh : tJ w bh hi) (hcl : bc < w.heap.size ∧ w.cell? ⟨bc, 0, none⟩ = some (.bool cl))
  (fv : iU v) (fd : iU d) (fm : iU (v * d)) (fl : iU lo) (fh : iU hi) :
  Calls Tryz.prog 162 #[.slice A (wI v).length c, .pointer (some ⟨bd, 0, none⟩), .pointer (some ⟨bl, 0, none⟩), .pointer (some ⟨bh, 0, none⟩), .pointer (some ⟨bc, 0, none⟩)] w fun e w' => e = .returned (.bool (zS cl lo hi (v * d))) ∧ Below w.heap.size w w' := by
 obtain ⟨d1, Ad, cd, d2, d3, d4⟩ := hd
 have HM := Lib.hid (gY.calls A c (wI v) Ad cd (wI d) _ _ w hr hc d4 d3 (JC (m := 0) fv fd fm))
 have HL := Lib.hid hl
 have HH := Lib.hid hh
 have HC := Lib.hid hcl
 clear hr hc hl hh hcl d1 d3 d4
 go_enter Tryz.func162, Tryz.ntmps162
 go_upto_region 2 with (go_at_call 61; refine HM.out.mono ?_; rintro e1 w1 ⟨v0, rfl, ho1, hb1⟩)
 obtain ⟨A1, c1, rfl, l1, g1⟩ := Kd.wu ho1
 obtain ⟨-, Al, cl', kl, ll, gl⟩ := HL.out.below hb1
 obtain ⟨-, Ah, ch, kh, lh, gh⟩ := HH.out.below hb1
 have kc : w1.cell? ⟨bc, 0, none⟩ = some (.bool cl) := (hb1.cell (p := ⟨bc, 0, none⟩) HC.out.1).trans HC.out.2
 have hq1 : ∀ dz os, Calls Tryz.prog 103 #[.slice A1 (wI (v * d)).length c1, .slice Al (wI lo).length cl'] (grow (redrawn w1 dz) os) fun e1 w'' => e1 = .returned (.int .i64 (nX (v * d) lo)) ∧ ∃ p : Regrown, w'' = grow (redrawn w1 p.d) p.os := fun dz os => Calls.regrown_of ((iy.calls _ _ _ _ _ _ _ _ (Kd.m_ g1 (below_regrown w1 dz os)) l1 (Kd.m_ gl (below_regrown w1 dz os)) ll (Gl fm fl)).mono fun _ _ h => ⟨h.1, h.2.below⟩)
 have hq2 : ∀ dz os, Calls Tryz.prog 103 #[.slice A1 (wI (v * d)).length c1, .slice Ah (wI hi).length ch] (grow (redrawn w1 dz) os) fun e1 w'' => e1 = .returned (.int .i64 (nX (v * d) hi)) ∧ ∃ p : Regrown, w'' = grow (redrawn w1 p.d) p.os := fun dz os => Calls.regrown_of ((iy.calls _ _ _ _ _ _ _ _ (Kd.m_ g1 (below_regrown w1 dz os)) l1 (Kd.m_ gh (below_regrown w1 dz os)) lh (Gl fm fh)).mono fun _ _ h => ⟨h.1, h.2.below⟩)
 have HQ := Lib.hid (And.intro hq1 hq2)
 have q0 := cell_regrown kl
 have q1 := cell_regrown kh
 have q2 := cell_regrown kc
 have HB := Lib.hid hb1
 clear hq1 hq2 g1 gl gh ll lh kl kh kc d2 HM HL HH HC hb1 ho1
 refine wp_region_quiet_below (by kernel_rfl) (by kernel_rfl) ?_
 repeat (quiet_step (first | with_reducible exact HQ.out.1 _ _ | with_reducible exact HQ.out.2 _ _))
 refine wpQuiet_nil ?_
 rintro _ ⟨⟨dq, osq⟩, rfl⟩
 have hb2 := below_regrown w1 dq osq
 have q3 := q2 dq osq
 have HB2 := Lib.hid (HB.out.trans (hb2.mono HB.out.size))
 clear hb2 q0 q1 q2 HB HQ
 rcases uO (v * d) lo with ⟨e1, h1⟩ | ⟨e1, h1⟩ | ⟨e1, h1⟩ <;> rcases uO (v * d) hi with ⟨e2, h2⟩ | ⟨e2, h2⟩ | ⟨e2, h2⟩ <;> cases cl
 all_goals
  rw [e1, e2]
  have HV := Lib.hid (And.intro h1 h2)
  clear e1 e2 h1 h2 fv fd fm fl fh
  go_wp2
  go_ret
  refine ⟨oZ (qZ ?_), HB2.out⟩
  have h1 := HV.out.1
  have h2 := HV.out.2
  unfold zS
  generalize v * d = m at *
  first | (rw [decide_eq_true (show lo < m by omega), decide_eq_true (show m < hi by omega)]; rfl) | (rw [decide_eq_true (show lo < m by omega), decide_eq_false (show ¬ m < hi by omega), decide_eq_true (show lo ≤ m by omega)]; first | rfl | (rw [decide_eq_true (show m ≤ hi by omega)]; rfl) | (rw [decide_eq_false (show ¬ m ≤ hi by omega)]; rfl)) | (rw [decide_eq_false (show ¬ lo < m by omega)]; first | rfl | (rw [decide_eq_false (show ¬ lo ≤ m by omega)]; rfl) | (rw [decide_eq_true (show lo ≤ m by omega)]; first | (rw [decide_eq_true (show m ≤ hi by omega)]; rfl) | (rw [decide_eq_false (show ¬ m ≤ hi by omega)]; rfl)))
end Go.Proofs.YtafikkmnkeddpaaGreatDoor
namespace Go.Proofs.YtafikkmnkeddpaaGreatDoor
open Go.RowKit Go.Sort Go.Proofs.YtafikkmnkeddpaaGreatDoorW.PrintWords Go.Proofs.YtafikkmnkeddpaaGreatDoorW.PrintLast P
def SlC (w : World) (A : Option Addr) (c x : Nat) : Prop := (wI x).length ≤ c ∧ Kd.C (Kd.int .u64) w A (wI x).length (wI x)
theorem SlC.below {w w' : World} {A : Option Addr} {c x : Nat} (h : SlC w A c x) (hb : RowKit.Below w.heap.size w w') : SlC w' A c x := ⟨h.1, Kd.m_ h.2 hb⟩
theorem SlC.of {w : World} {b : Nat} {ok : Nat → Prop} {v : Value} {x : Nat} (h : Kd.R (Kd.int .u64) 22 w b ok v (wI x)) : ∃ A c, v = .slice A (wI x).length c ∧ SlC w A c x := by
 obtain ⟨A, c, rfl, h1, h2⟩ := Kd.wu h
 exact ⟨A, c, rfl, h1, h2⟩
theorem SlC.ofC {w : World} {v : Value} {x : Nat} (h : E.Cs w .u64 v (wI x)) : ∃ A c, v = .slice A (wI x).length c ∧ SlC w A c x := h
theorem Eo (w : World) (n : Nat) (e t : Int) (h0 : 0 < n) (hn : n < WB) (he1 : -2000 ≤ e) (he2 : e ≤ 2000) (ht1 : -2000 ≤ t) (ht2 : t ≤ 2000) :
  Calls Tryz.prog 100 #[.int .u64 (n : Int), .int .i64 e, .int .i64 t] w fun e1 w' => ∃ A c A' c', e1 = .returned (.tuple #[.slice A (wI (tmN n e t)).length c, .slice A' (wI (tmD e t)).length c']) ∧ SlC w' A c (tmN n e t) ∧ SlC w' A' c' (tmD e t) ∧ RowKit.Below w.heap.size w w' := by
 refine (T.bC.calls 1 (n : Int) e t _ _ w (GI n e t h0 hn he1 he2 ht1 ht2)).mono ?_
 rintro e1 w' ⟨v0, v1, rfl, h1, h2, hb⟩
 obtain ⟨A, c, rfl, s1⟩ := SlC.ofC h1
 obtain ⟨A', c', rfl, s2⟩ := SlC.ofC h2
 exact ⟨A, c, A', c', rfl, s1, s2, hb⟩
theorem wW (W : World) (v : Value) (t : Nat) : W.heap.size < (W.alloc (.cells #[v] t)).heap.size ∧ (W.alloc (.cells #[v] t)).cell? ⟨W.heap.size, 0, none⟩ = some v ∧ RowKit.Below W.heap.size W (W.alloc (.cells #[v] t)) := by
 have hal := heap_alloc_new W (.cells #[v] t)
 refine ⟨by show _ < (W.heap.push _).size; rw [Array.size_push]; omega, ?_, (RowKit.Below.refl _ _).alloc (Nat.le_refl _) _⟩
 generalize W.alloc (.cells #[v] t) = W1 at *
 generalize W.heap.size = g at *
 simp [World.cell?, hal]
theorem QS (w : World) (k : Nat) (h0 : 0 < k) (h : k < WB) : SlC (w.alloc (.cells #[.int .u64 (k : Int)] 22)) (some ⟨w.heap.size, 0, none⟩) 1 k := by
 obtain ⟨a1, a2, a3⟩ := wW w (.int .u64 (k : Int)) 22
 unfold SlC
 rw [yI h0 h]
 refine ⟨Nat.le_refl _, Kd.zZ (enc := Value.int .u64) (d := (0 : Int)) ⟨rfl, by simp, fun _ => ⟨_, rfl, fun j hj => ?_⟩⟩⟩
 obtain rfl : j = 0 := by simp at hj; omega
 exact a2
theorem Ep (w : World) (A : Option Addr) (c x k : Nat) (s : SlC w A c x) (hk0 : 0 < k) (hk : k < WB) (f1 : iU x) (f2 : iU (x * k)) :
  Calls Tryz.prog 161 #[.slice A (wI x).length c, .int .u64 (k : Int)] w fun e1 w' => ∃ A c, e1 = .returned (.slice A (wI (x * k)).length c) ∧ SlC w' A c (x * k) ∧ RowKit.Below w.heap.size w w' := by
 have h : gY.f (wI x) (wI k) = some (wI (x * k), 0) := JC (m := 0) f1 (mX (m := 64) hk (by decide)) f2
 have hb0 : RowKit.Below w.heap.size w (w.alloc (.cells #[.int .u64 (k : Int)] 22)) := (RowKit.Below.refl _ _).alloc (Nat.le_refl _) _
 have sk := QS w k hk0 hk
 have HM := Lib.hid (gY.calls A c (wI x) _ 1 (wI k) _ _ _ (Kd.m_ s.2 hb0) s.1 sk.2 sk.1 h)
 have hl : (wI k).length = 1 := by rw [yI hk0 hk]; rfl
 rw [hl] at HM
 clear h s sk hl
 go_enter Tryz.func161, Tryz.ntmps161
 go_wp2_with (go_at_call 61; refine HM.out.mono ?_; rintro e1 w1 ⟨v0, rfl, h1, hb⟩)
 go_ret
 obtain ⟨A, c, rfl, s1⟩ := SlC.of h1
 exact ⟨A, c, rfl, s1, hb0.trans (hb.mono hb0.size)⟩
theorem PU (w : World) (A A' : Option Addr) (c c' x y : Nat) (s : SlC w A c x) (s' : SlC w A' c' y) (h : y ≤ x) (f1 : iU x) (f2 : iU y) :
  Calls Tryz.prog 160 #[.slice A (wI x).length c, .slice A' (wI y).length c'] w fun e1 w' => ∃ A c, e1 = .returned (.tuple #[.slice A (wI (x - y)).length c, .int .i64 0]) ∧ SlC w' A c (x - y) ∧ RowKit.Below w.heap.size w w' := by
 have h : kD.f (wI x) (wI y) = some (wI (x - y), 0) := by
  unfold kD.f
  rw [kQ, kQ, if_pos ⟨nN f1, nN f2⟩, if_neg (by omega)]
 refine (kD.calls A c (wI x) A' c' (wI y) _ _ w s.2 s.1 s'.2 s'.1 h).mono ?_
 rintro e1 w' ⟨v0, rfl, h1, hb⟩
 obtain ⟨A, c, rfl, s1⟩ := SlC.of h1
 exact ⟨A, c, rfl, s1, hb⟩
theorem LM (w : World) (A A' : Option Addr) (c c' x y : Nat) (s : SlC w A c x) (s' : SlC w A' c' y) (f1 : iU x) (f2 : iU y) :
  Calls Tryz.prog 104 #[.slice A (wI x).length c, .slice A' (wI y).length c'] w fun e1 w' => ∃ A c, e1 = .returned (.slice A (wI (x + y)).length c) ∧ SlC w' A c (x + y) ∧ RowKit.Below w.heap.size w w' := by
 have h : iJ.f (wI x) (wI y) = some (wI (x + y)) := by
  unfold iJ.f
  rw [kQ, kQ, if_pos ⟨nN f1, nN f2⟩]
 refine (iJ.calls A c (wI x) A' c' (wI y) _ w s.2 s.1 s'.2 s'.1 h).mono ?_
 rintro e1 w' ⟨v0, rfl, h1, hb⟩
 obtain ⟨A, c, rfl, s1⟩ := SlC.of h1
 exact ⟨A, c, rfl, s1, hb⟩
theorem PV (w : World) (A A' : Option Addr) (c c' x y : Nat) (s : SlC w A c x) (s' : SlC w A' c' y) (h : y ≠ 0) (f1 : iU x) (f2 : iU y) :
  Calls Tryz.prog 101 #[.slice A (wI x).length c, .slice A' (wI y).length c'] w fun e1 w' => ∃ A c A' c', e1 = .returned (.tuple #[.slice A (wI (x / y)).length c, .slice A' (wI (x % y)).length c', .int .i64 0]) ∧ SlC w' A c (x / y) ∧ SlC w' A' c' (x % y) ∧ RowKit.Below w.heap.size w w' := by
 have h : iq.f (wI x) (wI y) = some (wI (x / y), wI (x % y), 0) := by
  unfold iq.f
  rw [kQ, kQ, if_pos ⟨⟨nN f1, nN f2⟩, f1, f2, h⟩]
 refine (iq.calls A c (wI x) A' c' (wI y) _ _ _ w s.2 s.1 s'.2 s'.1 h).mono ?_
 rintro e1 w' ⟨v0, v1, rfl, h1, h2, hb⟩
 obtain ⟨A, c, rfl, s1⟩ := SlC.of h1
 obtain ⟨A', c', rfl, s2⟩ := SlC.of h2
 exact ⟨A, c, A', c', rfl, s1, s2, hb⟩
theorem tJ.of {W : World} {b x c : Nat} {A : Option Addr} (h : b < W.heap.size) (hc : W.cell? ⟨b, 0, none⟩ = some (.slice A (wI x).length c)) (s : SlC W A c x) : tJ W b x := ⟨h, A, c, hc, s.1, s.2⟩
end Go.Proofs.YtafikkmnkeddpaaGreatDoor
namespace Go.Proofs.YtafikkmnkeddpaaGreatDoor
open Go.RowKit Go.Sort Go.Proofs.YtafikkmnkeddpaaGreatDoorW.PrintWords Go.Proofs.YtafikkmnkeddpaaGreatDoorW.PrintLast P
namespace P
def shortS (n : Nat) (e : Int) (below : Nat) (E : Int) : Nat → Nat → Option (Nat × Nat)
 | 0, _ => none
 | f + 1, count =>
  let t : Int := (count : Int) - 1 - E
  let num := tmN (4 * n) (e - 2) t
  let den := tmD (e - 2) t
  let unit := tmN 1 (e - 2) t
  let down := num / den
  let left := num % den
  let cl := decide (n % 2 = 0)
  let one := decide (0 < down) && zS cl (num - unit * below) (num + unit * 2) (down * den)
  let other := zS cl (num - unit * below) (num + unit * 2) ((down + 1) * den)
  if one = false ∧ other = false then shortS n e below E f (count + 1)
  else some (if one = false then down + 1 else if other = true ∧ 0 < left ∧ (den < 2 * left ∨ (2 * left = den ∧ down % 2 = 1)) then down + 1 else down, count)
end P
theorem Oj (W : World) (p q m x : Value) (t : Nat) : W.heap.size < (W.alloc (.cells #[p, q, m, x] t)).heap.size ∧ (W.alloc (.cells #[p, q, m, x] t)).cell? ⟨W.heap.size, 1, none⟩ = some q ∧ (W.alloc (.cells #[p, q, m, x] t)).cell? ⟨W.heap.size, 2, none⟩ = some m ∧ (W.alloc (.cells #[p, q, m, x] t)).cell? ⟨W.heap.size, 3, none⟩ = some x := by
 have hal := heap_alloc_new W (.cells #[p, q, m, x] t)
 refine ⟨by show _ < (W.heap.push _).size; rw [Array.size_push]; omega, ?_⟩
 generalize W.alloc (.cells #[p, q, m, x] t) = W1 at *
 generalize W.heap.size = g at *
 exact ⟨by simp [World.cell?, hal], by simp [World.cell?, hal], by simp [World.cell?, hal]⟩
theorem Ol (k : Nat) (e t : Int) : tmN k e t = k * tmN 1 e t := by unfold tmN; rw [Nat.one_mul, Nat.mul_assoc]
theorem LP (k : Nat) (e t : Int) (hk : k < WB) (he1 : -2000 ≤ e) (he2 : e ≤ 2000) (ht1 : -2000 ≤ t) (ht2 : t ≤ 2000) (M : Nat) (hM : M = 20000) : tmN k e t < 2 ^ M ∧ tmD e t < 2 ^ M ∧ tmD e t ≠ 0 := by
 have hn64 : k < 2 ^ 64 := hk
 have b1 : k * 10 ^ t.toNat < 2 ^ (64 + 4 * t.toNat) := by rw [Nat.pow_add]; exact Nat.mul_lt_mul_of_lt_of_le hn64 (rY _) (Nat.pow_pos (by decide))
 have b2 : k * 10 ^ t.toNat * 2 ^ e.toNat < 2 ^ (64 + 4 * t.toNat + e.toNat) := by rw [Nat.pow_add 2 (64 + 4 * t.toNat)]; exact Nat.mul_lt_mul_of_pos_right b1 (Nat.pow_pos (by decide))
 have b3 : 10 ^ (-t).toNat < 2 ^ (1 + 4 * (-t).toNat) := Nat.lt_of_le_of_lt (rY _) (Nat.pow_lt_pow_right (by decide) (by omega))
 have b4 : 10 ^ (-t).toNat * 2 ^ (-e).toNat < 2 ^ (1 + 4 * (-t).toNat + (-e).toNat) := by rw [Nat.pow_add 2 (1 + 4 * (-t).toNat)]; exact Nat.mul_lt_mul_of_pos_right b3 (Nat.pow_pos (by decide))
 refine ⟨Nat.lt_of_lt_of_le b2 (Nat.pow_le_pow_right (by decide) (by omega)), Nat.lt_of_lt_of_le b4 (Nat.pow_le_pow_right (by decide) (by omega)), ?_⟩
 exact Nat.ne_of_gt (Nat.mul_pos (Nat.pow_pos (by decide)) (Nat.pow_pos (by decide)))
structure QT (N D U bl : Nat) : Prop where
 fN : iU N
 fD : iU D
 fU : iU U
 fUb : iU (U * bl)
 fU2 : iU (U * 2)
 lo : iU (N - U * bl)
 hi : iU (N + U * 2)
 q : iU (N / D)
 q1 : iU (N / D + 1)
 r : iU (N % D)
 qd : iU (N / D * D)
 q1d : iU ((N / D + 1) * D)
 one : iU 1
 tw : iU (N % D * 2)
 le : U * bl ≤ N
 d0 : D ≠ 0
theorem PW (n bl : Nat) (e t : Int) (h0 : 0 < n) (hn : 4 * n < WB) (hbl : bl = 1 ∨ bl = 2) (he1 : -2000 ≤ e) (he2 : e ≤ 2000) (ht1 : -2000 ≤ t) (ht2 : t ≤ 2000) : QT (tmN (4 * n) e t) (tmD e t) (tmN 1 e t) bl := by
 obtain ⟨M, hM⟩ : ∃ M : Nat, M = 20000 := ⟨_, rfl⟩
 obtain ⟨a1, a2, a3⟩ := LP (4 * n) e t hn he1 he2 ht1 ht2 M hM
 have a4 := Ol (4 * n) e t
 generalize tmN (4 * n) e t = N at *
 generalize tmD e t = D at *
 generalize tmN 1 e t = U at *
 have hU : U * 4 ≤ N := by rw [a4, Nat.mul_comm U 4, Nat.mul_assoc]; exact Nat.mul_le_mul_left 4 (Nat.le_mul_of_pos_left _ h0)
 have hb1 : U * bl ≤ U * 2 := by rcases hbl with rfl | rfl <;> omega
 have hq : N / D * D ≤ N := Nat.div_mul_le_self _ _
 have hq2 : N / D ≤ N := Nat.div_le_self _ _
 have hr : N % D < D := Nat.mod_lt _ (Nat.pos_of_ne_zero a3)
 have hp : 2 ^ (M + 2) = 4 * 2 ^ M := by rw [Nat.pow_add, Nat.mul_comm]
 have h1 : 1 ≤ 2 ^ M := Nat.pow_pos (by decide)
 have hs : (N / D + 1) * D = N / D * D + D := by rw [Nat.add_mul, Nat.one_mul]
 have f : ∀ x, x < 4 * 2 ^ M → iU x := fun x h => mX (m := M + 2) (by rw [hp]; exact h) (by omega)
 generalize 2 ^ M = P at *
 clear a4
 exact ⟨f _ (by omega), f _ (by omega), f _ (by omega), f _ (by omega), f _ (by omega), f _ (by omega), f _ (by omega), f _ (by omega), f _ (by omega), f _ (by omega), f _ (by omega), f _ (by omega), f _ (by omega), f _ (by omega), by omega, a3⟩
theorem kM {w W W' : World} {g : Nat} (hge : w.heap.size = g) (hb : RowKit.Below g w W) (h : RowKit.Below W.heap.size W W') : RowKit.Below g w W' := by
 subst hge
 exact hb.trans (h.mono hb.size)
theorem len1 : (wI 1).length = 1 := by rw [yI (by decide) (by decide)]; rfl
theorem PX (W : World) : SlC (W.alloc (.cells #[.int .u64 1] 22)) (some ⟨W.heap.size, 0, none⟩) 1 1 := QS W 1 (by decide) (by decide)
def zT (N D U bl : Nat) (cl : Bool) : Option Nat :=
 if (decide (0 < N / D) && zS cl (N - U * bl) (N + U * 2) (N / D * D)) = false ∧ zS cl (N - U * bl) (N + U * 2) ((N / D + 1) * D) = false then none
 else some (if (decide (0 < N / D) && zS cl (N - U * bl) (N + U * 2) (N / D * D)) = false then N / D + 1 else if zS cl (N - U * bl) (N + U * 2) ((N / D + 1) * D) = true ∧ 0 < N % D ∧ (D < 2 * (N % D) ∨ (2 * (N % D) = D ∧ N / D % 2 = 1)) then N / D + 1 else N / D)
theorem Es (n bl : Nat) (e E : Int) (f cn : Nat) (t : Int) (ht : (cn : Int) - 1 - E = t) :
  shortS n e bl E (f + 1) cn = match zT (tmN (4 * n) (e - 2) t) (tmD (e - 2) t) (tmN 1 (e - 2) t) bl (decide (n % 2 = 0)) with | none => shortS n e bl E f (cn + 1) | some r => some (r, cn) := by
 subst ht
 rw [shortS]
 unfold zT
 split <;> rfl
theorem pF {x : Nat} (h : iU x) : (Lib.decDigits x).length ≤ 900000 := by
 by_cases h0 : x = 0
 ·subst h0; rw [Lib.decDigits_one (by decide)]; decide
 ·have h1 := (Eu h0).1
  have h2 := nV x
  unfold iU at h
  rw [show WB = 2 ^ 64 from rfl, ← Nat.pow_mul] at h2
  have h3 := vG (Nat.lt_of_le_of_lt (Nat.le_trans (Nat.pow_le_pow_left (show 2 ≤ 10 by decide) _) h1) h2)
  have h4 := congrArg List.length (Ew h0)
  rw [pW, List.length_reverse, List.length_map] at h4
  omega
theorem qo (w : World) (A : Option Addr) (c x : Nat) (s : SlC w A c x) (f : iU x) :
  Calls Tryz.prog 90 #[.slice A (wI x).length c] w fun e1 w' => e1 = .returned (.tuple #[.string ⟨(Lib.decDigits x).toArray⟩, .int .i64 0]) ∧ RowKit.Below w.heap.size w w' :=
 bP.calls A c (wI x) _ _ w s.2 s.1 (by unfold bP.f; rw [kQ, if_pos ⟨nN f, f⟩])
theorem qp (w : World) (x : Nat) (f : iU x) :
  Calls Tryz.prog 93 #[.string ⟨(Lib.decDigits x).toArray⟩, .string ⟨#[48]⟩] w fun e1 w' => e1 = .returned (.string ⟨(Lib.trimRightB (Lib.decDigits x) 48).toArray⟩) ∧ RowKit.Below w.heap.size w w' := by
 have hl := pF f
 refine (je.calls ⟨(Lib.decDigits x).toArray⟩ ⟨#[48]⟩ _ w (by
  unfold je.f
  rw [if_pos ⟨rfl, by decide, by show (Lib.decDigits x).toArray.size ≤ _; rw [List.size_toArray]; omega⟩])).mono ?_
 rintro e1 w' ⟨rfl, hd⟩
 refine ⟨?_, hd.below⟩
 have : (UInt8.ofNat (bt (⟨#[48]⟩ : ByteArray) 0).toNat) = 48 := by decide
 rw [this]
theorem Om (w : World) (A : Option Addr) (c x : Nat) (s : SlC w A c x) (f1 : iU x) (f2 : iU (x * 2)) :
  Calls Tryz.prog 89 #[.slice A (wI x).length c, .int .i64 1] w fun e1 w' => ∃ A c, e1 = .returned (.tuple #[.slice A (wI (x * 2)).length c, .int .i64 0]) ∧ SlC w' A c (x * 2) ∧ RowKit.Below w.heap.size w w' := by
 have h : fA.f (wI x) 1 = some (wI (x * 2), 0) := JD (by decide) (by decide) f1 f2
 refine (fA.calls A c (wI x) 1 _ _ w s.2 s.1 h).mono ?_
 rintro e1 w' ⟨v0, rfl, h1, hb⟩
 obtain ⟨A, c, rfl, s1⟩ := SlC.of h1
 exact ⟨A, c, rfl, s1, hb⟩
theorem SlC.head {w : World} {A : Option Addr} {c q : Nat} (s : SlC w A c q) (h : 0 < q) (hf : iU q) : ∃ g o v0 : Nat, A = some ⟨g, o, none⟩ ∧ w.cell? ⟨g, o, none⟩ = some (.int .u64 (v0 : Int)) ∧ v0 < WB ∧ v0 % 2 = q % 2 := by
 have hs := yh s.2 s.1 (KN q) (by rw [jC]; exact Nat.le_trans hf (by decide))
 have hp : 0 < (ofI (wI q)).length := by rw [gG, jC]; exact kC (by omega)
 obtain ⟨g, o, hA, hc⟩ := hs.1 hp
 have h0 := hc.2 0 hp
 have e : ofI (wI q) = toW q := Hg _
 rw [e] at h0
 have e2 : (toW q).getD 0 0 = q % WB := by rw [mZ (by omega)]; rfl
 rw [e2] at h0
 exact ⟨g, o, q % WB, hA, h0, Nat.mod_lt _ (by decide), by rw [show WB = 2 * 9223372036854775808 from rfl, Nat.mod_mul_right_mod]⟩
def LQ (w : World) (g bc n : Nat) (e below : Int) (cl : Bool) : Prop := (g < w.heap.size ∧ w.cell? ⟨g, 1, none⟩ = some (.int .u64 (n : Int)) ∧ w.cell? ⟨g, 2, none⟩ = some (.int .i64 e) ∧ w.cell? ⟨g, 3, none⟩ = some (.int .u64 below)) ∧ bc < w.heap.size ∧ w.cell? ⟨bc, 0, none⟩ = some (.bool cl)
theorem LQ.below {w w' : World} {g bc n : Nat} {e below : Int} {cl : Bool} (h : LQ w g bc n e below cl) (hb : RowKit.Below w.heap.size w w') : LQ w' g bc n e below cl := by
 obtain ⟨⟨h1, h2, h3, h4⟩, h5, h6⟩ := h
 exact ⟨⟨Nat.lt_of_lt_of_le h1 hb.size, (hb.cell (p := ⟨g, 1, none⟩) h1).trans h2, (hb.cell (p := ⟨g, 2, none⟩) h1).trans h3, (hb.cell (p := ⟨g, 3, none⟩) h1).trans h4⟩, Nat.lt_of_lt_of_le h5 hb.size, (hb.cell (p := ⟨bc, 0, none⟩) h5).trans h6⟩
set_option maxRecDepth 10000 in
set_option maxHeartbeats 1000000 in
theorem Df (w : World) (neg : Bool) (n bl : Nat) (e E : Int) (res cnt : Nat) (h0 : 0 < n) (hn : n < 18014398509481984) (he1 : -1100 ≤ e) (he2 : e ≤ 1100) (hbl : bl = 1 ∨ bl = 2) (hE1 : -500 ≤ E) (hE2 : E ≤ 500)
  (hD : ∀ W, Calls Tryz.prog 99 #[.agg #[.bool neg, .int .u64 (n : Int), .int .i64 e, .int .u64 (bl : Int)]] W fun e1 w' => e1 = .returned (.int .i64 E) ∧ RowKit.Below W.heap.size W w')
  (hs : shortS n e bl E 40 1 = some (res, cnt)) :
  Calls Tryz.prog 75 #[.agg #[.bool neg, .int .u64 (n : Int), .int .i64 e, .int .u64 (bl : Int)]] w fun e1 w' => e1 = .returned (.tuple #[.string ⟨(Lib.trimRightB (Lib.decDigits res) 48).toArray⟩, .int .i64 (E + ((Lib.decDigits res).length : Int) - (cnt : Int))]) ∧ RowKit.Below w.heap.size w w' := by
 have HS := Lib.hid hs
 have HD := Lib.hid hD
 clear hs hD
 go_enter Tryz.func75, Tryz.ntmps75
 go_wp2
 go_step3
 go_upto_region 2 with (go_at_call 99; refine (HD.out _).mono ?_; rintro e1 w1 ⟨rfl, hb1⟩; have HB1 := Lib.hid hb1; clear hb1)
 obtain ⟨hg, n1, n2, n3⟩ := Oj w (.bool neg) (.int .u64 (n : Int)) (.int .i64 e) (.int .u64 (bl : Int)) 118
 have k1 := (HB1.out.cell (p := ⟨w.heap.size, 1, none⟩) hg).trans n1
 go_wp2
 have hcl : ((n : Int) % 2 == 0) = decide (n % 2 = 0) := by
  by_cases h : n % 2 = 0
  ·rw [decide_eq_true h]; have : (n : Int) % 2 = 0 := by omega
   rw [this]; rfl
  ·rw [decide_eq_false h]; have : (n : Int) % 2 = 1 := by omega
   rw [this]; rfl
 rw [hcl]
 obtain ⟨p1, p2, p3⟩ := wW w1 (.bool (decide (n % 2 = 0))) 4
 have hbw : RowKit.Below w.heap.size w w1 := ((RowKit.Below.refl _ _).alloc (Nat.le_refl _) _).trans (HB1.out.mono (Nat.le_of_lt hg))
 have k2 := (HB1.out.cell (p := ⟨w.heap.size, 2, none⟩) hg).trans n2
 have k3 := (HB1.out.cell (p := ⟨w.heap.size, 3, none⟩) hg).trans n3
 have g1 : w.heap.size < w1.heap.size := Nat.lt_of_lt_of_le hg HB1.out.size
 have hin : LQ (w1.alloc (.cells #[.bool (decide (n % 2 = 0))] 4)) w.heap.size w1.heap.size n e (bl : Int) (decide (n % 2 = 0)) :=
  ⟨⟨Nat.lt_of_lt_of_le g1 p3.size, (p3.cell (p := ⟨w.heap.size, 1, none⟩) g1).trans k1, (p3.cell (p := ⟨w.heap.size, 2, none⟩) g1).trans k2, (p3.cell (p := ⟨w.heap.size, 3, none⟩) g1).trans k3⟩, p1, p2⟩
 have hbW : RowKit.Below w.heap.size w (w1.alloc (.cells #[.bool (decide (n % 2 = 0))] 4)) := hbw.trans (p3.mono hbw.size)
 clear hg n1 n2 n3 k1 k2 k3 p1 p2 p3 g1 HB1 hbw hcl
 generalize w1.alloc (.cells #[.bool (decide (n % 2 = 0))] 4) = W0 at *
 generalize hge : w.heap.size = g at *
 have HGE := Lib.hid hge
 have HIN := Lib.hid hin
 have HBW := Lib.hid hbW
 generalize w1.heap.size = bc at *
 generalize hclv : decide (n % 2 = 0) = cl at *
 have HCL := Lib.hid hclv
 clear hge hin hbW hclv
 go_step3
 go_wp2
 go_loopw [4, 6] (fun v4 t wr => v4 = .int .i64 E ∧ ∃ cn f : Nat, t = .int .i64 (cn : Int) ∧ 1 ≤ cn ∧ cn + f ≤ 41 ∧ Hid (shortS n e bl E f cn = some (res, cnt)) ∧ Hid (LQ wr g bc n e (bl : Int) cl) ∧ Hid (RowKit.Below g w wr)) (fun _ t _ => (41 - intOf t).toNat)
 case atStart => exact ⟨rfl, 1, 40, rfl, by omega, by omega, HS, HIN, HBW⟩
 case round =>
  obtain ⟨rfl, cn, f, rfl, hc1, hcf, hd, hin, hb⟩ := hrel
  obtain ⟨m, rfl⟩ : ∃ m, f = m + 1 := by
   cases f with
   | zero => exact absurd hd.out (by simp [shortS])
   | succ m => exact ⟨m, rfl⟩
  have ht1 : -2000 ≤ (cn : Int) - 1 - E ∧ (cn : Int) - 1 - E ≤ 2000 := by omega
  go_upto_region 6 with (fail)
  generalize hte : (cn : Int) - 1 - E = t at *
  have HSt : Hid ((match zT (tmN (4 * n) (e - 2) t) (tmD (e - 2) t) (tmN 1 (e - 2) t) bl cl with | none => shortS n e bl E m (cn + 1) | some r => some (r, cn)) = some (res, cnt)) := Lib.hid (by
   have := hd.out
   rw [Es n bl e E m cn t hte, HCL.out] at this
   exact this)
  clear hte hd
  have hnW : 4 * n < WB := Nat.lt_of_lt_of_le (show 4 * n < 72057594037927936 by omega) (by decide)
  have HF := Lib.hid (PW n bl (e - 2) t h0 hnW hbl (by omega) (by omega) ht1.1 ht1.2)
  have e4 : ((4 * n : Nat) : Int) = 4 * (n : Int) := by omega
  have hT4 := Eo wr (4 * n) (e - 2) t (by omega) hnW (by omega) (by omega) ht1.1 ht1.2
  have hT1 : ∀ W, _ := fun W => Eo W 1 (e - 2) t (by decide) (by decide) (by omega) (by omega) ht1.1 ht1.2
  rw [e4] at hT4
  have HT1 := Lib.hid hT1
  clear hT1 e4
  generalize tmN (4 * n) (e - 2) t = N at *
  obtain ⟨⟨i1, i2, i3, i4⟩, i5, i6⟩ := hin.out
  go_upto_region 7 with (go_at_call 100; refine hT4.mono ?_; rintro e1 w2 ⟨A1, c1, A2, c2, rfl, s1, s2, hb2⟩; have HZ := Lib.hid (And.intro s1 (And.intro s2 hb2)); clear s1 s2 hb2)
  obtain ⟨s1, s2, hb2⟩ := HZ.out
  obtain ⟨a1, a2, a3⟩ := wW w2 (.slice A2 (wI (tmD (e - 2) t)).length c2) 73
  have hin2 := (hin.out.below hb2).below a3
  have sN := s1.below a3
  have nD := tJ.of a1 a2 (s2.below a3)
  have hB := kM HGE.out (kM HGE.out hb.out hb2) a3
  clear s1 s2 hb2 a1 a2 a3 HZ hin hb i1 i2 i3 i4 i5 i6 hT4
  generalize w2.alloc (.cells #[.slice A2 (wI (tmD (e - 2) t)).length c2] 73) = W2 at *
  generalize w2.heap.size = bd at *
  generalize tmD (e - 2) t = D at *
  have HP := Lib.hid (And.intro hin2 (And.intro sN (And.intro nD hB)))
  obtain ⟨⟨i1, i2, i3, i4⟩, i5, i6⟩ := hin2
  clear sN nD hB
  go_upto_region 8 with (go_at_call 100; refine (HT1.out _).mono ?_; rintro e1 w3 ⟨A3, c3, A4, c4, rfl, s1, s2, hb2⟩; have HZ := Lib.hid (And.intro s1 hb2); clear s1 s2 hb2)
  obtain ⟨hin2, sN, nD, hB⟩ := HP.out
  obtain ⟨sU, hb2⟩ := HZ.out
  replace hin2 := hin2.below hb2
  replace sN := sN.below hb2
  replace nD := nD.below hb2
  replace hB := kM HGE.out hB hb2
  clear HP HZ hb2 i1 i2 i3 i4 i5 i6 HT1
  generalize tmN 1 (e - 2) t = U at *
  have HP := Lib.hid (And.intro hin2 (And.intro sN (And.intro nD hB)))
  have HU := Lib.hid sU
  obtain ⟨⟨i1, i2, i3, i4⟩, i5, i6⟩ := hin2
  clear sN nD hB sU
  go_upto_region 9 with (first | (go_at_call 161; refine (Ep _ _ _ _ _ HU.out (by omega) (by rcases hbl with h | h <;> rw [h] <;> decide) HF.out.fU HF.out.fUb).mono ?_; rintro e1 w4 ⟨A5, c5, rfl, s1, hb2⟩; have HZ := Lib.hid (And.intro s1 hb2); clear s1 hb2) | (go_at_call 160; refine (PU _ _ _ _ _ _ _ (HP.out.2.1.below HZ.out.2) HZ.out.1 HF.out.le HF.out.fN HF.out.fUb).mono ?_; rintro e1 w5 ⟨A6, c6, rfl, s1, hb2⟩; have HY := Lib.hid (And.intro s1 hb2); clear s1 hb2))
  obtain ⟨hin2, sN, nD, hB⟩ := HP.out
  obtain ⟨-, hb2⟩ := HZ.out
  obtain ⟨sL, hb3⟩ := HY.out
  obtain ⟨a1, a2, a3⟩ := wW w5 (.slice A6 (wI (N - U * bl)).length c6) 73
  replace hin2 := ((hin2.below hb2).below hb3).below a3
  replace sN := ((sN.below hb2).below hb3).below a3
  replace nD := ((nD.below hb2).below hb3).below a3
  replace hB := kM HGE.out (kM HGE.out (kM HGE.out hB hb2) hb3) a3
  have sU := ((HU.out.below hb2).below hb3).below a3
  have nL := tJ.of a1 a2 (sL.below a3)
  clear HP HZ HY HU hb2 hb3 sL a1 a2 a3 i1 i2 i3 i4 i5 i6
  generalize w5.alloc (.cells #[.slice A6 (wI (N - U * bl)).length c6] 73) = W5 at *
  generalize w5.heap.size = bl5 at *
  have HP := Lib.hid (And.intro hin2 (And.intro sN (And.intro nD hB)))
  have HU := Lib.hid (And.intro sU nL)
  clear hin2 sN nD hB sU nL
  go_upto_region 10 with (first | (go_at_call 161; refine (Ep _ _ _ _ 2 HU.out.1 (by decide) (by decide) HF.out.fU HF.out.fU2).mono ?_; rintro e1 w6 ⟨A7, c7, rfl, s1, hb2⟩; have HZ := Lib.hid (And.intro s1 hb2); clear s1 hb2) | (go_at_call 104; refine (LM _ _ _ _ _ _ _ (HP.out.2.1.below HZ.out.2) HZ.out.1 HF.out.fN HF.out.fU2).mono ?_; rintro e1 w7 ⟨A8, c8, rfl, s1, hb2⟩; have HY := Lib.hid (And.intro s1 hb2); clear s1 hb2))
  obtain ⟨hin2, sN, nD, hB⟩ := HP.out
  obtain ⟨-, hb2⟩ := HZ.out
  obtain ⟨sH, hb3⟩ := HY.out
  obtain ⟨a1, a2, a3⟩ := wW w7 (.slice A8 (wI (N + U * 2)).length c8) 73
  replace hin2 := ((hin2.below hb2).below hb3).below a3
  replace sN := ((sN.below hb2).below hb3).below a3
  replace nD := ((nD.below hb2).below hb3).below a3
  replace hB := kM HGE.out (kM HGE.out (kM HGE.out hB hb2) hb3) a3
  have nL := ((HU.out.2.below hb2).below hb3).below a3
  have nH := tJ.of a1 a2 (sH.below a3)
  clear HP HZ HY HU hb2 hb3 sH a1 a2 a3
  generalize w7.alloc (.cells #[.slice A8 (wI (N + U * 2)).length c8] 73) = W7 at *
  generalize w7.heap.size = bh at *
  have HP := Lib.hid (And.intro hin2 (And.intro nL (And.intro nH (And.intro nD hB))))
  obtain ⟨d1, Ad, cd, d2, d3, d4⟩ := nD
  have hDV := PV W7 A1 Ad c1 cd N D sN ⟨d3, d4⟩ HF.out.d0 HF.out.fN HF.out.fD
  clear hin2 sN hB nL nH d1 d3 d4
  go_upto_region 12 with (go_at_call 101; refine hDV.mono ?_; rintro e1 w8 ⟨A9, c9, A10, c10, rfl, s1, s2, hb2⟩; have HZ := Lib.hid (And.intro s1 (And.intro s2 hb2)); clear s1 s2 hb2)
  obtain ⟨hin2, nL, nH, nD, hB⟩ := HP.out
  obtain ⟨sQ, sR, hb2⟩ := HZ.out
  have p3 := (wW w8 (.int .u64 1) 22).2.2
  have hAd := LM _ A9 (some ⟨w8.heap.size, 0, none⟩) c9 1 _ 1 (sQ.below p3) (PX w8) HF.out.q HF.out.one
  rw [len1] at hAd
  replace hin2 := (hin2.below hb2).below p3
  replace nL := (nL.below hb2).below p3
  replace nH := (nH.below hb2).below p3
  replace nD := (nD.below hb2).below p3
  replace sQ := sQ.below p3
  replace sR := sR.below p3
  replace hB := kM HGE.out (kM HGE.out hB hb2) p3
  have HP2 := Lib.hid (And.intro hin2 (And.intro nL (And.intro nH (And.intro nD hB))))
  have HQ := Lib.hid (And.intro sQ sR)
  clear hin2 nL nH nD hB sQ sR hb2 p3 HP HZ d2 hDV
  go_upto_region 13 with (go_at_call 104; refine hAd.mono ?_; rintro e1 w9 ⟨A11, c11, rfl, s1, hb2⟩; have HZ := Lib.hid (And.intro s1 hb2); clear s1 hb2)
  obtain ⟨hin2, nL, nH, nD, hB⟩ := HP2.out
  obtain ⟨sQ, sR⟩ := HQ.out
  obtain ⟨sP, hb2⟩ := HZ.out
  replace hin2 := hin2.below hb2
  replace nL := nL.below hb2
  replace nH := nH.below hb2
  replace nD := nD.below hb2
  replace sQ := sQ.below hb2
  replace sR := sR.below hb2
  replace hB := kM HGE.out hB hb2
  have HW1 := Lib.hid (vV w9 bd bl5 bh bc A9 c9 (N / D) D (N - U * bl) (N + U * 2) cl sQ.2 sQ.1 nD nL nH hin2.2 HF.out.q HF.out.fD HF.out.qd HF.out.lo HF.out.hi)
  have hW2 : ∀ w10, RowKit.Below w9.heap.size w9 w10 → _ := fun w10 hb => vV w10 bd bl5 bh bc A11 c11 (N / D + 1) D (N - U * bl) (N + U * 2) cl (sP.below hb).2 (sP.below hb).1 (nD.below hb) (nL.below hb) (nH.below hb) (hin2.below hb).2 HF.out.q1 HF.out.fD HF.out.q1d HF.out.lo HF.out.hi
  have HW2 := Lib.hid hW2
  have HP := Lib.hid (And.intro hin2 (And.intro nD (And.intro sQ (And.intro sR (And.intro sP hB)))))
  clear hin2 nL nH nD sQ sR sP hB hb2 HP2 HQ HZ hW2 hAd
  have hls : ((wI (N / D)).length = 0 ↔ N / D = 0) := (rJ (N / D)).symm
  by_cases hq : 0 < N / D
  ·have hl0 : 0 < (wI (N / D)).length := by omega
   go_upto_region 14 with (first | (go_at_call 162; with_reducible refine HW1.out.mono ?_; rintro e1 w10 ⟨rfl, hb2⟩; have HZ := Lib.hid hb2; clear hb2) | (go_at_call 162; with_reducible refine (HW2.out _ HZ.out).mono ?_; rintro e1 w11 ⟨rfl, hb2⟩; have HY := Lib.hid hb2; clear hb2))
   obtain ⟨hin2, nD, sQ, sR, sP, hB⟩ := HP.out
   have hb2 := HZ.out
   have hb3 := HY.out
   replace hin2 := (hin2.below hb2).below hb3
   replace nD := (nD.below hb2).below hb3
   replace sQ := (sQ.below hb2).below hb3
   replace sR := (sR.below hb2).below hb3
   replace sP := (sP.below hb2).below hb3
   replace hB := kM HGE.out (kM HGE.out hB hb2) hb3
   have hst := HSt.out
   unfold zT at hst
   rw [decide_eq_true hq, Bool.true_and] at hst
   clear HW1 HW2 HP HZ HY HSt hb2 hb3
   generalize zS cl (N - U * bl) (N + U * 2) (N / D * D) = one at *
   generalize zS cl (N - U * bl) (N + U * 2) ((N / D + 1) * D) = other at *
   cases one <;> cases other
   ·have HDn : Hid (shortS n e bl E m (cn + 1) = some (res, cnt)) := Lib.hid (by simpa using hst)
    have HB := Lib.hid hB
    have HI := Lib.hid hin2
    clear hst hB hin2 nD sQ sR sP
    go_wp2
    go_roundw
    case rel => exact ⟨rfl, cn + 1, m, by go_num, by omega, by omega, HDn, HI, HB⟩
    case measure => simp only [intOf]; omega
   ·have hx : N / D + 1 = res ∧ cn = cnt := by simpa using hst
    obtain ⟨rfl, rfl⟩ := hx
    have hsz : ((⟨(Lib.decDigits (N / D + 1)).toArray⟩ : ByteArray).size : Nat) = (Lib.decDigits (N / D + 1)).length := by show Array.size _ = _; rw [List.size_toArray]
    have hdl := pF HF.out.q1
    have HT := Lib.hid (qo w11 A11 c11 (N / D + 1) sP HF.out.q1)
    have hT2 : ∀ W, _ := fun W => qp W (N / D + 1) HF.out.q1
    have HT2 := Lib.hid hT2
    have HB := Lib.hid hB
    clear hst hB hin2 nD sQ sR sP hT2
    generalize hTR : Lib.trimRightB (Lib.decDigits (N / D + 1)) 48 = TR at *
    generalize hDL : (Lib.decDigits (N / D + 1)).length = dl at *
    generalize (⟨(Lib.decDigits (N / D + 1)).toArray⟩ : ByteArray) = DS at *
    have HTR := Lib.hid (And.intro hTR hDL)
    clear hTR hDL
    go_wp2_with (first | (go_at_call 90; refine HT.out.mono ?_; rintro e1 w12 ⟨rfl, hb2⟩; have HZ := Lib.hid hb2; clear hb2) | (go_at_call 93; refine (HT2.out _).mono ?_; rintro e1 w13 ⟨rfl, hb2⟩; have HY := Lib.hid hb2; clear hb2))
    rw [Exit.noGoto_ret]
    exact bodyPost_ret (v := .tuple #[.string ⟨TR.toArray⟩, .int .i64 (E + ((dl : Int) - (cn : Int)))]) (by simp [results, Tryz.results75, go_sem]) rfl ⟨by rw [HTR.out.1, HTR.out.2, show E + ((dl : Int) - (cn : Int)) = E + (dl : Int) - (cn : Int) by omega], by rw [HGE.out]; exact kM HGE.out (kM HGE.out HB.out HZ.out) HY.out⟩
   ·have hx : N / D = res ∧ cn = cnt := by simpa using hst
    obtain ⟨rfl, rfl⟩ := hx
    have hsz : ((⟨(Lib.decDigits (N / D)).toArray⟩ : ByteArray).size : Nat) = (Lib.decDigits (N / D)).length := by show Array.size _ = _; rw [List.size_toArray]
    have hdl := pF HF.out.q
    have HT := Lib.hid (qo w11 A9 c9 (N / D) sQ HF.out.q)
    have hT2 : ∀ W, _ := fun W => qp W (N / D) HF.out.q
    have HT2 := Lib.hid hT2
    have HB := Lib.hid hB
    clear hst hB hin2 nD sQ sR sP hT2
    generalize hTR : Lib.trimRightB (Lib.decDigits (N / D)) 48 = TR at *
    generalize hDL : (Lib.decDigits (N / D)).length = dl at *
    generalize (⟨(Lib.decDigits (N / D)).toArray⟩ : ByteArray) = DS at *
    have HTR := Lib.hid (And.intro hTR hDL)
    clear hTR hDL
    go_wp2_with (first | (go_at_call 90; refine HT.out.mono ?_; rintro e1 w12 ⟨rfl, hb2⟩; have HZ := Lib.hid hb2; clear hb2) | (go_at_call 93; refine (HT2.out _).mono ?_; rintro e1 w13 ⟨rfl, hb2⟩; have HY := Lib.hid hb2; clear hb2))
    rw [Exit.noGoto_ret]
    exact bodyPost_ret (v := .tuple #[.string ⟨TR.toArray⟩, .int .i64 (E + ((dl : Int) - (cn : Int)))]) (by simp [results, Tryz.results75, go_sem]) rfl ⟨by rw [HTR.out.1, HTR.out.2, show E + ((dl : Int) - (cn : Int)) = E + (dl : Int) - (cn : Int) by omega], by rw [HGE.out]; exact kM HGE.out (kM HGE.out HB.out HZ.out) HY.out⟩
   ·have hrl : ((wI (N % D)).length = 0 ↔ N % D = 0) := (rJ (N % D)).symm
    by_cases hr : 0 < N % D
    ·have hl1 : 0 < (wI (N % D)).length := by omega
     have hSh := Om w11 A10 c10 (N % D) sR HF.out.r HF.out.tw
     have HX := Lib.hid (And.intro nD (And.intro sQ (And.intro sP hB)))
     have HST := Lib.hid hst
     have HRL := Lib.hid hr
     clear hr hrl hst nD sQ sP hB sR
     go_upto_region 20 with (go_at_call 89; refine hSh.mono ?_; rintro e1 w12 ⟨A12, c12, rfl, s1, hb2⟩; have HZ := Lib.hid (And.intro s1 hb2); clear s1 hb2)
     obtain ⟨nD, sQ, sP, hB⟩ := HX.out
     obtain ⟨sW, hb2⟩ := HZ.out
     replace nD := nD.below hb2
     replace sQ := sQ.below hb2
     replace sP := sP.below hb2
     replace hB := kM HGE.out hB hb2
     obtain ⟨m1, Am, cm, m2, m3, m4⟩ := nD
     have hCm := iy.calls A12 c12 (wI (N % D * 2)) Am cm (wI D) _ w12 sW.2 sW.1 m4 m3 (Gl HF.out.tw HF.out.fD)
     have HX2 := Lib.hid (And.intro sQ (And.intro sP hB))
     clear sQ sP hB sW hb2 m1 m3 m4 HX HZ hSh
     go_upto_region 21 with (go_at_call 103; refine hCm.mono ?_; rintro e1 w13 ⟨rfl, hd2⟩; have HZ := Lib.hid hd2.below; clear hd2)
     obtain ⟨sQ, sP, hB⟩ := HX2.out
     replace sQ := sQ.below HZ.out
     replace sP := sP.below HZ.out
     replace hB := kM HGE.out hB HZ.out
     obtain ⟨gq, oq, v0, rfl, hv0, hv1, hv2⟩ := sQ.head hq HF.out.q
     have hst := HST.out
     have hr := HRL.out
     rw [if_neg (by simp)] at hst
     clear hCm HX2 HZ m2 HST HRL
     rcases uO (N % D * 2) D with ⟨ec, hc⟩ | ⟨ec, hc⟩ | ⟨ec, hc⟩
     ·rw [ec]
      have hx : N / D = res ∧ cn = cnt := by
       rw [if_neg (by simp), if_neg (by omega)] at hst; simpa using hst
      obtain ⟨rfl, rfl⟩ := hx
      clear ec hc hr
      have hsz : ((⟨(Lib.decDigits (N / D)).toArray⟩ : ByteArray).size : Nat) = (Lib.decDigits (N / D)).length := by show Array.size _ = _; rw [List.size_toArray]
      have hdl := pF HF.out.q
      have HT := Lib.hid (qo w13 (some ⟨gq, oq, none⟩) c9 (N / D) sQ HF.out.q)
      have hT2 : ∀ W, _ := fun W => qp W (N / D) HF.out.q
      have HT2 := Lib.hid hT2
      have HB := Lib.hid hB
      clear hst hB sQ sP hT2
      generalize hTR : Lib.trimRightB (Lib.decDigits (N / D)) 48 = TR at *
      generalize hDL : (Lib.decDigits (N / D)).length = dl at *
      generalize (⟨(Lib.decDigits (N / D)).toArray⟩ : ByteArray) = DS at *
      have HTR := Lib.hid (And.intro hTR hDL)
      clear hTR hDL
      go_wp2_with (first | (go_at_call 90; refine HT.out.mono ?_; rintro e1 w14 ⟨rfl, hb2⟩; have HZ := Lib.hid hb2; clear hb2) | (go_at_call 93; refine (HT2.out _).mono ?_; rintro e1 w15 ⟨rfl, hb2⟩; have HY := Lib.hid hb2; clear hb2))
      rw [Exit.noGoto_ret]
      exact bodyPost_ret (v := .tuple #[.string ⟨TR.toArray⟩, .int .i64 (E + ((dl : Int) - (cn : Int)))]) (by simp [results, Tryz.results75, go_sem]) rfl ⟨by rw [HTR.out.1, HTR.out.2, show E + ((dl : Int) - (cn : Int)) = E + (dl : Int) - (cn : Int) by omega], by rw [HGE.out]; exact kM HGE.out (kM HGE.out HB.out HZ.out) HY.out⟩
     ·rw [ec]
      by_cases hod : v0 % 2 = 1
      ·have hodi : (v0 : Int) % 2 = 1 := by omega
       have hx : N / D + 1 = res ∧ cn = cnt := by
        rw [if_neg (by simp), if_pos ⟨trivial, by omega, .inr ⟨by omega, by omega⟩⟩] at hst; simpa using hst
       obtain ⟨rfl, rfl⟩ := hx
       clear ec hc hr hod hv2
       have hsz : ((⟨(Lib.decDigits (N / D + 1)).toArray⟩ : ByteArray).size : Nat) = (Lib.decDigits (N / D + 1)).length := by show Array.size _ = _; rw [List.size_toArray]
       have hdl := pF HF.out.q1
       have HT := Lib.hid (qo w13 A11 c11 (N / D + 1) sP HF.out.q1)
       have hT2 : ∀ W, _ := fun W => qp W (N / D + 1) HF.out.q1
       have HT2 := Lib.hid hT2
       have HB := Lib.hid hB
       clear hst hB sQ sP hT2
       generalize hTR : Lib.trimRightB (Lib.decDigits (N / D + 1)) 48 = TR at *
       generalize hDL : (Lib.decDigits (N / D + 1)).length = dl at *
       generalize (⟨(Lib.decDigits (N / D + 1)).toArray⟩ : ByteArray) = DS at *
       have HTR := Lib.hid (And.intro hTR hDL)
       clear hTR hDL
       go_wp2_with (first | (go_at_call 90; refine HT.out.mono ?_; rintro e1 w14 ⟨rfl, hb2⟩; have HZ := Lib.hid hb2; clear hb2) | (go_at_call 93; refine (HT2.out _).mono ?_; rintro e1 w15 ⟨rfl, hb2⟩; have HY := Lib.hid hb2; clear hb2))
       rw [Exit.noGoto_ret]
       exact bodyPost_ret (v := .tuple #[.string ⟨TR.toArray⟩, .int .i64 (E + ((dl : Int) - (cn : Int)))]) (by simp [results, Tryz.results75, go_sem]) rfl ⟨by rw [HTR.out.1, HTR.out.2, show E + ((dl : Int) - (cn : Int)) = E + (dl : Int) - (cn : Int) by omega], by rw [HGE.out]; exact kM HGE.out (kM HGE.out HB.out HZ.out) HY.out⟩
      ·have hodi : (v0 : Int) % 2 = 0 := by omega
       have hx : N / D = res ∧ cn = cnt := by
        rw [if_neg (by simp), if_neg (by omega)] at hst; simpa using hst
       obtain ⟨rfl, rfl⟩ := hx
       clear ec hc hr hod hv2
       have hsz : ((⟨(Lib.decDigits (N / D)).toArray⟩ : ByteArray).size : Nat) = (Lib.decDigits (N / D)).length := by show Array.size _ = _; rw [List.size_toArray]
       have hdl := pF HF.out.q
       have HT := Lib.hid (qo w13 (some ⟨gq, oq, none⟩) c9 (N / D) sQ HF.out.q)
       have hT2 : ∀ W, _ := fun W => qp W (N / D) HF.out.q
       have HT2 := Lib.hid hT2
       have HB := Lib.hid hB
       clear hst hB sQ sP hT2
       generalize hTR : Lib.trimRightB (Lib.decDigits (N / D)) 48 = TR at *
       generalize hDL : (Lib.decDigits (N / D)).length = dl at *
       generalize (⟨(Lib.decDigits (N / D)).toArray⟩ : ByteArray) = DS at *
       have HTR := Lib.hid (And.intro hTR hDL)
       clear hTR hDL
       go_wp2_with (first | (go_at_call 90; refine HT.out.mono ?_; rintro e1 w14 ⟨rfl, hb2⟩; have HZ := Lib.hid hb2; clear hb2) | (go_at_call 93; refine (HT2.out _).mono ?_; rintro e1 w15 ⟨rfl, hb2⟩; have HY := Lib.hid hb2; clear hb2))
       rw [Exit.noGoto_ret]
       exact bodyPost_ret (v := .tuple #[.string ⟨TR.toArray⟩, .int .i64 (E + ((dl : Int) - (cn : Int)))]) (by simp [results, Tryz.results75, go_sem]) rfl ⟨by rw [HTR.out.1, HTR.out.2, show E + ((dl : Int) - (cn : Int)) = E + (dl : Int) - (cn : Int) by omega], by rw [HGE.out]; exact kM HGE.out (kM HGE.out HB.out HZ.out) HY.out⟩
     ·rw [ec]
      have hx : N / D + 1 = res ∧ cn = cnt := by
       rw [if_neg (by simp), if_pos ⟨trivial, by omega, .inl (by omega)⟩] at hst; simpa using hst
      obtain ⟨rfl, rfl⟩ := hx
      clear ec hc hr
      have hsz : ((⟨(Lib.decDigits (N / D + 1)).toArray⟩ : ByteArray).size : Nat) = (Lib.decDigits (N / D + 1)).length := by show Array.size _ = _; rw [List.size_toArray]
      have hdl := pF HF.out.q1
      have HT := Lib.hid (qo w13 A11 c11 (N / D + 1) sP HF.out.q1)
      have hT2 : ∀ W, _ := fun W => qp W (N / D + 1) HF.out.q1
      have HT2 := Lib.hid hT2
      have HB := Lib.hid hB
      clear hst hB sQ sP hT2
      generalize hTR : Lib.trimRightB (Lib.decDigits (N / D + 1)) 48 = TR at *
      generalize hDL : (Lib.decDigits (N / D + 1)).length = dl at *
      generalize (⟨(Lib.decDigits (N / D + 1)).toArray⟩ : ByteArray) = DS at *
      have HTR := Lib.hid (And.intro hTR hDL)
      clear hTR hDL
      go_wp2_with (first | (go_at_call 90; refine HT.out.mono ?_; rintro e1 w14 ⟨rfl, hb2⟩; have HZ := Lib.hid hb2; clear hb2) | (go_at_call 93; refine (HT2.out _).mono ?_; rintro e1 w15 ⟨rfl, hb2⟩; have HY := Lib.hid hb2; clear hb2))
      rw [Exit.noGoto_ret]
      exact bodyPost_ret (v := .tuple #[.string ⟨TR.toArray⟩, .int .i64 (E + ((dl : Int) - (cn : Int)))]) (by simp [results, Tryz.results75, go_sem]) rfl ⟨by rw [HTR.out.1, HTR.out.2, show E + ((dl : Int) - (cn : Int)) = E + (dl : Int) - (cn : Int) by omega], by rw [HGE.out]; exact kM HGE.out (kM HGE.out HB.out HZ.out) HY.out⟩
    ·have hrz : N % D = 0 := by omega
     have hl1 : (wI (N % D)).length = 0 := hrl.2 hrz
     have hx : N / D = res ∧ cn = cnt := by simpa [hrz] using hst
     obtain ⟨rfl, rfl⟩ := hx
     clear hr hrz hrl
     have hsz : ((⟨(Lib.decDigits (N / D)).toArray⟩ : ByteArray).size : Nat) = (Lib.decDigits (N / D)).length := by show Array.size _ = _; rw [List.size_toArray]
     have hdl := pF HF.out.q
     have HT := Lib.hid (qo w11 A9 c9 (N / D) sQ HF.out.q)
     have hT2 : ∀ W, _ := fun W => qp W (N / D) HF.out.q
     have HT2 := Lib.hid hT2
     have HB := Lib.hid hB
     clear hst hB hin2 nD sQ sR sP hT2
     generalize hTR : Lib.trimRightB (Lib.decDigits (N / D)) 48 = TR at *
     generalize hDL : (Lib.decDigits (N / D)).length = dl at *
     generalize (⟨(Lib.decDigits (N / D)).toArray⟩ : ByteArray) = DS at *
     have HTR := Lib.hid (And.intro hTR hDL)
     clear hTR hDL
     go_wp2_with (first | (go_at_call 90; refine HT.out.mono ?_; rintro e1 w12 ⟨rfl, hb2⟩; have HZ := Lib.hid hb2; clear hb2) | (go_at_call 93; refine (HT2.out _).mono ?_; rintro e1 w13 ⟨rfl, hb2⟩; have HY := Lib.hid hb2; clear hb2))
     rw [Exit.noGoto_ret]
     exact bodyPost_ret (v := .tuple #[.string ⟨TR.toArray⟩, .int .i64 (E + ((dl : Int) - (cn : Int)))]) (by simp [results, Tryz.results75, go_sem]) rfl ⟨by rw [HTR.out.1, HTR.out.2, show E + ((dl : Int) - (cn : Int)) = E + (dl : Int) - (cn : Int) by omega], by rw [HGE.out]; exact kM HGE.out (kM HGE.out HB.out HZ.out) HY.out⟩
  ·have hq0 : N / D = 0 := Nat.eq_zero_of_not_pos hq
   have hl0 : (wI (N / D)).length = 0 := hls.2 hq0
   have HQ0 := Lib.hid hq
   clear hq hq0 hls
   go_upto_region 14 with (go_at_call 162; with_reducible refine (HW2.out _ (RowKit.Below.refl _ _)).mono ?_; rintro e1 w11 ⟨rfl, hb2⟩; have HY := Lib.hid hb2; clear hb2)
   obtain ⟨hin2, nD, sQ, sR, sP, hB⟩ := HP.out
   have hb3 := HY.out
   replace hin2 := hin2.below hb3
   replace nD := nD.below hb3
   replace sQ := sQ.below hb3
   replace sR := sR.below hb3
   replace sP := sP.below hb3
   replace hB := kM HGE.out hB hb3
   have hst := HSt.out
   unfold zT at hst
   rw [decide_eq_false HQ0.out, Bool.false_and] at hst
   clear HW1 HW2 HP HY HSt hb3
   generalize zS cl (N - U * bl) (N + U * 2) ((N / D + 1) * D) = other at *
   cases other
   ·have HDn : Hid (shortS n e bl E m (cn + 1) = some (res, cnt)) := Lib.hid (by simpa using hst)
    have HB := Lib.hid hB
    have HI := Lib.hid hin2
    clear hst hB hin2 nD sQ sR sP
    go_wp2
    go_roundw
    case rel => exact ⟨rfl, cn + 1, m, by go_num, by omega, by omega, HDn, HI, HB⟩
    case measure => simp only [intOf]; omega
   ·have hx : N / D + 1 = res ∧ cn = cnt := by simpa using hst
    obtain ⟨rfl, rfl⟩ := hx
    have hsz : ((⟨(Lib.decDigits (N / D + 1)).toArray⟩ : ByteArray).size : Nat) = (Lib.decDigits (N / D + 1)).length := by show Array.size _ = _; rw [List.size_toArray]
    have hdl := pF HF.out.q1
    have HT := Lib.hid (qo w11 A11 c11 (N / D + 1) sP HF.out.q1)
    have hT2 : ∀ W, _ := fun W => qp W (N / D + 1) HF.out.q1
    have HT2 := Lib.hid hT2
    have HB := Lib.hid hB
    clear hst hB hin2 nD sQ sR sP hT2
    generalize hTR : Lib.trimRightB (Lib.decDigits (N / D + 1)) 48 = TR at *
    generalize hDL : (Lib.decDigits (N / D + 1)).length = dl at *
    generalize (⟨(Lib.decDigits (N / D + 1)).toArray⟩ : ByteArray) = DS at *
    have HTR := Lib.hid (And.intro hTR hDL)
    clear hTR hDL
    go_wp2_with (first | (go_at_call 90; refine HT.out.mono ?_; rintro e1 w12 ⟨rfl, hb2⟩; have HZ := Lib.hid hb2; clear hb2) | (go_at_call 93; refine (HT2.out _).mono ?_; rintro e1 w13 ⟨rfl, hb2⟩; have HY := Lib.hid hb2; clear hb2))
    rw [Exit.noGoto_ret]
    exact bodyPost_ret (v := .tuple #[.string ⟨TR.toArray⟩, .int .i64 (E + ((dl : Int) - (cn : Int)))]) (by simp [results, Tryz.results75, go_sem]) rfl ⟨by rw [HTR.out.1, HTR.out.2, show E + ((dl : Int) - (cn : Int)) = E + (dl : Int) - (cn : Int) by omega], by rw [HGE.out]; exact kM HGE.out (kM HGE.out HB.out HZ.out) HY.out⟩
end Go.Proofs.YtafikkmnkeddpaaGreatDoor
namespace Go.Proofs.YtafikkmnkeddpaaGreatDoor.P
open Go.RowKit Go.Proofs.YtafikkmnkeddpaaGreatDoorW.PrintWords Go.Proofs.YtafikkmnkeddpaaGreatDoorW.PrintLast
theorem DZ (n : Nat) (e : Int) : ∀ (f : Nat) (x r : Int), Ac n e f x = some r → x ≤ r ∧ r < x + f
 | 0, x, r, h => by simp [Ac] at h
 | f + 1, x, r, h => by
  rw [Ac] at h
  split at h
  ·cases h; omega
  ·have := DZ n e f (x + 1) r h; omega
def fJ.f (a0_0 : Bool) (a0_1 a0_2 a0_3 : Int) : Option (ByteArray × Int) :=
 if Hf a0_1 a0_2 ∧ (a0_3 = 1 ∨ a0_3 = 2) then
  (jQ.f a0_0 a0_1 a0_2 a0_3).bind fun E => (shortS a0_1.toNat a0_2 a0_3.toNat E 40 1).map fun r => (⟨(Lib.trimRightB (Lib.decDigits r.1) 48).toArray⟩, E + ((Lib.decDigits r.1).length : Int) - (r.2 : Int))
 else none
theorem fJ.calls (a0_0 : Bool) (a0_1 a0_2 a0_3 : Int) (r1 : ByteArray) (r2 : Int) (w : World) (hG : GOk w) (h : fJ.f a0_0 a0_1 a0_2 a0_3 = some (r1, r2)) :
  Calls Tryz.prog 75 #[.agg #[.bool a0_0, .int .u64 a0_1, .int .i64 a0_2, .int .u64 a0_3]] w fun e w' => e = .returned (.tuple #[.string r1, .int .i64 r2]) ∧ Below w.heap.size w w' := by
 unfold fJ.f at h
 split at h
 ·rename_i hok
  obtain ⟨E, hE, h2⟩ := Option.bind_eq_some_iff.mp h
  obtain ⟨⟨res, cnt⟩, h3, h4⟩ := Option.map_eq_some_iff.mp h2
  cases h4
  obtain ⟨⟨o1, o2, o3, o4⟩, hb⟩ := hok
  obtain ⟨n, rfl⟩ : ∃ n : Nat, a0_1 = n := ⟨a0_1.toNat, by omega⟩
  obtain ⟨bl, rfl⟩ : ∃ bl : Nat, a0_3 = bl := ⟨a0_3.toNat, by omega⟩
  have hbn : dB n ≤ 54 := mY (show n < 2 ^ 54 by have : (2 : Nat) ^ 54 = 18014398509481984 := (by decide); omega)
  unfold jQ.f at hE
  rw [if_pos ⟨o1, o2, o3, o4⟩] at hE
  have q1 := DZ _ _ _ _ _ hE
  have q2 := DC (a := (a0_2 + ((dB ((n : Int).toNat) : Nat) : Int) - 1) * 30103) (by rw [Int.toNat_natCast]; omega) (by rw [Int.toNat_natCast]; omega)
  exact Df w a0_0 n bl a0_2 E res cnt (by omega) (by omega) o3 o4 (by omega) (by omega) (by omega) (fun W => yJ W a0_0 n a0_2 (bl : Int) E (by omega) (by omega) o3 o4 hE) h3
 ·cases h
end Go.Proofs.YtafikkmnkeddpaaGreatDoor.P
namespace Go.Proofs.YtafikkmnkeddpaaGreatDoor
open Go.RowKit
set_option maxRecDepth 10000 in
theorem KJ (w : World) (hR : jA w) (f r : Int) (hf : (f = 0 ∧ r = 32768) ∨ (f = 1 ∧ r = 32768) ∨ (f = 2 ∧ r = 2147483648) ∨ (f = 3 ∧ r = 9223372036854775808)) : Calls Tryz.prog 73 #[.int .i64 f] w fun e w' => e = .returned (.int .u64 r) ∧ Below w.heap.size w w' := by
 have h0 : w.cell? ⟨2, 0, none⟩ = some (.int .i64 16) := hR.2 0 (by decide)
 have h1 : w.cell? ⟨2, 4, none⟩ = some (.int .i64 16) := hR.2 4 (by decide)
 have h2 : w.cell? ⟨2, 8, none⟩ = some (.int .i64 32) := hR.2 8 (by decide)
 have h3 : w.cell? ⟨2, 12, none⟩ = some (.int .i64 64) := hR.2 12 (by decide)
 clear hR
 rcases hf with ⟨rfl, rfl⟩ | ⟨rfl, rfl⟩ | ⟨rfl, rfl⟩ | ⟨rfl, rfl⟩
 all_goals
  go_enter Tryz.func73, Tryz.ntmps73
  go_wp2
  go_ret
  exact ⟨rfl, Below.refl _ _⟩
end Go.Proofs.YtafikkmnkeddpaaGreatDoor
namespace Go.Proofs.YtafikkmnkeddpaaGreatDoor.P
open Go.RowKit Go.Proofs.YtafikkmnkeddpaaGreatDoorW.PrintWords Go.Proofs.YtafikkmnkeddpaaGreatDoorW.PrintLast
def jg.f (a0 : Int) : Option Int := if a0 = 0 then some 32768 else if a0 = 1 then some 32768 else if a0 = 2 then some 2147483648 else if a0 = 3 then some 9223372036854775808 else none
theorem jg.calls (a0 : Int) (r : Int) (w : World) (hG : GOk w) (h : jg.f a0 = some r) :
  Calls Tryz.prog 73 #[.int .i64 a0] w fun e w' => e = .returned (.int .u64 r) ∧ Below w.heap.size w w' := by
 refine KJ w hG.tabs.rows a0 r ?_
 unfold jg.f at h
 split at h
 ·rename_i e; exact .inl ⟨e, (Option.some.inj h).symm⟩
 ·split at h
  ·rename_i e; exact .inr (.inl ⟨e, (Option.some.inj h).symm⟩)
  ·split at h
   ·rename_i e; exact .inr (.inr (.inl ⟨e, (Option.some.inj h).symm⟩))
   ·split at h
    ·rename_i e; exact .inr (.inr (.inr ⟨e, (Option.some.inj h).symm⟩))
    ·cases h
end Go.Proofs.YtafikkmnkeddpaaGreatDoor.P
