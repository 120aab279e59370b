/- For every input, WholePoints returns true, and its arguments read afterwards as they read before; the table as the program text lays it. -/
import Derived.Test.YtakccfmgipajnaaGreatDoorWp15
import Derived.Test.YtakccfmgipajnaaGreatDoorRows
import Derived.Test.YtakccfmgipajnaaGreatDoorCards
import Derived.Test.YtakccfmgipajnaaGreatDoorTie
import Derived.WalkKit
import Derived.ProofKit
import Derived.OpenShut
import Derived.ShutString
import Derived.ChangeOld
import Derived.Below
import Derived.LaidMore
import Derived.SevenTiedAt
import Derived.Stop.Joined
namespace Go.Proofs.YtakccfmgipajnaaGreatDoor.wholePoints
open Go Go.ChangeShapes Go.WideShapes Go.ChangeAt Go.RowKit Rc
open Go.ChangeMaps (open_string shut_string)
set_option linter.unusedVariables false
set_option maxRecDepth 100000 in
theorem lifted (os : Os) (started : os.Started) (H : Type) (enc : TypeId × Value → H) :
    ReturnsInHanded {} Tryz.checked os 3 .any (fun w args => (Rows.wholePointsSpec.pre enc Tryz.prog Tryz.f3 [] false w args ∧ laidMetH Tryz.prog uH w) ∧ sizedMet enc Tryz.prog Tryz.f3 (OpenSpec.ofChange Rows.wholePointsSpec) false w args) (Rows.wholePointsSpec.post enc Tryz.prog Tryz.f3 false true false false) := by
  refine returnsInHanded_of_change_and (C := Tryz.checked) (X := fun w _ => laidMetH Tryz.prog uH w) (fun _ _ _ hh h => h.of_heap hh) own started (by kernel_rfl) Tryz.func3
    (ChangeSpec.witness_shaped (enc := enc) (C := Tryz.checked) (os := os) (X := fun w _ => laidMetH Tryz.prog uH w) false (World.doorLaid Tryz.prog 400 os) #[.slice none 0 0, .slice none 0 0, .int .u16 0] 8 rfl (World.shaped_of_RefB (by kernel_rfl) (by kernel_rfl)) (by kernel_rfl) (by kernel_rfl) (by kernel_rfl) (UB os _)) ?_
  intro W base args ds gs before hval0 hW _ _ hL _
  have hval : ∀ (j : Nat) t v, Tryz.f3.params[j]? = some t → args[j]? = some v → Value.okWide Tryz.prog W .any base t v := hval0
  have hW' := hW
  obtain ⟨p, q, hA0, hV, rfl, hfz, hnd⟩ := hW
  have hA : DataW.TrodAll enc Tryz.prog W 0 (fun _ => true) true Tryz.f3.params.toList args.toList ds p := hA0
  rw [Tryz.params3] at hA hval
  obtain ⟨v0, vs0, d0, ds0, p0, q0, hargs, rfl, rfl, h0, r0⟩ := trodAll_cons hA
  obtain ⟨v1, vs1, d1, ds1, p1, q1, rfl, rfl, rfl, h1, r1⟩ := trodAll_cons r0
  obtain ⟨v2, vs2, d2, ds2, p2, q2, rfl, rfl, rfl, h2, r2⟩ := trodAll_cons r1
  obtain ⟨rfl, rfl, rfl⟩ := trodAll_nil r2
  obtain rfl : args = #[v0, v1, v2] := by cases args; simp_all
  obtain ⟨rfl, rfl⟩ := trodVars_none hV
  have hg := SW hL
  have k0 := h0
  have lt0 : ∀ x ∈ p0, x.block < W.heap.size := by obtain ⟨m, hm⟩ := k0; exact DataW.trod_lt m _ _ _ hm
  obtain ⟨l0, hl0, hb0, e0⟩ := FX Eo En J3 (hval 0 22 v0 rfl rfl) h0
  have k1 := h1
  have lt1 : ∀ x ∈ p1, x.block < W.heap.size := by obtain ⟨m, hm⟩ := k1; exact DataW.trod_lt m _ _ _ hm
  obtain ⟨l1, hl1, hb1, e1⟩ := FX Eo En J3 (hval 1 22 v1 rfl rfl) h1
  have k2 := h2
  have lt2 : ∀ x ∈ p2, x.block < W.heap.size := by obtain ⟨m, hm⟩ := k2; exact DataW.trod_lt m _ _ _ hm
  obtain ⟨n2, hn2, e2⟩ := OT Mx (hval 2 23 v2 rfl rfl) h2
  clear hA0 hval0
  refine (Sa (R9 l0 hb0 l1 hb1 n2 hn2) hg (vs := [v0, v1, v2]) ⟨e0, e1, e2, trivial⟩).mono fun e W' ⟨he, bel⟩ => ?_
  subst he
  exact ⟨_, rfl, _, _, _, [], _, [], hW', trodAll_mk1 (shut_bool Tryz.underlying4 _), (trodAll_cons_mk (Below.trod laidOut (by kernel_rfl) (of_decide_eq_true (by kernel_rfl)) k0 bel lt0) (trodAll_cons_mk (Below.trod laidOut (by kernel_rfl) (of_decide_eq_true (by kernel_rfl)) k1 bel lt1) (trodAll_cons_mk (Below.trod laidOut (by kernel_rfl) (of_decide_eq_true (by kernel_rfl)) k2 bel lt2) trodAll_mk0))), rfl, bel.frame _, fun h => by cases h⟩
theorem over : Rows.wholePointsRow.holds Tryz.pinned (OpenSpec.ofChange Rows.wholePointsSpec) :=
  OpenClaim.holds_of_wide 3 Tryz.f3 rfl rfl rfl rfl rfl rfl rfl ⟨rfl, rfl, rfl, rfl, rfl⟩ rfl rfl rfl rfl rfl (by kernel_rfl) Tryz.func3 Sp
    (of_decide_eq_true (by kernel_rfl)) (by unfold Func.isWrapper; first | (rw [if_pos (by decide +kernel)]; kernel_rfl) | (rw [if_neg (by decide +kernel)]; exact ⟨rfl, rfl⟩))
    (fun os started H enc _ => lifted os started H enc)
theorem GI : (Tryz.prog.funcs.toList.any Func.goes) = false := by kernel_rfl
theorem SV (g : FuncId) : (Tryz.prog.funcs[g]?).any Func.goes = false := by
  cases h : Tryz.prog.funcs[g]? with
  | none => rfl
  | some fn =>
    have hm : fn ∈ Tryz.prog.funcs.toList := List.mem_of_getElem? (show Tryz.prog.funcs.toList[g]? = some fn by simpa using h)
    show fn.goes = false
    have := List.any_eq_false.1 GI fn hm
    simpa using this
theorem SU (f : FuncId) : Tryz.prog.goes f = false := by
  unfold Program.goes
  rw [Bool.or_eq_false_iff]
  refine ⟨List.any_eq_false.2 fun g _ => by rw [SV]; decide, ?_⟩
  rw [← Array.any_toList, GI, Bool.and_false]
theorem SS : false = Rows.wholePointsRow.goesBy Tryz.prog := by
  show false = ((Tryz.prog.funcNamed "relucert/relucerttop.WholePoints").any Tryz.prog.goes || false)
  cases Tryz.prog.funcNamed "relucert/relucerttop.WholePoints" with
  | none => rfl
  | some f => rw [Option.any_some, SU, Bool.or_false]
theorem proved : Rows.WholePointsCardSaid :=
  Claim7.holds_tied_plain_at .later [] [.data, .data, .data, .data] true (true, "f3de1b52abc4218b4f3fb4fddb35ffc5c5bad3871d688c95aec4b94c265864c2") true
    over (fun _ h => by cases h) (by kernel_rfl) (fun _ h => by cases h) wholePoints_row_tie rfl ⟨rfl, rfl⟩ (by kernel_rfl) rfl
    (fun f fn hf hfn => by
      obtain rfl : f = 3 := Option.some.inj ((show Tryz.prog.funcNamed "relucert/relucerttop.WholePoints" = some 3 by kernel_rfl).symm.trans hf) |>.symm
      obtain rfl : fn = Tryz.f3 := (Option.some.inj (Tryz.func3.symm.trans hfn)).symm
      exact ⟨by kernel_rfl, fun j t ht => by
        rw [Tryz.params3] at ht
        have hm : t ∈ [22, 23] := by simpa using Array.mem_of_getElem? ht
        have hall : ([22, 23].all fun u => !Tryz.prog.wantsStandIn u) = true := by kernel_rfl
        exact (show Tryz.prog.wantsStandIn t = false by simpa using List.all_eq_true.1 hall t hm)⟩)
    SS
#print axioms proved
end Go.Proofs.YtakccfmgipajnaaGreatDoor.wholePoints
