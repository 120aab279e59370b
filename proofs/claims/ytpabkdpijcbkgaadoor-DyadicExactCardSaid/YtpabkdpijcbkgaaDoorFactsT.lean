/- What the listed table gives the walks. -/
import Derived.Test.YtpabkdpijcbkgaaDoorFactsZ
import Derived.Test.YtpabkdpijcbkgaaDoorRows
import Derived.Test.YtpabkdpijcbkgaaDoorDyM
import Derived.LaidMore
import Derived.LaidLaws
import Derived.LaidHandle
import Derived.JoinedOf
import Derived.ChangeSame
import Derived.ChangeVars
import Derived.Stop.Joined
set_option linter.unusedSimpArgs false
set_option linter.unusedVariables false
namespace Go.Proofs.YtpabkdpijcbkgaaDoor
open Go Go.RowKit Rc


theorem gTab : Tryd.prog.globalNamed "math/bits.deBruijn32tab" = some 0 := by kernel_rfl
theorem tTab : (Tryd.prog.globals[0]?).map (·.type) = some 98 := by kernel_rfl
theorem uTab : Tryd.prog.underlying 98 = some (.array 32 5) := by kernel_rfl
theorem uEl : Tryd.prog.underlying 5 = some (.int .u8) := by kernel_rfl
theorem cEl : Tryd.prog.cellsOf 5 = 1 := by kernel_rfl
theorem cTab : Tryd.prog.cellsOf 98 = 32 := by kernel_rfl
@[reducible] def laidL : List (String × DataW Unit) := [("math/bits.deBruijn32tab", Rows.laid_math_bits_deBruijn32tab)]
theorem door_met (os : Os) (args : Array Value) : laidMetH Tryd.prog laidL ((World.doorLaid Tryd.prog 400 os).forCall (fun _ _ => 0) ⟨#[], args, []⟩).memory :=
  laidMetH_of_parts3 (fuel := 8) (laidMet_of_run' 8 (by kernel_rfl) (by kernel_rfl)) (by kernel_rfl) (by kernel_rfl)

theorem tab_data : (Rows.laid_math_bits_deBruijn32tab : DataW Unit) = .agg (bruijn.map fun n : Nat => .lit (.int .u8 (n : Int))) := by kernel_rfl
theorem glob_of_laid {W : World} (h : laidMetH Tryd.prog laidL W) : Glob W := by
  rw [MakeChecks.laidMetH_plain _ _ _ (by kernel_rfl)] at h
  obtain ⟨ps, ⟨g0, t0, cs0, f0, p0, q0, hg0, ht0, hv0, hd0, _, _⟩, _⟩ := h
  obtain rfl := Option.some.inj (gTab.symm.trans hg0)
  obtain rfl := Option.some.inj (tTab.symm.trans ht0)
  obtain ⟨xs, m, _, hx, hlen, hxs, hel⟩ := DataW.trod_array uTab hd0
  rw [tab_data] at hx
  have hd := congrArg Prod.fst hx
  simp only [DataW.agg.injEq] at hd
  rw [cTab] at hlen
  have key : ∀ (i : Nat) (k : Nat), bruijn[i]? = some k → cs0[i]? = some (.int .u8 (k : Int)) := by
    intro i k hk
    have hi : i < 32 := (List.getElem?_eq_some_iff.1 hk).1
    have h1 := hel i hi
    rw [List.getElem?_eq_getElem (by omega)] at h1
    obtain ⟨n, hc, hxn, _⟩ := DataW.trod_int uEl h1
    have h2 := congrArg (fun l => l[i]?) hd
    simp only [List.getElem?_map, hk, List.getElem?_eq_getElem (show i < xs.length by omega), Option.map_some, hxn] at h2
    have h3 : n = (k : Int) := by
      have := Option.some.inj h2
      simp only [DataW.lit.injEq, Lit.int.injEq, true_and] at this
      exact this.symm
    subst h3
    rw [cEl, Nat.mul_one] at hc
    have h4 := congrArg (fun l => l[0]?) hc
    simp only [List.getElem?_take, List.getElem?_drop, Nat.add_zero, Nat.zero_lt_one, if_true, List.getElem?_cons_zero] at h4
    rw [← Array.getElem?_toList]
    exact h4
  intro p hp
  have hp' : p = (0, bruijn.map fun n : Nat => Value.int .u8 (n : Int)) := by simpa [tab, bruijn] using hp
  subst hp'
  have hcell := fun i : Nat => World.var?_cell hg0 hv0 i
  refine ⟨?_, fun i v hv => ?_⟩
  · have h0 := hcell 0
    rw [key 0 0 rfl] at h0
    unfold World.cell? at h0
    cases hh : W.heap[0]? with
    | none => simp [hh] at h0
    | some o => exact (Array.getElem?_eq_some_iff.1 hh).1
  · simp only [List.getElem?_map] at hv
    cases hk : bruijn[i]? with
    | none => rw [hk] at hv; simp at hv
    | some k =>
      rw [hk] at hv
      simp only [Option.map_some, Option.some.injEq] at hv
      rw [hcell i, key i k hk, hv]

end Go.Proofs.YtpabkdpijcbkgaaDoor
