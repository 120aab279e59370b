/- What the listed table gives the walks. -/
import Derived.Test.YtpabkdpijcbkgaaGreatDoorFactsZ
import Derived.Test.YtpabkdpijcbkgaaGreatDoorRows
import Derived.Test.YtpabkdpijcbkgaaGreatDoorDyQ
import Derived.LaidMore
import Derived.LaidLaws
import Derived.LaidHandle
import Derived.JoinedOf
import Derived.ChangeSame
import Derived.ChangeVars
import Derived.Stop.Joined
set_option linter.unusedSimpArgs false
set_option linter.unusedVariables false
namespace Go.Proofs.YtpabkdpijcbkgaaGreatDoor
open Go Go.RowKit Rc


theorem gTab : Tryz.prog.globalNamed "math/bits.deBruijn32tab" = some 0 := by kernel_rfl
theorem tTab : (Tryz.prog.globals[0]?).map (·.type) = some 101 := by kernel_rfl
theorem uTab : Tryz.prog.underlying 101 = some (.array 32 5) := by kernel_rfl
theorem uEl : Tryz.prog.underlying 5 = some (.int .u8) := by kernel_rfl
theorem cEl : Tryz.prog.cellsOf 5 = 1 := by kernel_rfl
theorem cTab : Tryz.prog.cellsOf 101 = 32 := by kernel_rfl
theorem fldD : fldL Tryz.prog 42 = some [(0, 4), (1, 23), (2, 3)] := by kernel_rfl
theorem cellsD : Tryz.prog.cellsOf 42 = 3 := by kernel_rfl
theorem undI : Tryz.prog.underlying 3 = some (.int .i64) := by kernel_rfl
theorem cellsI64 : Tryz.prog.cellsOf 3 = 1 := by kernel_rfl
open Go.ChangeShapes Go.WideShapes
section
variable {H : Type} {enc : TypeId × Value → H} {P : Program} {w : World} {base : Nat} {held : Bool} {tb tn tu tr : Nat}
theorem rdv_dyadic (hT : NumTy P tb tn tu tr) {td ti : Nat} (hf : fldL P td = some [(0, tb), (1, tn), (2, ti)]) (hc : P.cellsOf td = 3) (hi : P.underlying ti = some (.int .i64)) (hci : P.cellsOf ti = 1)
    {r : Reach} {b0 : Nat} {v : Value} {d : DataW H} {p : List MemPlace} (hv : Value.okWide P w r b0 td v) (h : DataW.Trod enc P w base (fun _ => true) held td v d p) :
    ∃ (s : Bool) (l : List Nat) (z : Int), Small l ∧ -9223372036854775808 ≤ z ∧ z ≤ 9223372036854775807 ∧ (V.agg [Leaf.val (.bool s), natL l, Leaf.val (.int .i64 z)]).den (here w) v w := by
  obtain ⟨cs, fuel, x, rfl, hx⟩ := rd_agg hf hv h
  obtain ⟨hlen, n, hall⟩ := rd_fields hf hx
  rw [hc] at hlen
  match cs, hlen with
  | [c0, c1, c2], _ =>
    obtain ⟨y0, h0⟩ := hall 0 _ _ rfl
    obtain ⟨y1, h1⟩ := hall 1 _ _ rfl
    obtain ⟨y2, h2⟩ := hall 2 _ _ rfl
    rw [hT.cb] at h0
    rw [hT.cn] at h1
    rw [hci] at h2
    obtain ⟨b, e0⟩ := rd_bool hT.b h0
    obtain ⟨k1, l1, e1, s1, d1⟩ := rd_nat hT.n hT.u hT.cu h1
    obtain ⟨z, e2, hw⟩ := rd_int hi h2
    have hz := wf_i64 hw
    simp at e0 e1 e2
    subst e0; subst e1; subst e2
    exact ⟨b, l1, z, s1, hz.1, hz.2, [_, _, _], rfl, ⟨rfl, rfl⟩, d1, ⟨rfl, rfl⟩, trivial⟩
end
@[reducible] def laidL : List (String × DataW Unit) := [("math/bits.deBruijn32tab", Rows.laid_math_bits_deBruijn32tab)]
theorem door_met (os : Os) (args : Array Value) : laidMetH Tryz.prog laidL ((World.doorLaid Tryz.prog 400 os).forCall (fun _ _ => 0) ⟨#[], args, []⟩).memory :=
  laidMetH_of_parts3 (fuel := 8) (laidMet_of_run' 8 (by kernel_rfl) (by kernel_rfl)) (by kernel_rfl) (by kernel_rfl)

theorem tab_data : (Rows.laid_math_bits_deBruijn32tab : DataW Unit) = .agg (bruijn.map fun n : Nat => .lit (.int .u8 (n : Int))) := by kernel_rfl
theorem glob_of_laid {W : World} (h : laidMetH Tryz.prog laidL W) : Glob W := by
  rw [MakeChecks.laidMetH_plain _ _ _ (by kernel_rfl)] at h
  obtain ⟨ps, ⟨g0, t0, cs0, f0, p0, q0, hg0, ht0, hv0, hd0, _, _⟩, _⟩ := h
  obtain rfl := Option.some.inj (gTab.symm.trans hg0)
  obtain rfl := Option.some.inj (tTab.symm.trans ht0)
  obtain ⟨xs, m, _, hx, hlen, hxs, hel⟩ := DataW.trod_array uTab hd0
  rw [tab_data] at hx
  have hd := congrArg Prod.fst hx
  simp only [DataW.agg.injEq] at hd
  rw [cTab] at hlen
  have key : ∀ (i : Nat) (k : Nat), bruijn[i]? = some k → cs0[i]? = some (.int .u8 (k : Int)) := by
    intro i k hk
    have hi : i < 32 := (List.getElem?_eq_some_iff.1 hk).1
    have h1 := hel i hi
    rw [List.getElem?_eq_getElem (by omega)] at h1
    obtain ⟨n, hc, hxn, _⟩ := DataW.trod_int uEl h1
    have h2 := congrArg (fun l => l[i]?) hd
    simp only [List.getElem?_map, hk, List.getElem?_eq_getElem (show i < xs.length by omega), Option.map_some, hxn] at h2
    have h3 : n = (k : Int) := by
      have := Option.some.inj h2
      simp only [DataW.lit.injEq, Lit.int.injEq, true_and] at this
      exact this.symm
    subst h3
    rw [cEl, Nat.mul_one] at hc
    have h4 := congrArg (fun l => l[0]?) hc
    simp only [List.getElem?_take, List.getElem?_drop, Nat.add_zero, Nat.zero_lt_one, if_true, List.getElem?_cons_zero] at h4
    rw [← Array.getElem?_toList]
    exact h4
  intro p hp
  have hp' : p = (0, bruijn.map fun n : Nat => Value.int .u8 (n : Int)) := by simpa [tab, bruijn] using hp
  subst hp'
  have hcell := fun i : Nat => World.var?_cell hg0 hv0 i
  refine ⟨?_, fun i v hv => ?_⟩
  · have h0 := hcell 0
    rw [key 0 0 rfl] at h0
    unfold World.cell? at h0
    cases hh : W.heap[0]? with
    | none => simp [hh] at h0
    | some o => exact (Array.getElem?_eq_some_iff.1 hh).1
  · simp only [List.getElem?_map] at hv
    cases hk : bruijn[i]? with
    | none => rw [hk] at hv; simp at hv
    | some k =>
      rw [hk] at hv
      simp only [Option.map_some, Option.some.injEq] at hv
      rw [hcell i, key i k hk, hv]

end Go.Proofs.YtpabkdpijcbkgaaGreatDoor
