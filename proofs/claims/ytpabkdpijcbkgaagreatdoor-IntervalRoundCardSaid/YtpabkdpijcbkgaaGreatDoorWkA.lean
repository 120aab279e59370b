/- Walks: natural.trim, Clone, Make. -/
import Derived.Test.YtpabkdpijcbkgaaGreatDoorFacts
import Derived.Test.YtpabkdpijcbkgaaGreatDoorVal
set_option linter.unusedSimpArgs false
set_option linter.unusedVariables false
namespace Go.Proofs.YtpabkdpijcbkgaaGreatDoor
open Go Go.RowKit Rc


set_option maxRecDepth 10000 in
theorem trim_spec (l : List Nat) (hs : Small l) : Ctr Tryz.prog 60 [V.one (natL l)] (R.one (V.one (natL (limbs (val l))))) := by
  refine Ctr.of_body Tryz.func60 rfl Tryz.ntmps60 (Nat.le_of_ble_eq_true rfl) (fun w0 A0 => ?_)
  refine Tc_seq ?_
  refine Tc_len (s := 0) rfl (fun hm => ?_)
  refine Tc_region ?_
  refine Tl_q (JO_q rfl rfl (Jq_assign_nil rfl)) rfl ?_
  refine Tl_end ?_
  refine At_then ?_
  refine Tc_seq ?_
  refine Tc_region ?_
  refine Tl_q (JO_q rfl rfl (Jq_move rfl rfl)) rfl ?_
  refine Tl_q (JO_q rfl rfl (Jq_len rfl rfl un23)) rfl ?_
  refine Tl_q (JO_q rfl rfl (Jq_assign rfl rfl)) rfl ?_
  refine Tl_end ?_
  refine At_then ?_
  refine Tc_seq ?_
  refine Tc_block ?_
  refine Tc_loopR (fun m Γ H => ∃ (n : Nat), n = m ∧ Γ = [(0, some (D.v (V.one (natL l)))), (3, some (D.int n))] ∧ H = [] ∧ n ≤ l.length ∧ ∀ i (hi : i < l.length), n ≤ i → l[i] = 0) ⟨l.length, rfl, rfl, rfl, Nat.le_refl _, fun i hi h => absurd hi (by omega)⟩ ⟨rfl, rfl, trivial⟩ ?_
  rintro m Γ H ⟨n, rfl, rfl, rfl, h⟩
  refine Tc_seq ?_
  refine Tc_seq ?_
  refine Tc_region ?_
  refine Tl_q (JO_q rfl rfl (Jq_move rfl rfl)) rfl ?_
  by_cases hp : 0 < n
  · skip
    refine Tl_q (JO_q rfl rfl (Jq_gtr rfl rfl rfl (b := true) (dT (by omega)))) rfl ?_
    refine Tl_q (JO_q rfl rfl (Jq_move rfl rfl)) rfl ?_
    refine Tl_q (JO_qg rfl rfl rfl rfl (Jq_move rfl rfl)) rfl ?_
    refine Tl_q (JO_qg rfl rfl rfl rfl (Jq_move rfl rfl)) rfl ?_
    refine Tl_q (JO_qg rfl rfl rfl rfl (Jq_sub rfl rfl rfl (r := ((n - 1 : Nat) : Int)) (w64 (by omega) (by omega) (by omega)))) rfl ?_
    refine Tl_q (JO_qg rfl rfl rfl rfl (Jq_index1 rfl rfl rfl un23 ty62 (by omega) (by omega) (get_u32 (by omega)))) rfl ?_
    refine Tl_q (JO_qg rfl rfl rfl rfl (Jq_load_ref rfl rfl ty62)) rfl ?_
    by_cases hz : l[n - 1]'(by omega) = 0
    · skip
      refine Tl_q (JO_qg rfl rfl rfl rfl (Jq_eql rfl rfl rfl (b := true) (eT (by omega)))) rfl ?_
      refine Tl_q (JO_q rfl rfl (Jq_pick_t rfl rfl rfl)) rfl ?_
      refine Tl_end ?_
      refine At_then ?_
      refine Tc_t rfl ?_
      refine Tc_skipA ?_
      refine At_then ?_
      refine Tc_block ?_
      refine Tc_region ?_
      refine Tl_q (JO_q rfl rfl (Jq_move rfl rfl)) rfl ?_
      refine Tl_q (JO_q rfl rfl (Jq_sub rfl rfl rfl (r := ((n - 1 : Nat) : Int)) (w64 (by omega) (by omega) (by omega)))) rfl ?_
      refine Tl_q (JO_q rfl rfl (Jq_assign rfl rfl)) rfl ?_
      refine Tl_end ?_
      refine At_block ?_
      exact At_next (m' := n - 1) (by omega) ⟨n - 1, rfl, rfl, rfl, by omega, fun i hi h1 => (if e : i = n - 1 then by subst e; exact hz else h.2 i hi (by omega))⟩ ⟨rfl, rfl, trivial⟩
    · skip
      refine Tl_q (JO_qg rfl rfl rfl rfl (Jq_eql rfl rfl rfl (b := false) (eF (by omega)))) rfl ?_
      refine Tl_q (JO_q rfl rfl (Jq_pick_t rfl rfl rfl)) rfl ?_
      refine Tl_end ?_
      refine At_then ?_
      refine Tc_f rfl ?_
      refine Tc_exitA ?_
      refine At_then_exit ?_
      refine At_then_exit ?_
      refine At_block_exit ?_
      refine At_then ?_
      refine Tc_seq ?_
      refine Tc_seq ?_
      refine Tc_region ?_
      refine Tl_q (JO_q rfl rfl (Jq_move rfl rfl)) rfl ?_
      refine Tl_q (JO_q rfl rfl (Jq_eql rfl rfl rfl (b := false) (eF (by omega)))) rfl ?_
      refine Tl_end ?_
      refine At_then ?_
      refine Tc_f rfl ?_
      refine Tc_skipA ?_
      refine At_then ?_
      refine Tc_seq ?_
      refine Tc_region ?_
      refine Tl_q (JO_q rfl rfl (Jq_move rfl rfl)) rfl ?_
      refine Tl_q (JO_q rfl rfl (Jq_move rfl rfl)) rfl ?_
      refine Tl_q (JO_q rfl rfl (Jq_slice_hi_nat rfl rfl rfl un23 ty62 (by omega))) rfl ?_
      refine Tl_q (JO_q rfl rfl (Jq_assign rfl rfl)) rfl ?_
      refine Tl_end ?_
      refine At_then ?_
      exact Tc_ret1 (fun _ _ h => h) rfl rfl (by rw [← limbs_take hs n h.1 h.2 (fun _ => hz)])
  · skip
    refine Tl_q (JO_q rfl rfl (Jq_gtr rfl rfl rfl (b := false) (dF (by omega)))) rfl ?_
    refine Tl_q (JO_q rfl rfl (Jq_move rfl rfl)) rfl ?_
    refine Tl_q (JO_skip rfl rfl rfl) rfl ?_
    refine Tl_q (JO_skip rfl rfl rfl) rfl ?_
    refine Tl_q (JO_skip rfl rfl rfl) rfl ?_
    refine Tl_q (JO_skip rfl rfl rfl) rfl ?_
    refine Tl_q (JO_skip rfl rfl rfl) rfl ?_
    refine Tl_q (JO_skip rfl rfl rfl) rfl ?_
    refine Tl_q (JO_q rfl rfl (Jq_pick_f rfl rfl rfl)) rfl ?_
    refine Tl_end ?_
    refine At_then ?_
    refine Tc_f rfl ?_
    refine Tc_exitA ?_
    refine At_then_exit ?_
    refine At_then_exit ?_
    refine At_block_exit ?_
    refine At_then ?_
    refine Tc_seq ?_
    refine Tc_seq ?_
    refine Tc_region ?_
    refine Tl_q (JO_q rfl rfl (Jq_move rfl rfl)) rfl ?_
    refine Tl_q (JO_q rfl rfl (Jq_eql rfl rfl rfl (b := true) (eT (by omega)))) rfl ?_
    refine Tl_end ?_
    refine At_then ?_
    refine Tc_t rfl ?_
    refine Tc_seq ?_
    refine Tc_region ?_
    refine Tl_q (JO_q rfl rfl (Jq_assign_nil rfl)) rfl ?_
    refine Tl_end ?_
    refine At_then ?_
    exact Tc_ret1 (fun _ _ h => h) rfl rfl (by rw [← limbs_take hs n h.1 h.2 (fun h0 => absurd h0 hp), show n = 0 from by omega]; rfl)

end Go.Proofs.YtpabkdpijcbkgaaGreatDoor
