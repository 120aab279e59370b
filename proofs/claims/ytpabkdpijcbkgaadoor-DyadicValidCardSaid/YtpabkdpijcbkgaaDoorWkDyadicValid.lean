/- Walk: a law of chapter 5. -/
import Derived.Test.YtpabkdpijcbkgaaDoorWkP
import Derived.Test.YtpabkdpijcbkgaaDoorLaw5
import Derived.Test.YtpabkdpijcbkgaaDoorFactsB
set_option linter.unusedSimpArgs false
set_option linter.unusedVariables false
namespace Go.Proofs.YtpabkdpijcbkgaaDoor
open Go Go.RowKit Rc


set_option maxRecDepth 10000 in
set_option maxHeartbeats 2000000 in
theorem law_valid_b (s : Bool) (l : List Nat) (e : Int) (hs : Small l) (hD : smallD s l e = false) : Ctr Tryd.prog 7 [V.agg [Leaf.val (.bool s), natL l, Leaf.val (.int .i64 e)]] (R.one (V.one (Leaf.val (.bool (true))))) := by
  refine Ctr.of_body Tryd.func7 rfl Tryd.ntmps7 (Nat.le_of_ble_eq_true rfl) (fun w0 A0 => ?_)
  refine Tc_seq ?_
  refine Tc_region ?_
  refine Tl_e (JO_e rfl rfl (Je_box (n := 0) rfl rfl rfl)) rfl rfl ?_
  refine Tl_q (JO_q rfl rfl (Jq_assign rfl rfl)) rfl ?_
  refine Tl_end ?_
  refine At_then ?_
  refine Tc_seq ?_
  refine Tc_seq ?_
  refine Tc_region ?_
  refine Tl_e (JO_e rfl rfl (Je_call rfl fn10 rfl (l5awake))) rfl rfl ?_
  refine Tl_q (JO_q rfl rfl (Jq_not rfl rfl (c := false) rfl)) rfl ?_
  refine Tl_end ?_
  refine At_then ?_
  refine Tc_f rfl ?_
  refine Tc_skipA ?_
  refine At_then ?_
  refine Tc_seq ?_
  refine Tc_seq ?_
  refine Tc_region ?_
  refine Tl_q (JO_q rfl rfl (Jq_fieldAddr rfl rfl fo29_1 rfl)) rfl ?_
  refine Tl_q (JO_q rfl rfl (Jq_load rfl rfl rfl (by decide) ty23 rfl)) rfl ?_
  refine Tl_q (JO_q rfl rfl (Jq_len rfl rfl un23)) rfl ?_
  by_cases hl : 4 < l.length
  · skip
    refine Tl_q (JO_q rfl rfl (Jq_gtr rfl rfl rfl (b := true) (dT (by omega)))) rfl ?_
    refine Tl_end ?_
    refine At_then ?_
    refine Tc_t rfl ?_
    refine Tc_seq ?_
    refine Tc_region ?_
    refine Tl_q (JO_q rfl rfl (Jq_assign rfl rfl)) rfl ?_
    refine Tl_end ?_
    refine At_then ?_
    exact Tc_ret1 (fun _ _ h => h) rfl rfl rfl
  · skip
    refine Tl_q (JO_q rfl rfl (Jq_gtr rfl rfl rfl (b := false) (dF (by omega)))) rfl ?_
    refine Tl_end ?_
    refine At_then ?_
    refine Tc_f rfl ?_
    refine Tc_skipA ?_
    refine At_then ?_
    refine Tc_seq ?_
    refine Tc_seq ?_
    refine Tc_norm [(1, some (D.ptr 0 0))] [some ⟨29, [Leaf.val (.bool s), natL l, Leaf.val (.int .i64 e)], none, none⟩] ⟨rfl, trivial⟩ rfl ?_
    refine Tc_drawK 0 [none, none, none, none, none] [] follows (by kernel_rfl) ?_
    refine DK_q (JO_q rfl rfl (Jq_load_agg rfl rfl rfl (by decide) ty29 (by decide) (Nat.le_of_ble_eq_true rfl) rfl)) ?_
    refine DK_c rfl rfl (Jd_call rfl fn30 rfl (dvalid s l e hs)) ?_
    refine DK_q (JO_q rfl rfl (Jq_load_agg rfl rfl rfl (by decide) ty29 (by decide) (Nat.le_of_ble_eq_true rfl) rfl)) ?_
    refine DK_c rfl rfl (Jd_call rfl fn19 rfl (rdvalid s l e hs)) ?_
    refine DK_q (JO_q rfl rfl (Jq_neq_bool rfl rfl rfl un4 (d := _) (rfl))) ?_
    refine DK_is false (by simp) ?_
    refine DK_nil ?_
    refine At_then ?_
    refine Tc_f rfl ?_
    refine Tc_skipA ?_
    refine At_then ?_
    refine Tc_seq ?_
    refine Tc_seq ?_
    refine Tc_region ?_
    refine Tl_q (JO_q rfl rfl (Jq_load_agg rfl rfl rfl (by decide) ty29 (by decide) (Nat.le_of_ble_eq_true rfl) rfl)) rfl ?_
    refine Tl_e (JO_e rfl rfl (Je_call rfl fn33 rfl (l5small s l e hs))) rfl rfl ?_
    refine Tl_is false (hD) ?_
    refine Tl_q (JO_q rfl rfl (Jq_not rfl rfl (c := true) rfl)) rfl ?_
    refine Tl_end ?_
    refine At_then ?_
    refine Tc_t rfl ?_
    refine Tc_seq ?_
    refine Tc_region ?_
    refine Tl_q (JO_q rfl rfl (Jq_assign rfl rfl)) rfl ?_
    refine Tl_end ?_
    refine At_then ?_
    exact Tc_ret1 (fun _ _ h => h) rfl rfl rfl

set_option maxRecDepth 10000 in
set_option maxHeartbeats 2000000 in
theorem law_valid_s (d : Dy) (hD : smallD d.neg (limbs d.mag) d.exp = true) : Ctr Tryd.prog 7 [dV d] (R.one (V.one (Leaf.val (.bool (true))))) := by
  refine Ctr.of_body Tryd.func7 rfl Tryd.ntmps7 (Nat.le_of_ble_eq_true rfl) (fun w0 A0 => ?_)
  obtain ⟨hx, hok, hn, he1, he2⟩ := smallD_facts hD
  haveI id : Bd d 3 := ⟨⟨hn, by omega, by omega⟩⟩
  refine Tc_seq ?_
  refine Tc_region ?_
  refine Tl_e (JO_e rfl rfl (Je_box (n := 0) rfl rfl rfl)) rfl rfl ?_
  refine Tl_q (JO_q rfl rfl (Jq_assign rfl rfl)) rfl ?_
  refine Tl_end ?_
  refine At_then ?_
  refine Tc_seq ?_
  refine Tc_seq ?_
  refine Tc_region ?_
  refine Tl_e (JO_e rfl rfl (Je_call rfl fn10 rfl (l5awake))) rfl rfl ?_
  refine Tl_q (JO_q rfl rfl (Jq_not rfl rfl (c := false) rfl)) rfl ?_
  refine Tl_end ?_
  refine At_then ?_
  refine Tc_f rfl ?_
  refine Tc_skipA ?_
  refine At_then ?_
  refine Tc_seq ?_
  refine Tc_seq ?_
  refine Tc_region ?_
  refine Tl_q (JO_q rfl rfl (Jq_fieldAddr rfl rfl fo29_1 rfl)) rfl ?_
  refine Tl_q (JO_q rfl rfl (Jq_load rfl rfl rfl (by decide) ty23 rfl)) rfl ?_
  refine Tl_q (JO_q rfl rfl (Jq_len rfl rfl un23)) rfl ?_
  refine Tl_q (JO_q rfl rfl (Jq_gtr rfl rfl rfl (b := false) (dF (by omega)))) rfl ?_
  refine Tl_end ?_
  refine At_then ?_
  refine Tc_f rfl ?_
  refine Tc_skipA ?_
  refine At_then ?_
  refine Tc_seq ?_
  refine Tc_seq ?_
  refine Tc_norm [(1, some (D.ptr 0 0))] [some ⟨29, [Leaf.val (.bool d.neg), natL (limbs (d.mag)), Leaf.val (.int .i64 d.exp)], none, none⟩] ⟨rfl, trivial⟩ rfl ?_
  refine Tc_drawK 0 [none, none, none, none, none] [] follows (by kernel_rfl) ?_
  refine DK_q (JO_q rfl rfl (Jq_load_agg rfl rfl rfl (by decide) ty29 (by decide) (Nat.le_of_ble_eq_true rfl) rfl)) ?_
  refine DK_c rfl rfl (Jd_call rfl fn30 rfl (dvalid d.neg (limbs (d.mag)) d.exp (small_limbs _))) ?_
  refine DK_q (JO_q rfl rfl (Jq_load_agg rfl rfl rfl (by decide) ty29 (by decide) (Nat.le_of_ble_eq_true rfl) rfl)) ?_
  refine DK_c rfl rfl (Jd_call rfl fn19 rfl (rdvalid d.neg (limbs (d.mag)) d.exp (small_limbs _))) ?_
  refine DK_q (JO_q rfl rfl (Jq_neq_bool rfl rfl rfl un4 (d := _) (rfl))) ?_
  refine DK_is false (by simp) ?_
  refine DK_nil ?_
  refine At_then ?_
  refine Tc_f rfl ?_
  refine Tc_skipA ?_
  refine At_then ?_
  refine Tc_seq ?_
  refine Tc_seq ?_
  refine Tc_region ?_
  refine Tl_q (JO_q rfl rfl (Jq_load_agg rfl rfl rfl (by decide) ty29 (by decide) (Nat.le_of_ble_eq_true rfl) rfl)) rfl ?_
  refine Tl_e (JO_e rfl rfl (Je_call rfl fn33 rfl (l5small d.neg (limbs (d.mag)) d.exp (small_limbs _)))) rfl rfl ?_
  refine Tl_is true (hD) ?_
  refine Tl_q (JO_q rfl rfl (Jq_not rfl rfl (c := false) rfl)) rfl ?_
  refine Tl_end ?_
  refine At_then ?_
  refine Tc_f rfl ?_
  refine Tc_skipA ?_
  refine At_then ?_
  refine Tc_seq ?_
  refine Tc_norm [(1, some (D.ptr 0 0))] [some ⟨29, [Leaf.val (.bool d.neg), natL (limbs (d.mag)), Leaf.val (.int .i64 d.exp)], none, none⟩] ⟨rfl, trivial⟩ rfl ?_
  refine Tc_region ?_
  refine Tl_q (JO_q rfl rfl (Jq_load_agg rfl rfl rfl (by decide) ty29 (by decide) (Nat.le_of_ble_eq_true rfl) rfl)) rfl ?_
  refine Tl_e (JO_e rfl rfl (Je_call rfl fn32 rfl (drat d (Bd.use (by omega))))) rfl rfl ?_
  refine Tl_e (JO_e rfl rfl (Je_call rfl fn29 rfl (dexact (qOf (dq d)) (dq d) (qOf_q _) (Br.use (by omega))))) rfl rfl ?_
  refine Tl_q (JO_q rfl rfl (Jq_move rfl rfl)) rfl ?_
  refine Tl_q (JO_q rfl rfl (Jq_extract rfl rfl rfl)) rfl ?_
  refine Tl_q (JO_q rfl rfl (Jq_extract rfl rfl rfl)) rfl ?_
  refine Tl_is true ((ex_dq hx hok).2) ?_
  refine Tl_e (JO_e rfl rfl (Je_alloc (n := 1) rfl tz29 rfl)) rfl rfl ?_
  refine Tl_e (JO_e rfl rfl (Je_store rfl rfl rfl rfl ty29 rfl (by decide) (Nat.le_of_ble_eq_true rfl) rfl)) rfl rfl ?_
  refine Tl_q (JO_q rfl rfl (Jq_assign rfl rfl)) rfl ?_
  refine Tl_end ?_
  refine At_then ?_
  refine Tc_seq ?_
  refine Tc_norm [(1, some (D.ptr 0 0)), (3, some (D.ptr 1 0)), (4, some (D.bool true))] [some ⟨29, [Leaf.val (.bool d.neg), natL (limbs (d.mag)), Leaf.val (.int .i64 d.exp)], none, none⟩, some ⟨29, [Leaf.val (.bool ((exD (dq d)).neg)), natL (limbs ((exD (dq d)).mag)), Leaf.val (.int .i64 ((exD (dq d)).exp))], none, none⟩] ⟨rfl, rfl, rfl, trivial⟩ rfl ?_
  refine Tc_drawK 0 [none, none, none, none, none, none, none, none, none, none, none, none, none, none, none, none, none, none, none, none, none] [] follows (by kernel_rfl) ?_
  refine DK_q (JO_q rfl rfl (Jq_load_agg rfl rfl rfl (by decide) ty29 (by decide) (Nat.le_of_ble_eq_true rfl) rfl)) ?_
  refine DK_c rfl rfl (Jd_call rfl fn34 rfl (dneg d (Bd.use (by omega)))) ?_
  refine DK_q (JO_q rfl rfl (Jq_load_agg rfl rfl rfl (by decide) ty29 (by decide) (Nat.le_of_ble_eq_true rfl) rfl)) ?_
  refine DK_c rfl rfl (Jd_call rfl fn18 rfl (rdneg d (Bd.use (by omega)))) ?_
  refine DK_c rfl rfl (Jd_call rfl fn17 rfl (dsame ((negD d).neg) (limbs ((negD d).mag)) ((negD d).exp) ((negD d).neg) (limbs ((negD d).mag)) ((negD d).exp))) ?_
  refine DK_is true (sameR_refl _ _ _) ?_
  refine DK_q (JO_q rfl rfl (Jq_move rfl rfl)) ?_
  refine DK_q (JO_qg rfl rfl rfl rfl (Jq_load_agg rfl rfl rfl (by decide) ty29 (by decide) (Nat.le_of_ble_eq_true rfl) rfl)) ?_
  refine DK_cg rfl rfl rfl rfl (Jd_call rfl fn32 rfl (drat d (Bd.use (by omega)))) ?_
  refine DK_q (JO_qg rfl rfl rfl rfl (Jq_load_agg rfl rfl rfl (by decide) ty29 (by decide) (Nat.le_of_ble_eq_true rfl) rfl)) ?_
  refine DK_cg rfl rfl rfl rfl (Jd_call rfl fn21 rfl (rdrat d (Bd.use (by omega)))) ?_
  refine DK_cg rfl rfl rfl rfl (Jd_call rfl fn31 rfl (rqsame (qOf (dq d)) (qOf (dq d)))) ?_
  refine DK_is true (sameQ_refl' _) ?_
  refine DK_q (JO_q rfl rfl (Jq_pick_t rfl rfl rfl)) ?_
  refine DK_q (JO_q rfl rfl (Jq_move rfl rfl)) ?_
  refine DK_q (JO_qg rfl rfl rfl rfl (Jq_move rfl rfl)) ?_
  refine DK_q (JO_q rfl rfl (Jq_pick_t rfl rfl rfl)) ?_
  refine DK_q (JO_q rfl rfl (Jq_move rfl rfl)) ?_
  refine DK_q (JO_qg rfl rfl rfl rfl (Jq_load_agg rfl rfl rfl (by decide) ty29 (by decide) (Nat.le_of_ble_eq_true rfl) rfl)) ?_
  refine DK_q (JO_qg rfl rfl rfl rfl (Jq_load_agg rfl rfl rfl (by decide) ty29 (by decide) (Nat.le_of_ble_eq_true rfl) rfl)) ?_
  refine DK_cg rfl rfl rfl rfl (Jd_call rfl fn17 rfl (dsame ((exD (dq d)).neg) (limbs ((exD (dq d)).mag)) ((exD (dq d)).exp) d.neg (limbs (d.mag)) d.exp)) ?_
  refine DK_is true (by rw [(ex_dq hx hok).1]; exact sameR_refl _ _ _) ?_
  refine DK_q (JO_q rfl rfl (Jq_pick_t rfl rfl rfl)) ?_
  refine DK_q (JO_q rfl rfl (Jq_assign rfl rfl)) ?_
  refine DK_nil ?_
  refine At_then ?_
  exact Tc_ret1 (fun _ _ h => h) rfl rfl rfl

theorem law_valid (s : Bool) (l : List Nat) (e : Int) (hs : Small l) : Ctr Tryd.prog 7 [V.agg [Leaf.val (.bool s), natL l, Leaf.val (.int .i64 e)]] (R.one (V.one (Leaf.val (.bool (true))))) := by
  cases hD : smallD s l e with
  | false => exact law_valid_b s l e hs hD
  | true =>
    have hc := (isD_canon hs (smallD_isD hD)).1
    have h := law_valid_s ⟨s, val l, e⟩ (by show smallD s (limbs (val l)) e = true; rw [← hc]; exact hD)
    have e2 : dV ⟨s, val l, e⟩ = V.agg [Leaf.val (.bool s), natL l, Leaf.val (.int .i64 e)] := by show V.agg [Leaf.val (.bool s), natL (limbs (val l)), Leaf.val (.int .i64 e)] = _; rw [← hc]
    rwa [e2] at h

end Go.Proofs.YtpabkdpijcbkgaaDoor
