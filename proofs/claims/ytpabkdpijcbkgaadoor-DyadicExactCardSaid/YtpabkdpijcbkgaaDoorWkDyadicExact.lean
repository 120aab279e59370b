/- Walk: a law of chapter 5. -/
import Derived.Test.YtpabkdpijcbkgaaDoorWkP
import Derived.Test.YtpabkdpijcbkgaaDoorLaw5
import Derived.Test.YtpabkdpijcbkgaaDoorFactsB
set_option linter.unusedSimpArgs false
set_option linter.unusedVariables false
namespace Go.Proofs.YtpabkdpijcbkgaaDoor
open Go Go.RowKit Rc


set_option maxRecDepth 10000 in
set_option maxHeartbeats 2000000 in
theorem law_exact (x : Qr) : Ctr Tryd.prog 6 [qV x] (R.one (V.one (Leaf.val (.bool (true))))) := by
  refine Ctr.of_body Tryd.func6 rfl Tryd.ntmps6 (Nat.le_of_ble_eq_true rfl) (fun w0 A0 => ?_)
  refine Tc_seq ?_
  refine Tc_region ?_
  refine Tl_e (JO_e rfl rfl (Je_box (n := 0) rfl rfl rfl)) rfl rfl ?_
  refine Tl_q (JO_q rfl rfl (Jq_assign rfl rfl)) rfl ?_
  refine Tl_end ?_
  refine At_then ?_
  refine Tc_seq ?_
  refine Tc_seq ?_
  refine Tc_region ?_
  refine Tl_e (JO_e rfl rfl (Je_call rfl fn10 rfl (l5awake))) rfl rfl ?_
  refine Tl_q (JO_q rfl rfl (Jq_not rfl rfl (c := false) rfl)) rfl ?_
  refine Tl_end ?_
  refine At_then ?_
  refine Tc_f rfl ?_
  refine Tc_skipA ?_
  refine At_then ?_
  refine Tc_seq ?_
  refine Tc_seq ?_
  refine Tc_region ?_
  refine Tl_q (JO_q rfl rfl (Jq_load_agg rfl rfl rfl (by decide) ty25 (by decide) (Nat.le_of_ble_eq_true rfl) rfl)) rfl ?_
  refine Tl_e (JO_e rfl rfl (Je_call rfl fn11 rfl (l5few x))) rfl rfl ?_
  refine Tl_q (JO_q rfl rfl (Jq_not rfl rfl (c := _) rfl)) rfl ?_
  refine Tl_end ?_
  refine At_then ?_
  refine Tc_cond rfl (fun hc11 => ?_) (fun hc11 => ?_)
  · skip
    refine Tc_seq ?_
    refine Tc_region ?_
    refine Tl_q (JO_q rfl rfl (Jq_assign rfl rfl)) rfl ?_
    refine Tl_end ?_
    refine At_then ?_
    exact Tc_ret1 (fun _ _ h => h) rfl rfl rfl
  · skip
    refine Tc_skipA ?_
    refine At_then ?_
    refine Tc_seq ?_
    have hfx : Fit 3 x := few_of hc11
    haveI ibx : Br x.q 3 := Br.q hfx
    refine Tc_norm [(1, some (D.ptr 0 0))] [some ⟨25, [Leaf.val (.bool x.neg), natL x.n, natL x.d], none, none⟩] ⟨rfl, trivial⟩ rfl ?_
    refine Tc_region ?_
    refine Tl_q (JO_q rfl rfl (Jq_load_agg rfl rfl rfl (by decide) ty25 (by decide) (Nat.le_of_ble_eq_true rfl) rfl)) rfl ?_
    refine Tl_e (JO_e rfl rfl (Je_call rfl fn29 rfl (dexact x (x.q) rfl (hfx.mono (by omega))))) rfl rfl ?_
    refine Tl_q (JO_q rfl rfl (Jq_move rfl rfl)) rfl ?_
    refine Tl_q (JO_q rfl rfl (Jq_extract rfl rfl rfl)) rfl ?_
    refine Tl_q (JO_q rfl rfl (Jq_extract rfl rfl rfl)) rfl ?_
    refine Tl_e (JO_e rfl rfl (Je_alloc (n := 1) rfl tz29 rfl)) rfl rfl ?_
    refine Tl_e (JO_e rfl rfl (Je_store rfl rfl rfl rfl ty29 rfl (by decide) (Nat.le_of_ble_eq_true rfl) rfl)) rfl rfl ?_
    refine Tl_q (JO_q rfl rfl (Jq_assign rfl rfl)) rfl ?_
    refine Tl_end ?_
    refine At_then ?_
    refine Tc_seq ?_
    refine Tc_norm [(1, some (D.ptr 0 0)), (3, some (D.ptr 1 0)), (4, some (D.bool (exOk x.q)))] [some ⟨25, [Leaf.val (.bool x.neg), natL x.n, natL x.d], none, none⟩, some ⟨29, [Leaf.val (.bool ((exD x.q).neg)), natL (limbs ((exD x.q).mag)), Leaf.val (.int .i64 ((exD x.q).exp))], none, none⟩] ⟨rfl, rfl, rfl, trivial⟩ rfl ?_
    refine Tc_region ?_
    refine Tl_q (JO_q rfl rfl (Jq_load_agg rfl rfl rfl (by decide) ty25 (by decide) (Nat.le_of_ble_eq_true rfl) rfl)) rfl ?_
    refine Tl_e (JO_e rfl rfl (Je_call rfl fn23 rfl (rdexact x (x.q) rfl (hfx.mono (by omega))))) rfl rfl ?_
    refine Tl_q (JO_q rfl rfl (Jq_move rfl rfl)) rfl ?_
    refine Tl_q (JO_q rfl rfl (Jq_extract rfl rfl rfl)) rfl ?_
    refine Tl_q (JO_q rfl rfl (Jq_extract rfl rfl rfl)) rfl ?_
    refine Tl_e (JO_e rfl rfl (Je_alloc (n := 2) rfl tz29 rfl)) rfl rfl ?_
    refine Tl_e (JO_e rfl rfl (Je_store rfl rfl rfl rfl ty29 rfl (by decide) (Nat.le_of_ble_eq_true rfl) rfl)) rfl rfl ?_
    refine Tl_q (JO_q rfl rfl (Jq_assign rfl rfl)) rfl ?_
    refine Tl_end ?_
    refine At_then ?_
    refine Tc_seq ?_
    refine Tc_seq ?_
    refine Tc_norm [(1, some (D.ptr 0 0)), (3, some (D.ptr 1 0)), (4, some (D.bool (exOk x.q))), (5, some (D.ptr 2 0)), (6, some (D.bool (exOk x.q)))] [some ⟨25, [Leaf.val (.bool x.neg), natL x.n, natL x.d], none, none⟩, some ⟨29, [Leaf.val (.bool ((exD x.q).neg)), natL (limbs ((exD x.q).mag)), Leaf.val (.int .i64 ((exD x.q).exp))], none, none⟩, some ⟨29, [Leaf.val (.bool ((exD x.q).neg)), natL (limbs ((exD x.q).mag)), Leaf.val (.int .i64 ((exD x.q).exp))], none, none⟩] ⟨rfl, rfl, rfl, rfl, rfl, trivial⟩ rfl ?_
    refine Tc_region ?_
    refine Tl_q (JO_q rfl rfl (Jq_move rfl rfl)) rfl ?_
    refine Tl_q (JO_q rfl rfl (Jq_move rfl rfl)) rfl ?_
    refine Tl_q (JO_q rfl rfl (Jq_neq_bool rfl rfl rfl un4 (d := _) (rfl))) rfl ?_
    refine Tl_is false (by simp) ?_
    refine Tl_q (JO_q rfl rfl (Jq_move rfl rfl)) rfl ?_
    refine Tl_q (JO_qg rfl rfl rfl rfl (Jq_load_agg rfl rfl rfl (by decide) ty29 (by decide) (Nat.le_of_ble_eq_true rfl) rfl)) rfl ?_
    refine Tl_q (JO_qg rfl rfl rfl rfl (Jq_load_agg rfl rfl rfl (by decide) ty29 (by decide) (Nat.le_of_ble_eq_true rfl) rfl)) rfl ?_
    refine Tl_e (JO_eg rfl rfl rfl rfl (Je_call rfl fn17 rfl (dsame ((exD x.q).neg) (limbs ((exD x.q).mag)) ((exD x.q).exp) ((exD x.q).neg) (limbs ((exD x.q).mag)) ((exD x.q).exp)))) rfl rfl ?_
    refine Tl_is true (sameR_refl _ _ _) ?_
    refine Tl_q (JO_qg rfl rfl rfl rfl (Jq_not rfl rfl (c := false) rfl)) rfl ?_
    refine Tl_q (JO_q rfl rfl (Jq_pick_f rfl rfl rfl)) rfl ?_
    refine Tl_end ?_
    refine At_then ?_
    refine Tc_f rfl ?_
    refine Tc_skipA ?_
    refine At_then ?_
    refine Tc_seq ?_
    refine Tc_free 2 ?_
    refine Tc_norm [(1, some (D.ptr 0 0)), (3, some (D.ptr 1 0)), (4, some (D.bool (exOk x.q)))] [some ⟨25, [Leaf.val (.bool x.neg), natL x.n, natL x.d], none, none⟩, some ⟨29, [Leaf.val (.bool ((exD x.q).neg)), natL (limbs ((exD x.q).mag)), Leaf.val (.int .i64 ((exD x.q).exp))], none, none⟩, none] ⟨rfl, rfl, rfl, trivial⟩ rfl ?_
    refine Tc_drawK 0 [none, none, none, none, none, none, none, none, none, none, none, none, none, none] [] follows (by kernel_rfl) ?_
    refine DK_q (JO_q rfl rfl (Jq_move rfl rfl)) ?_
    refine DK_q (JO_q rfl rfl (Jq_not rfl rfl (c := _) rfl)) ?_
    refine DK_q (JO_q rfl rfl (Jq_move rfl rfl)) ?_
    refine DK_two (fun hok => ?_) (fun hok => ?_)
    · skip
      refine DK_q (JO_qg rfl rfl rfl rfl (Jq_load_agg rfl rfl rfl (by decide) ty29 (by decide) (Nat.le_of_ble_eq_true rfl) rfl)) ?_
      refine DK_cg rfl rfl rfl rfl (Jd_call rfl fn30 rfl (dvalid ((exD x.q).neg) (limbs ((exD x.q).mag)) ((exD x.q).exp) (small_limbs _))) ?_
      refine DK_is true (isD_exD _) ?_
      refine DK_q (JO_qg rfl rfl rfl rfl (Jq_move rfl rfl)) ?_
      refine DK_q (JO_qg rfl rfl rfl rfl (Jq_load_agg rfl rfl rfl (by decide) ty29 (by decide) (Nat.le_of_ble_eq_true rfl) rfl)) ?_
      refine DK_cg rfl rfl rfl rfl (Jd_call rfl fn32 rfl (drat (exD x.q) (Bd.use (by omega)))) ?_
      refine DK_q (JO_qg rfl rfl rfl rfl (Jq_load_agg rfl rfl rfl (by decide) ty25 (by decide) (Nat.le_of_ble_eq_true rfl) rfl)) ?_
      refine DK_cg rfl rfl rfl rfl (Jd_call rfl fn26 rfl (rqcanon x (x.q) rfl (hfx.mono (by omega)))) ?_
      refine DK_cg rfl rfl rfl rfl (Jd_call rfl fn31 rfl (rqsame (qOf (dq (exD x.q))) (qOf (x.q)))) ?_
      refine DK_is true (by rw [dq_exD (nn hok)]; exact sameQ_refl' _) ?_
      refine DK_q (JO_qg rfl rfl rfl rfl (Jq_pick_t rfl rfl rfl)) ?_
      refine DK_q (JO_q rfl rfl (Jq_pick_f rfl rfl rfl)) ?_
      refine DK_q (JO_q rfl rfl (Jq_assign rfl rfl)) ?_
      refine DK_nil ?_
      refine At_then ?_
      exact Tc_ret1 (fun _ _ h => h) rfl rfl rfl
    · skip
      refine DK_skip rfl rfl rfl ?_
      refine DK_skip rfl rfl rfl ?_
      refine DK_skip rfl rfl rfl ?_
      refine DK_skipU rfl rfl rfl ?_
      refine DK_skipU rfl rfl rfl ?_
      refine DK_skipU rfl rfl rfl ?_
      refine DK_skipU rfl rfl rfl ?_
      refine DK_skipU rfl rfl rfl ?_
      refine DK_skip rfl rfl rfl ?_
      refine DK_q (JO_q rfl rfl (Jq_pick_t rfl rfl rfl)) ?_
      refine DK_q (JO_q rfl rfl (Jq_assign rfl rfl)) ?_
      refine DK_nil ?_
      refine At_then ?_
      exact Tc_ret1 (fun _ _ h => h) rfl rfl rfl

end Go.Proofs.YtpabkdpijcbkgaaDoor
