/- Walk: a law of chapter 6. -/
import Derived.Test.YtpabkdpijcbkgaaWkL
set_option linter.unusedSimpArgs false
set_option linter.unusedVariables false
namespace Go.Proofs.Ytpabkdpijcbkgaa
open Go Go.RowKit Rc


set_option maxRecDepth 10000 in
set_option maxHeartbeats 2000000 in
theorem law_tight (x0 x1 y0 y1 : Qr) : Ctr Try.prog 4 [iV x0 x1, iV y0 y1] (R.one (V.one (Leaf.val (.bool (true))))) := by
  refine Ctr.of_body Try.func4 rfl Try.ntmps4 (Nat.le_of_ble_eq_true rfl) (fun w0 A0 => ?_)
  refine Tc_seq ?_
  refine Tc_region ?_
  refine Tl_e (JO_e rfl rfl (Je_box (n := 0) rfl rfl rfl)) rfl rfl ?_
  refine Tl_e (JO_e rfl rfl (Je_box (n := 1) rfl rfl rfl)) rfl rfl ?_
  refine Tl_q (JO_q rfl rfl (Jq_assign rfl rfl)) rfl ?_
  refine Tl_end ?_
  refine At_then ?_
  refine Tc_seq ?_
  refine Tc_seq ?_
  refine Tc_region ?_
  refine Tl_e (JO_e rfl rfl (Je_call rfl fn9 rfl (l6awake))) rfl rfl ?_
  refine Tl_q (JO_q rfl rfl (Jq_not rfl rfl (c := false) rfl)) rfl ?_
  refine Tl_end ?_
  refine At_then ?_
  refine Tc_f rfl ?_
  refine Tc_skipA ?_
  refine At_then ?_
  refine Tc_seq ?_
  refine Tc_seq ?_
  refine Tc_region ?_
  refine Tl_q (JO_q rfl rfl (Jq_load_agg rfl rfl rfl (by decide) ty27 (by decide) (Nat.le_of_ble_eq_true rfl) rfl)) rfl ?_
  refine Tl_e (JO_e rfl rfl (Je_call rfl fn10 rfl (l6small x0 x1))) rfl rfl ?_
  refine Tl_q (JO_q rfl rfl (Jq_not rfl rfl (c := _) rfl)) rfl ?_
  refine Tl_q (JO_q rfl rfl (Jq_move rfl rfl)) rfl ?_
  refine Tl_two (fun hb15 => ?_) (fun hb15 => ?_)
  · skip
    refine Tl_q (JO_qg rfl rfl rfl rfl (Jq_load_agg rfl rfl rfl (by decide) ty27 (by decide) (Nat.le_of_ble_eq_true rfl) rfl)) rfl ?_
    refine Tl_e (JO_eg rfl rfl rfl rfl (Je_call rfl fn10 rfl (l6small y0 y1))) rfl rfl ?_
    refine Tl_q (JO_qg rfl rfl rfl rfl (Jq_not rfl rfl (c := _) rfl)) rfl ?_
    refine Tl_q (JO_q rfl rfl (Jq_pick_f rfl rfl rfl)) rfl ?_
    refine Tl_end ?_
    refine At_then ?_
    refine Tc_cond rfl (fun hc19 => ?_) (fun hc19 => ?_)
    · skip
      refine Tc_seq ?_
      refine Tc_region ?_
      refine Tl_q (JO_q rfl rfl (Jq_assign rfl rfl)) rfl ?_
      refine Tl_end ?_
      refine At_then ?_
      exact Tc_ret1 (fun _ _ h => h) rfl rfl rfl
    · skip
      refine Tc_skipA ?_
      refine At_then ?_
      refine Tc_seq ?_
      obtain ⟨hfx0, hfx1, hlx⟩ := smI_facts hb15
      haveI ibx0 : Br x0.q 2 := Br.q hfx0
      haveI ibx1 : Br x1.q 2 := Br.q hfx1
      obtain ⟨hfy0, hfy1, hly⟩ := smI_facts hc19
      haveI iby0 : Br y0.q 2 := Br.q hfy0
      haveI iby1 : Br y1.q 2 := Br.q hfy1
      refine Tc_norm [(2, some (D.ptr 0 0)), (3, some (D.ptr 1 0))] [some ⟨27, [Leaf.val (.bool x0.neg), natL x0.n, natL x0.d, Leaf.val (.bool x1.neg), natL x1.n, natL x1.d], none, none⟩, some ⟨27, [Leaf.val (.bool y0.neg), natL y0.n, natL y0.d, Leaf.val (.bool y1.neg), natL y1.n, natL y1.d], none, none⟩] ⟨rfl, rfl, trivial⟩ rfl ?_
      refine Tc_region ?_
      refine Tl_q (JO_q rfl rfl (Jq_load_agg rfl rfl rfl (by decide) ty27 (by decide) (Nat.le_of_ble_eq_true rfl) rfl)) rfl ?_
      refine Tl_q (JO_q rfl rfl (Jq_load_agg rfl rfl rfl (by decide) ty27 (by decide) (Nat.le_of_ble_eq_true rfl) rfl)) rfl ?_
      refine Tl_e (JO_e rfl rfl (Je_call rfl fn11 rfl (imul x0 (x0.q) rfl (hfx0.mono (by omega)) x1 (x1.q) rfl (hfx1.mono (by omega)) y0 (y0.q) rfl (hfy0.mono (by omega)) y1 (y1.q) rfl (hfy1.mono (by omega))))) rfl rfl ?_
      refine Tl_e (JO_e rfl rfl (Je_alloc (n := 2) rfl tz27 rfl)) rfl rfl ?_
      refine Tl_e (JO_e rfl rfl (Je_store rfl rfl rfl rfl ty27 rfl (by decide) (Nat.le_of_ble_eq_true rfl) rfl)) rfl rfl ?_
      refine Tl_end ?_
      refine At_then ?_
      refine Tc_seq ?_
      refine Tc_drawK 1 [none, none, none, none, none, none, none, none, none, none, none, none, none, none, none, none, none, none, none, none, none, some 3, some 3] [3] follows (by kernel_rfl) ?_
      refine DK_q (JO_q rfl rfl (Jq_fieldAddr rfl rfl fo27_0 rfl)) ?_
      refine DK_q (JO_q rfl rfl (Jq_load_agg rfl rfl rfl (by decide) ty25 (by decide) (Nat.le_of_ble_eq_true rfl) rfl)) ?_
      refine DK_q (JO_q rfl rfl (Jq_fieldAddr rfl rfl fo27_0 rfl)) ?_
      refine DK_q (JO_q rfl rfl (Jq_load_agg rfl rfl rfl (by decide) ty25 (by decide) (Nat.le_of_ble_eq_true rfl) rfl)) ?_
      refine DK_c rfl rfl (Jd_call rfl fn18 rfl (rqmul x0 (x0.q) rfl (hfx0.mono (by omega)) y0 (y0.q) rfl (hfy0.mono (by omega)))) ?_
      refine DK_q (JO_q rfl rfl (Jq_fieldAddr rfl rfl fo27_0 rfl)) ?_
      refine DK_q (JO_q rfl rfl (Jq_load_agg rfl rfl rfl (by decide) ty25 (by decide) (Nat.le_of_ble_eq_true rfl) rfl)) ?_
      refine DK_q (JO_q rfl rfl (Jq_fieldAddr rfl rfl fo27_1 rfl)) ?_
      refine DK_q (JO_q rfl rfl (Jq_load_agg rfl rfl rfl (by decide) ty25 (by decide) (Nat.le_of_ble_eq_true rfl) rfl)) ?_
      refine DK_c rfl rfl (Jd_call rfl fn18 rfl (rqmul x0 (x0.q) rfl (hfx0.mono (by omega)) y1 (y1.q) rfl (hfy1.mono (by omega)))) ?_
      refine DK_q (JO_q rfl rfl (Jq_fieldAddr rfl rfl fo27_1 rfl)) ?_
      refine DK_q (JO_q rfl rfl (Jq_load_agg rfl rfl rfl (by decide) ty25 (by decide) (Nat.le_of_ble_eq_true rfl) rfl)) ?_
      refine DK_q (JO_q rfl rfl (Jq_fieldAddr rfl rfl fo27_0 rfl)) ?_
      refine DK_q (JO_q rfl rfl (Jq_load_agg rfl rfl rfl (by decide) ty25 (by decide) (Nat.le_of_ble_eq_true rfl) rfl)) ?_
      refine DK_c rfl rfl (Jd_call rfl fn18 rfl (rqmul x1 (x1.q) rfl (hfx1.mono (by omega)) y0 (y0.q) rfl (hfy0.mono (by omega)))) ?_
      refine DK_q (JO_q rfl rfl (Jq_fieldAddr rfl rfl fo27_1 rfl)) ?_
      refine DK_q (JO_q rfl rfl (Jq_load_agg rfl rfl rfl (by decide) ty25 (by decide) (Nat.le_of_ble_eq_true rfl) rfl)) ?_
      refine DK_q (JO_q rfl rfl (Jq_fieldAddr rfl rfl fo27_1 rfl)) ?_
      refine DK_q (JO_q rfl rfl (Jq_load_agg rfl rfl rfl (by decide) ty25 (by decide) (Nat.le_of_ble_eq_true rfl) rfl)) ?_
      refine DK_c rfl rfl (Jd_call rfl fn18 rfl (rqmul x1 (x1.q) rfl (hfx1.mono (by omega)) y1 (y1.q) rfl (hfy1.mono (by omega)))) ?_
      refine DK_q (JO_q rfl rfl (Jq_buildArr rfl tz39 rfl un39 ty25 rfl)) ?_
      refine DK_s 3 rfl rfl rfl (Jd_alloc (i := 3) rfl tz39 rfl) ?_
      refine DK_s 3 rfl rfl rfl (Jd_store rfl rfl rfl rfl ty39 rfl (by decide) (Nat.le_of_ble_eq_true rfl) rfl) ?_
      refine DK_nil ?_
      refine At_then ?_
      refine Tc_seq ?_
      refine Tc_free 0 ?_
      refine Tc_free 1 ?_
      refine Tc_norm [(5, some (D.ptr 2 0)), (6, some (D.ptr 3 0))] [none, none, some ⟨27, [Leaf.val (.bool (cneg (mn (mn (mn (x0.q * y0.q) (x0.q * y1.q)) (x1.q * y0.q)) (x1.q * y1.q)))), natL (limbs (cnum (mn (mn (mn (x0.q * y0.q) (x0.q * y1.q)) (x1.q * y0.q)) (x1.q * y1.q)))), natL (limbs (cden (mn (mn (mn (x0.q * y0.q) (x0.q * y1.q)) (x1.q * y0.q)) (x1.q * y1.q)))), Leaf.val (.bool (cneg (mx (mx (mx (x0.q * y0.q) (x0.q * y1.q)) (x1.q * y0.q)) (x1.q * y1.q)))), natL (limbs (cnum (mx (mx (mx (x0.q * y0.q) (x0.q * y1.q)) (x1.q * y0.q)) (x1.q * y1.q)))), natL (limbs (cden (mx (mx (mx (x0.q * y0.q) (x0.q * y1.q)) (x1.q * y0.q)) (x1.q * y1.q))))], none, none⟩, some ⟨39, [Leaf.val (.bool (cneg ((x0.q) * (y0.q)))), natL (limbs (cnum ((x0.q) * (y0.q)))), natL (limbs (cden ((x0.q) * (y0.q)))), Leaf.val (.bool (cneg ((x0.q) * (y1.q)))), natL (limbs (cnum ((x0.q) * (y1.q)))), natL (limbs (cden ((x0.q) * (y1.q)))), Leaf.val (.bool (cneg ((x1.q) * (y0.q)))), natL (limbs (cnum ((x1.q) * (y0.q)))), natL (limbs (cden ((x1.q) * (y0.q)))), Leaf.val (.bool (cneg ((x1.q) * (y1.q)))), natL (limbs (cnum ((x1.q) * (y1.q)))), natL (limbs (cden ((x1.q) * (y1.q))))], none, none⟩] ⟨rfl, rfl, trivial⟩ rfl ?_
      refine Tc_region ?_
      refine Tl_q (JO_q rfl rfl (Jq_assign rfl rfl)) rfl ?_
      refine Tl_q (JO_q rfl rfl (Jq_assign rfl rfl)) rfl ?_
      refine Tl_end ?_
      refine At_then ?_
      refine Tc_seq ?_
      refine Tc_seq ?_
      refine Tc_region ?_
      refine Tl_q (JO_q rfl rfl (Jq_assign rfl rfl)) rfl ?_
      refine Tl_end ?_
      refine At_then ?_
      refine Tc_block ?_
      refine Tc_unroll 5 ?_
      refine Rn_succ ?_
      refine Tc_seq ?_
      refine Tc_seq ?_
      refine Tc_region ?_
      refine Tl_q (JO_q rfl rfl (Jq_move rfl rfl)) rfl ?_
      refine Tl_q (JO_q rfl rfl (Jq_lss rfl rfl rfl (b := true) (rfl))) rfl ?_
      refine Tl_end ?_
      refine At_then ?_
      refine Tc_t rfl ?_
      refine Tc_skipA ?_
      refine At_then ?_
      refine Tc_meet (Γ' := [(5, some (D.ptr 2 0)), (6, some (D.ptr 3 0)), (7, some (D.bool (sameQ (qOf (mn (mn (mn ((x0.q) * (y0.q)) ((x0.q) * (y1.q))) ((x1.q) * (y0.q))) ((x1.q) * (y1.q)))) (qOf ((x0.q) * (y0.q)))))), (8, some (D.bool (sameQ (qOf (mx (mx (mx ((x0.q) * (y0.q)) ((x0.q) * (y1.q))) ((x1.q) * (y0.q))) ((x1.q) * (y1.q)))) (qOf ((x0.q) * (y0.q)))))), (9, some (D.val (.int .i64 0)))]) (H' := [none, none, some ⟨27, [Leaf.val (.bool (cneg (mn (mn (mn (x0.q * y0.q) (x0.q * y1.q)) (x1.q * y0.q)) (x1.q * y1.q)))), natL (limbs (cnum (mn (mn (mn (x0.q * y0.q) (x0.q * y1.q)) (x1.q * y0.q)) (x1.q * y1.q)))), natL (limbs (cden (mn (mn (mn (x0.q * y0.q) (x0.q * y1.q)) (x1.q * y0.q)) (x1.q * y1.q)))), Leaf.val (.bool (cneg (mx (mx (mx (x0.q * y0.q) (x0.q * y1.q)) (x1.q * y0.q)) (x1.q * y1.q)))), natL (limbs (cnum (mx (mx (mx (x0.q * y0.q) (x0.q * y1.q)) (x1.q * y0.q)) (x1.q * y1.q)))), natL (limbs (cden (mx (mx (mx (x0.q * y0.q) (x0.q * y1.q)) (x1.q * y0.q)) (x1.q * y1.q))))], none, none⟩, some ⟨39, [Leaf.val (.bool (cneg ((x0.q) * (y0.q)))), natL (limbs (cnum ((x0.q) * (y0.q)))), natL (limbs (cden ((x0.q) * (y0.q)))), Leaf.val (.bool (cneg ((x0.q) * (y1.q)))), natL (limbs (cnum ((x0.q) * (y1.q)))), natL (limbs (cden ((x0.q) * (y1.q)))), Leaf.val (.bool (cneg ((x1.q) * (y0.q)))), natL (limbs (cnum ((x1.q) * (y0.q)))), natL (limbs (cden ((x1.q) * (y0.q)))), Leaf.val (.bool (cneg ((x1.q) * (y1.q)))), natL (limbs (cnum ((x1.q) * (y1.q)))), natL (limbs (cden ((x1.q) * (y1.q))))], none, none⟩]) ?_ ?_
      · skip
        refine Tc_block ?_
        refine Tc_seq ?_
        refine Tc_drawK 0 [none, none, none, none, none, none, none, none, none, none] [] follows (by kernel_rfl) ?_
        refine DK_q (JO_q rfl rfl (Jq_move rfl rfl)) ?_
        refine DK_q (JO_q rfl rfl (Jq_move rfl rfl)) ?_
        refine DK_q (JO_qg rfl rfl rfl rfl (Jq_fieldAddr rfl rfl fo27_0 rfl)) ?_
        refine DK_q (JO_qg rfl rfl rfl rfl (Jq_load_agg rfl rfl rfl (by decide) ty25 (by decide) (Nat.le_of_ble_eq_true rfl) rfl)) ?_
        refine DK_q (JO_qg rfl rfl rfl rfl (Jq_move rfl rfl)) ?_
        refine DK_q (JO_qg rfl rfl rfl rfl (Jq_index_arr (j := 0) rfl rfl rfl un39 ty25 (by decide) rfl)) ?_
        refine DK_q (JO_qg rfl rfl rfl rfl (Jq_load_agg rfl rfl rfl (by decide) ty25 (by decide) (Nat.le_of_ble_eq_true rfl) rfl)) ?_
        refine DK_cg rfl rfl rfl rfl (Jd_call rfl fn20 rfl (rqsame (qOf (mn (mn (mn (x0.q * y0.q) (x0.q * y1.q)) (x1.q * y0.q)) (x1.q * y1.q))) (qOf ((x0.q) * (y0.q))))) ?_
        refine DK_q (JO_q rfl rfl (Jq_pick_f rfl rfl rfl)) ?_
        refine DK_q (JO_q rfl rfl (Jq_assign rfl rfl)) ?_
        refine DK_nil ?_
        refine At_then ?_
        refine Tc_norm [(5, some (D.ptr 2 0)), (6, some (D.ptr 3 0)), (7, some (D.bool (sameQ (qOf (mn (mn (mn (x0.q * y0.q) (x0.q * y1.q)) (x1.q * y0.q)) (x1.q * y1.q))) (qOf ((x0.q) * (y0.q)))))), (8, some (D.bool false)), (9, some (D.val (.int .i64 0)))] [none, none, some ⟨27, [Leaf.val (.bool (cneg (mn (mn (mn (x0.q * y0.q) (x0.q * y1.q)) (x1.q * y0.q)) (x1.q * y1.q)))), natL (limbs (cnum (mn (mn (mn (x0.q * y0.q) (x0.q * y1.q)) (x1.q * y0.q)) (x1.q * y1.q)))), natL (limbs (cden (mn (mn (mn (x0.q * y0.q) (x0.q * y1.q)) (x1.q * y0.q)) (x1.q * y1.q)))), Leaf.val (.bool (cneg (mx (mx (mx (x0.q * y0.q) (x0.q * y1.q)) (x1.q * y0.q)) (x1.q * y1.q)))), natL (limbs (cnum (mx (mx (mx (x0.q * y0.q) (x0.q * y1.q)) (x1.q * y0.q)) (x1.q * y1.q)))), natL (limbs (cden (mx (mx (mx (x0.q * y0.q) (x0.q * y1.q)) (x1.q * y0.q)) (x1.q * y1.q))))], none, none⟩, some ⟨39, [Leaf.val (.bool (cneg ((x0.q) * (y0.q)))), natL (limbs (cnum ((x0.q) * (y0.q)))), natL (limbs (cden ((x0.q) * (y0.q)))), Leaf.val (.bool (cneg ((x0.q) * (y1.q)))), natL (limbs (cnum ((x0.q) * (y1.q)))), natL (limbs (cden ((x0.q) * (y1.q)))), Leaf.val (.bool (cneg ((x1.q) * (y0.q)))), natL (limbs (cnum ((x1.q) * (y0.q)))), natL (limbs (cden ((x1.q) * (y0.q)))), Leaf.val (.bool (cneg ((x1.q) * (y1.q)))), natL (limbs (cnum ((x1.q) * (y1.q)))), natL (limbs (cden ((x1.q) * (y1.q))))], none, none⟩] ⟨rfl, rfl, rfl, rfl, rfl, trivial⟩ rfl ?_
        refine Tc_drawK 0 [none, none, none, none, none, none, none, none, none, none] [] follows (by kernel_rfl) ?_
        refine DK_q (JO_q rfl rfl (Jq_move rfl rfl)) ?_
        refine DK_q (JO_q rfl rfl (Jq_move rfl rfl)) ?_
        refine DK_q (JO_qg rfl rfl rfl rfl (Jq_fieldAddr rfl rfl fo27_1 rfl)) ?_
        refine DK_q (JO_qg rfl rfl rfl rfl (Jq_load_agg rfl rfl rfl (by decide) ty25 (by decide) (Nat.le_of_ble_eq_true rfl) rfl)) ?_
        refine DK_q (JO_qg rfl rfl rfl rfl (Jq_move rfl rfl)) ?_
        refine DK_q (JO_qg rfl rfl rfl rfl (Jq_index_arr (j := 0) rfl rfl rfl un39 ty25 (by decide) rfl)) ?_
        refine DK_q (JO_qg rfl rfl rfl rfl (Jq_load_agg rfl rfl rfl (by decide) ty25 (by decide) (Nat.le_of_ble_eq_true rfl) rfl)) ?_
        refine DK_cg rfl rfl rfl rfl (Jd_call rfl fn20 rfl (rqsame (qOf (mx (mx (mx (x0.q * y0.q) (x0.q * y1.q)) (x1.q * y0.q)) (x1.q * y1.q))) (qOf ((x0.q) * (y0.q))))) ?_
        refine DK_q (JO_q rfl rfl (Jq_pick_f rfl rfl rfl)) ?_
        refine DK_q (JO_q rfl rfl (Jq_assign rfl rfl)) ?_
        refine DK_nil ?_
        refine At_block ?_
        exact At_meet ⟨rfl, rfl, rfl, rfl, rfl, trivial⟩
      · skip
        refine Tc_region ?_
        refine Tl_q (JO_q rfl rfl (Jq_move rfl rfl)) rfl ?_
        refine Tl_q (JO_q rfl rfl (Jq_add rfl rfl rfl (r := 1) (w64 (by decide) (by decide) (by decide)))) rfl ?_
        refine Tl_q (JO_q rfl rfl (Jq_assign rfl rfl)) rfl ?_
        refine Tl_end ?_
        refine At_rn ?_
        refine Rn_succ ?_
        refine Tc_seq ?_
        refine Tc_seq ?_
        refine Tc_region ?_
        refine Tl_q (JO_q rfl rfl (Jq_move rfl rfl)) rfl ?_
        refine Tl_q (JO_q rfl rfl (Jq_lss rfl rfl rfl (b := true) (rfl))) rfl ?_
        refine Tl_end ?_
        refine At_then ?_
        refine Tc_t rfl ?_
        refine Tc_skipA ?_
        refine At_then ?_
        refine Tc_meet (Γ' := [(5, some (D.ptr 2 0)), (6, some (D.ptr 3 0)), (7, some (D.bool ((sameQ (qOf (mn (mn (mn ((x0.q) * (y0.q)) ((x0.q) * (y1.q))) ((x1.q) * (y0.q))) ((x1.q) * (y1.q)))) (qOf ((x0.q) * (y0.q)))) || sameQ (qOf (mn (mn (mn ((x0.q) * (y0.q)) ((x0.q) * (y1.q))) ((x1.q) * (y0.q))) ((x1.q) * (y1.q)))) (qOf ((x0.q) * (y1.q)))))), (8, some (D.bool ((sameQ (qOf (mx (mx (mx ((x0.q) * (y0.q)) ((x0.q) * (y1.q))) ((x1.q) * (y0.q))) ((x1.q) * (y1.q)))) (qOf ((x0.q) * (y0.q)))) || sameQ (qOf (mx (mx (mx ((x0.q) * (y0.q)) ((x0.q) * (y1.q))) ((x1.q) * (y0.q))) ((x1.q) * (y1.q)))) (qOf ((x0.q) * (y1.q)))))), (9, some (D.val (.int .i64 1)))]) (H' := [none, none, some ⟨27, [Leaf.val (.bool (cneg (mn (mn (mn (x0.q * y0.q) (x0.q * y1.q)) (x1.q * y0.q)) (x1.q * y1.q)))), natL (limbs (cnum (mn (mn (mn (x0.q * y0.q) (x0.q * y1.q)) (x1.q * y0.q)) (x1.q * y1.q)))), natL (limbs (cden (mn (mn (mn (x0.q * y0.q) (x0.q * y1.q)) (x1.q * y0.q)) (x1.q * y1.q)))), Leaf.val (.bool (cneg (mx (mx (mx (x0.q * y0.q) (x0.q * y1.q)) (x1.q * y0.q)) (x1.q * y1.q)))), natL (limbs (cnum (mx (mx (mx (x0.q * y0.q) (x0.q * y1.q)) (x1.q * y0.q)) (x1.q * y1.q)))), natL (limbs (cden (mx (mx (mx (x0.q * y0.q) (x0.q * y1.q)) (x1.q * y0.q)) (x1.q * y1.q))))], none, none⟩, some ⟨39, [Leaf.val (.bool (cneg ((x0.q) * (y0.q)))), natL (limbs (cnum ((x0.q) * (y0.q)))), natL (limbs (cden ((x0.q) * (y0.q)))), Leaf.val (.bool (cneg ((x0.q) * (y1.q)))), natL (limbs (cnum ((x0.q) * (y1.q)))), natL (limbs (cden ((x0.q) * (y1.q)))), Leaf.val (.bool (cneg ((x1.q) * (y0.q)))), natL (limbs (cnum ((x1.q) * (y0.q)))), natL (limbs (cden ((x1.q) * (y0.q)))), Leaf.val (.bool (cneg ((x1.q) * (y1.q)))), natL (limbs (cnum ((x1.q) * (y1.q)))), natL (limbs (cden ((x1.q) * (y1.q))))], none, none⟩]) ?_ ?_
        · skip
          refine Tc_block ?_
          refine Tc_meet (Γ' := [(5, some (D.ptr 2 0)), (6, some (D.ptr 3 0)), (7, some (D.bool ((sameQ (qOf (mn (mn (mn ((x0.q) * (y0.q)) ((x0.q) * (y1.q))) ((x1.q) * (y0.q))) ((x1.q) * (y1.q)))) (qOf ((x0.q) * (y0.q)))) || sameQ (qOf (mn (mn (mn ((x0.q) * (y0.q)) ((x0.q) * (y1.q))) ((x1.q) * (y0.q))) ((x1.q) * (y1.q)))) (qOf ((x0.q) * (y1.q)))))), (8, some (D.bool (sameQ (qOf (mx (mx (mx ((x0.q) * (y0.q)) ((x0.q) * (y1.q))) ((x1.q) * (y0.q))) ((x1.q) * (y1.q)))) (qOf ((x0.q) * (y0.q)))))), (9, some (D.val (.int .i64 1)))]) (H' := [none, none, some ⟨27, [Leaf.val (.bool (cneg (mn (mn (mn (x0.q * y0.q) (x0.q * y1.q)) (x1.q * y0.q)) (x1.q * y1.q)))), natL (limbs (cnum (mn (mn (mn (x0.q * y0.q) (x0.q * y1.q)) (x1.q * y0.q)) (x1.q * y1.q)))), natL (limbs (cden (mn (mn (mn (x0.q * y0.q) (x0.q * y1.q)) (x1.q * y0.q)) (x1.q * y1.q)))), Leaf.val (.bool (cneg (mx (mx (mx (x0.q * y0.q) (x0.q * y1.q)) (x1.q * y0.q)) (x1.q * y1.q)))), natL (limbs (cnum (mx (mx (mx (x0.q * y0.q) (x0.q * y1.q)) (x1.q * y0.q)) (x1.q * y1.q)))), natL (limbs (cden (mx (mx (mx (x0.q * y0.q) (x0.q * y1.q)) (x1.q * y0.q)) (x1.q * y1.q))))], none, none⟩, some ⟨39, [Leaf.val (.bool (cneg ((x0.q) * (y0.q)))), natL (limbs (cnum ((x0.q) * (y0.q)))), natL (limbs (cden ((x0.q) * (y0.q)))), Leaf.val (.bool (cneg ((x0.q) * (y1.q)))), natL (limbs (cnum ((x0.q) * (y1.q)))), natL (limbs (cden ((x0.q) * (y1.q)))), Leaf.val (.bool (cneg ((x1.q) * (y0.q)))), natL (limbs (cnum ((x1.q) * (y0.q)))), natL (limbs (cden ((x1.q) * (y0.q)))), Leaf.val (.bool (cneg ((x1.q) * (y1.q)))), natL (limbs (cnum ((x1.q) * (y1.q)))), natL (limbs (cden ((x1.q) * (y1.q))))], none, none⟩]) ?_ ?_
          · skip
            refine Tc_drawK 0 [none, none, none, none, none, none, none, none, none, none] [] follows (by kernel_rfl) ?_
            refine DK_q (JO_q rfl rfl (Jq_move rfl rfl)) ?_
            refine DK_q (JO_q rfl rfl (Jq_move rfl rfl)) ?_
            refine DK_two (fun hb49 => ?_) (fun hb49 => ?_)
            · skip
              refine DK_q (JO_qg rfl rfl rfl rfl (Jq_fieldAddr rfl rfl fo27_0 rfl)) ?_
              refine DK_q (JO_qg rfl rfl rfl rfl (Jq_load_agg rfl rfl rfl (by decide) ty25 (by decide) (Nat.le_of_ble_eq_true rfl) rfl)) ?_
              refine DK_q (JO_qg rfl rfl rfl rfl (Jq_move rfl rfl)) ?_
              refine DK_q (JO_qg rfl rfl rfl rfl (Jq_index_arr (j := 1) rfl rfl rfl un39 ty25 (by decide) rfl)) ?_
              refine DK_q (JO_qg rfl rfl rfl rfl (Jq_load_agg rfl rfl rfl (by decide) ty25 (by decide) (Nat.le_of_ble_eq_true rfl) rfl)) ?_
              refine DK_cg rfl rfl rfl rfl (Jd_call rfl fn20 rfl (rqsame (qOf (mn (mn (mn (x0.q * y0.q) (x0.q * y1.q)) (x1.q * y0.q)) (x1.q * y1.q))) (qOf ((x0.q) * (y1.q))))) ?_
              refine DK_q (JO_q rfl rfl (Jq_pick_f rfl rfl rfl)) ?_
              refine DK_q (JO_q rfl rfl (Jq_assign rfl rfl)) ?_
              refine DK_nil ?_
              exact At_meet ⟨rfl, rfl, by rw [hb49]; rfl, rfl, rfl, trivial⟩
            · skip
              refine DK_skip rfl rfl rfl ?_
              refine DK_skip rfl rfl rfl ?_
              refine DK_skip rfl rfl rfl ?_
              refine DK_skip rfl rfl rfl ?_
              refine DK_skip rfl rfl rfl ?_
              refine DK_skip rfl rfl rfl ?_
              refine DK_q (JO_q rfl rfl (Jq_pick_t rfl rfl rfl)) ?_
              refine DK_q (JO_q rfl rfl (Jq_assign rfl rfl)) ?_
              refine DK_nil ?_
              exact At_meet ⟨rfl, rfl, by rw [hb49]; rfl, rfl, rfl, trivial⟩
          · skip
            refine Tc_drawK 0 [none, none, none, none, none, none, none, none, none, none] [] follows (by kernel_rfl) ?_
            refine DK_q (JO_q rfl rfl (Jq_move rfl rfl)) ?_
            refine DK_q (JO_q rfl rfl (Jq_move rfl rfl)) ?_
            refine DK_two (fun hb58 => ?_) (fun hb58 => ?_)
            · skip
              refine DK_q (JO_qg rfl rfl rfl rfl (Jq_fieldAddr rfl rfl fo27_1 rfl)) ?_
              refine DK_q (JO_qg rfl rfl rfl rfl (Jq_load_agg rfl rfl rfl (by decide) ty25 (by decide) (Nat.le_of_ble_eq_true rfl) rfl)) ?_
              refine DK_q (JO_qg rfl rfl rfl rfl (Jq_move rfl rfl)) ?_
              refine DK_q (JO_qg rfl rfl rfl rfl (Jq_index_arr (j := 1) rfl rfl rfl un39 ty25 (by decide) rfl)) ?_
              refine DK_q (JO_qg rfl rfl rfl rfl (Jq_load_agg rfl rfl rfl (by decide) ty25 (by decide) (Nat.le_of_ble_eq_true rfl) rfl)) ?_
              refine DK_cg rfl rfl rfl rfl (Jd_call rfl fn20 rfl (rqsame (qOf (mx (mx (mx (x0.q * y0.q) (x0.q * y1.q)) (x1.q * y0.q)) (x1.q * y1.q))) (qOf ((x0.q) * (y1.q))))) ?_
              refine DK_q (JO_q rfl rfl (Jq_pick_f rfl rfl rfl)) ?_
              refine DK_q (JO_q rfl rfl (Jq_assign rfl rfl)) ?_
              refine DK_nil ?_
              refine At_block ?_
              exact At_meet ⟨rfl, rfl, rfl, by rw [hb58]; rfl, rfl, trivial⟩
            · skip
              refine DK_skip rfl rfl rfl ?_
              refine DK_skip rfl rfl rfl ?_
              refine DK_skip rfl rfl rfl ?_
              refine DK_skip rfl rfl rfl ?_
              refine DK_skip rfl rfl rfl ?_
              refine DK_skip rfl rfl rfl ?_
              refine DK_q (JO_q rfl rfl (Jq_pick_t rfl rfl rfl)) ?_
              refine DK_q (JO_q rfl rfl (Jq_assign rfl rfl)) ?_
              refine DK_nil ?_
              refine At_block ?_
              exact At_meet ⟨rfl, rfl, rfl, by rw [hb58]; rfl, rfl, trivial⟩
        · skip
          refine Tc_region ?_
          refine Tl_q (JO_q rfl rfl (Jq_move rfl rfl)) rfl ?_
          refine Tl_q (JO_q rfl rfl (Jq_add rfl rfl rfl (r := 2) (w64 (by decide) (by decide) (by decide)))) rfl ?_
          refine Tl_q (JO_q rfl rfl (Jq_assign rfl rfl)) rfl ?_
          refine Tl_end ?_
          refine At_rn ?_
          refine Rn_succ ?_
          refine Tc_seq ?_
          refine Tc_seq ?_
          refine Tc_region ?_
          refine Tl_q (JO_q rfl rfl (Jq_move rfl rfl)) rfl ?_
          refine Tl_q (JO_q rfl rfl (Jq_lss rfl rfl rfl (b := true) (rfl))) rfl ?_
          refine Tl_end ?_
          refine At_then ?_
          refine Tc_t rfl ?_
          refine Tc_skipA ?_
          refine At_then ?_
          refine Tc_meet (Γ' := [(5, some (D.ptr 2 0)), (6, some (D.ptr 3 0)), (7, some (D.bool (((sameQ (qOf (mn (mn (mn ((x0.q) * (y0.q)) ((x0.q) * (y1.q))) ((x1.q) * (y0.q))) ((x1.q) * (y1.q)))) (qOf ((x0.q) * (y0.q)))) || sameQ (qOf (mn (mn (mn ((x0.q) * (y0.q)) ((x0.q) * (y1.q))) ((x1.q) * (y0.q))) ((x1.q) * (y1.q)))) (qOf ((x0.q) * (y1.q)))) || sameQ (qOf (mn (mn (mn ((x0.q) * (y0.q)) ((x0.q) * (y1.q))) ((x1.q) * (y0.q))) ((x1.q) * (y1.q)))) (qOf ((x1.q) * (y0.q)))))), (8, some (D.bool (((sameQ (qOf (mx (mx (mx ((x0.q) * (y0.q)) ((x0.q) * (y1.q))) ((x1.q) * (y0.q))) ((x1.q) * (y1.q)))) (qOf ((x0.q) * (y0.q)))) || sameQ (qOf (mx (mx (mx ((x0.q) * (y0.q)) ((x0.q) * (y1.q))) ((x1.q) * (y0.q))) ((x1.q) * (y1.q)))) (qOf ((x0.q) * (y1.q)))) || sameQ (qOf (mx (mx (mx ((x0.q) * (y0.q)) ((x0.q) * (y1.q))) ((x1.q) * (y0.q))) ((x1.q) * (y1.q)))) (qOf ((x1.q) * (y0.q)))))), (9, some (D.val (.int .i64 2)))]) (H' := [none, none, some ⟨27, [Leaf.val (.bool (cneg (mn (mn (mn (x0.q * y0.q) (x0.q * y1.q)) (x1.q * y0.q)) (x1.q * y1.q)))), natL (limbs (cnum (mn (mn (mn (x0.q * y0.q) (x0.q * y1.q)) (x1.q * y0.q)) (x1.q * y1.q)))), natL (limbs (cden (mn (mn (mn (x0.q * y0.q) (x0.q * y1.q)) (x1.q * y0.q)) (x1.q * y1.q)))), Leaf.val (.bool (cneg (mx (mx (mx (x0.q * y0.q) (x0.q * y1.q)) (x1.q * y0.q)) (x1.q * y1.q)))), natL (limbs (cnum (mx (mx (mx (x0.q * y0.q) (x0.q * y1.q)) (x1.q * y0.q)) (x1.q * y1.q)))), natL (limbs (cden (mx (mx (mx (x0.q * y0.q) (x0.q * y1.q)) (x1.q * y0.q)) (x1.q * y1.q))))], none, none⟩, some ⟨39, [Leaf.val (.bool (cneg ((x0.q) * (y0.q)))), natL (limbs (cnum ((x0.q) * (y0.q)))), natL (limbs (cden ((x0.q) * (y0.q)))), Leaf.val (.bool (cneg ((x0.q) * (y1.q)))), natL (limbs (cnum ((x0.q) * (y1.q)))), natL (limbs (cden ((x0.q) * (y1.q)))), Leaf.val (.bool (cneg ((x1.q) * (y0.q)))), natL (limbs (cnum ((x1.q) * (y0.q)))), natL (limbs (cden ((x1.q) * (y0.q)))), Leaf.val (.bool (cneg ((x1.q) * (y1.q)))), natL (limbs (cnum ((x1.q) * (y1.q)))), natL (limbs (cden ((x1.q) * (y1.q))))], none, none⟩]) ?_ ?_
          · skip
            refine Tc_block ?_
            refine Tc_meet (Γ' := [(5, some (D.ptr 2 0)), (6, some (D.ptr 3 0)), (7, some (D.bool (((sameQ (qOf (mn (mn (mn ((x0.q) * (y0.q)) ((x0.q) * (y1.q))) ((x1.q) * (y0.q))) ((x1.q) * (y1.q)))) (qOf ((x0.q) * (y0.q)))) || sameQ (qOf (mn (mn (mn ((x0.q) * (y0.q)) ((x0.q) * (y1.q))) ((x1.q) * (y0.q))) ((x1.q) * (y1.q)))) (qOf ((x0.q) * (y1.q)))) || sameQ (qOf (mn (mn (mn ((x0.q) * (y0.q)) ((x0.q) * (y1.q))) ((x1.q) * (y0.q))) ((x1.q) * (y1.q)))) (qOf ((x1.q) * (y0.q)))))), (8, some (D.bool ((sameQ (qOf (mx (mx (mx ((x0.q) * (y0.q)) ((x0.q) * (y1.q))) ((x1.q) * (y0.q))) ((x1.q) * (y1.q)))) (qOf ((x0.q) * (y0.q)))) || sameQ (qOf (mx (mx (mx ((x0.q) * (y0.q)) ((x0.q) * (y1.q))) ((x1.q) * (y0.q))) ((x1.q) * (y1.q)))) (qOf ((x0.q) * (y1.q)))))), (9, some (D.val (.int .i64 2)))]) (H' := [none, none, some ⟨27, [Leaf.val (.bool (cneg (mn (mn (mn (x0.q * y0.q) (x0.q * y1.q)) (x1.q * y0.q)) (x1.q * y1.q)))), natL (limbs (cnum (mn (mn (mn (x0.q * y0.q) (x0.q * y1.q)) (x1.q * y0.q)) (x1.q * y1.q)))), natL (limbs (cden (mn (mn (mn (x0.q * y0.q) (x0.q * y1.q)) (x1.q * y0.q)) (x1.q * y1.q)))), Leaf.val (.bool (cneg (mx (mx (mx (x0.q * y0.q) (x0.q * y1.q)) (x1.q * y0.q)) (x1.q * y1.q)))), natL (limbs (cnum (mx (mx (mx (x0.q * y0.q) (x0.q * y1.q)) (x1.q * y0.q)) (x1.q * y1.q)))), natL (limbs (cden (mx (mx (mx (x0.q * y0.q) (x0.q * y1.q)) (x1.q * y0.q)) (x1.q * y1.q))))], none, none⟩, some ⟨39, [Leaf.val (.bool (cneg ((x0.q) * (y0.q)))), natL (limbs (cnum ((x0.q) * (y0.q)))), natL (limbs (cden ((x0.q) * (y0.q)))), Leaf.val (.bool (cneg ((x0.q) * (y1.q)))), natL (limbs (cnum ((x0.q) * (y1.q)))), natL (limbs (cden ((x0.q) * (y1.q)))), Leaf.val (.bool (cneg ((x1.q) * (y0.q)))), natL (limbs (cnum ((x1.q) * (y0.q)))), natL (limbs (cden ((x1.q) * (y0.q)))), Leaf.val (.bool (cneg ((x1.q) * (y1.q)))), natL (limbs (cnum ((x1.q) * (y1.q)))), natL (limbs (cden ((x1.q) * (y1.q))))], none, none⟩]) ?_ ?_
            · skip
              refine Tc_drawK 0 [none, none, none, none, none, none, none, none, none, none] [] follows (by kernel_rfl) ?_
              refine DK_q (JO_q rfl rfl (Jq_move rfl rfl)) ?_
              refine DK_q (JO_q rfl rfl (Jq_move rfl rfl)) ?_
              refine DK_two (fun hb49 => ?_) (fun hb49 => ?_)
              · skip
                refine DK_q (JO_qg rfl rfl rfl rfl (Jq_fieldAddr rfl rfl fo27_0 rfl)) ?_
                refine DK_q (JO_qg rfl rfl rfl rfl (Jq_load_agg rfl rfl rfl (by decide) ty25 (by decide) (Nat.le_of_ble_eq_true rfl) rfl)) ?_
                refine DK_q (JO_qg rfl rfl rfl rfl (Jq_move rfl rfl)) ?_
                refine DK_q (JO_qg rfl rfl rfl rfl (Jq_index_arr (j := 2) rfl rfl rfl un39 ty25 (by decide) rfl)) ?_
                refine DK_q (JO_qg rfl rfl rfl rfl (Jq_load_agg rfl rfl rfl (by decide) ty25 (by decide) (Nat.le_of_ble_eq_true rfl) rfl)) ?_
                refine DK_cg rfl rfl rfl rfl (Jd_call rfl fn20 rfl (rqsame (qOf (mn (mn (mn (x0.q * y0.q) (x0.q * y1.q)) (x1.q * y0.q)) (x1.q * y1.q))) (qOf ((x1.q) * (y0.q))))) ?_
                refine DK_q (JO_q rfl rfl (Jq_pick_f rfl rfl rfl)) ?_
                refine DK_q (JO_q rfl rfl (Jq_assign rfl rfl)) ?_
                refine DK_nil ?_
                exact At_meet ⟨rfl, rfl, by rw [hb49]; rfl, rfl, rfl, trivial⟩
              · skip
                refine DK_skip rfl rfl rfl ?_
                refine DK_skip rfl rfl rfl ?_
                refine DK_skip rfl rfl rfl ?_
                refine DK_skip rfl rfl rfl ?_
                refine DK_skip rfl rfl rfl ?_
                refine DK_skip rfl rfl rfl ?_
                refine DK_q (JO_q rfl rfl (Jq_pick_t rfl rfl rfl)) ?_
                refine DK_q (JO_q rfl rfl (Jq_assign rfl rfl)) ?_
                refine DK_nil ?_
                exact At_meet ⟨rfl, rfl, by rw [hb49]; rfl, rfl, rfl, trivial⟩
            · skip
              refine Tc_drawK 0 [none, none, none, none, none, none, none, none, none, none] [] follows (by kernel_rfl) ?_
              refine DK_q (JO_q rfl rfl (Jq_move rfl rfl)) ?_
              refine DK_q (JO_q rfl rfl (Jq_move rfl rfl)) ?_
              refine DK_two (fun hb58 => ?_) (fun hb58 => ?_)
              · skip
                refine DK_q (JO_qg rfl rfl rfl rfl (Jq_fieldAddr rfl rfl fo27_1 rfl)) ?_
                refine DK_q (JO_qg rfl rfl rfl rfl (Jq_load_agg rfl rfl rfl (by decide) ty25 (by decide) (Nat.le_of_ble_eq_true rfl) rfl)) ?_
                refine DK_q (JO_qg rfl rfl rfl rfl (Jq_move rfl rfl)) ?_
                refine DK_q (JO_qg rfl rfl rfl rfl (Jq_index_arr (j := 2) rfl rfl rfl un39 ty25 (by decide) rfl)) ?_
                refine DK_q (JO_qg rfl rfl rfl rfl (Jq_load_agg rfl rfl rfl (by decide) ty25 (by decide) (Nat.le_of_ble_eq_true rfl) rfl)) ?_
                refine DK_cg rfl rfl rfl rfl (Jd_call rfl fn20 rfl (rqsame (qOf (mx (mx (mx (x0.q * y0.q) (x0.q * y1.q)) (x1.q * y0.q)) (x1.q * y1.q))) (qOf ((x1.q) * (y0.q))))) ?_
                refine DK_q (JO_q rfl rfl (Jq_pick_f rfl rfl rfl)) ?_
                refine DK_q (JO_q rfl rfl (Jq_assign rfl rfl)) ?_
                refine DK_nil ?_
                refine At_block ?_
                exact At_meet ⟨rfl, rfl, rfl, by rw [hb58]; rfl, rfl, trivial⟩
              · skip
                refine DK_skip rfl rfl rfl ?_
                refine DK_skip rfl rfl rfl ?_
                refine DK_skip rfl rfl rfl ?_
                refine DK_skip rfl rfl rfl ?_
                refine DK_skip rfl rfl rfl ?_
                refine DK_skip rfl rfl rfl ?_
                refine DK_q (JO_q rfl rfl (Jq_pick_t rfl rfl rfl)) ?_
                refine DK_q (JO_q rfl rfl (Jq_assign rfl rfl)) ?_
                refine DK_nil ?_
                refine At_block ?_
                exact At_meet ⟨rfl, rfl, rfl, by rw [hb58]; rfl, rfl, trivial⟩
          · skip
            refine Tc_region ?_
            refine Tl_q (JO_q rfl rfl (Jq_move rfl rfl)) rfl ?_
            refine Tl_q (JO_q rfl rfl (Jq_add rfl rfl rfl (r := 3) (w64 (by decide) (by decide) (by decide)))) rfl ?_
            refine Tl_q (JO_q rfl rfl (Jq_assign rfl rfl)) rfl ?_
            refine Tl_end ?_
            refine At_rn ?_
            refine Rn_succ ?_
            refine Tc_seq ?_
            refine Tc_seq ?_
            refine Tc_region ?_
            refine Tl_q (JO_q rfl rfl (Jq_move rfl rfl)) rfl ?_
            refine Tl_q (JO_q rfl rfl (Jq_lss rfl rfl rfl (b := true) (rfl))) rfl ?_
            refine Tl_end ?_
            refine At_then ?_
            refine Tc_t rfl ?_
            refine Tc_skipA ?_
            refine At_then ?_
            refine Tc_meet (Γ' := [(5, some (D.ptr 2 0)), (6, some (D.ptr 3 0)), (7, some (D.bool ((((sameQ (qOf (mn (mn (mn ((x0.q) * (y0.q)) ((x0.q) * (y1.q))) ((x1.q) * (y0.q))) ((x1.q) * (y1.q)))) (qOf ((x0.q) * (y0.q)))) || sameQ (qOf (mn (mn (mn ((x0.q) * (y0.q)) ((x0.q) * (y1.q))) ((x1.q) * (y0.q))) ((x1.q) * (y1.q)))) (qOf ((x0.q) * (y1.q)))) || sameQ (qOf (mn (mn (mn ((x0.q) * (y0.q)) ((x0.q) * (y1.q))) ((x1.q) * (y0.q))) ((x1.q) * (y1.q)))) (qOf ((x1.q) * (y0.q)))) || sameQ (qOf (mn (mn (mn ((x0.q) * (y0.q)) ((x0.q) * (y1.q))) ((x1.q) * (y0.q))) ((x1.q) * (y1.q)))) (qOf ((x1.q) * (y1.q)))))), (8, some (D.bool ((((sameQ (qOf (mx (mx (mx ((x0.q) * (y0.q)) ((x0.q) * (y1.q))) ((x1.q) * (y0.q))) ((x1.q) * (y1.q)))) (qOf ((x0.q) * (y0.q)))) || sameQ (qOf (mx (mx (mx ((x0.q) * (y0.q)) ((x0.q) * (y1.q))) ((x1.q) * (y0.q))) ((x1.q) * (y1.q)))) (qOf ((x0.q) * (y1.q)))) || sameQ (qOf (mx (mx (mx ((x0.q) * (y0.q)) ((x0.q) * (y1.q))) ((x1.q) * (y0.q))) ((x1.q) * (y1.q)))) (qOf ((x1.q) * (y0.q)))) || sameQ (qOf (mx (mx (mx ((x0.q) * (y0.q)) ((x0.q) * (y1.q))) ((x1.q) * (y0.q))) ((x1.q) * (y1.q)))) (qOf ((x1.q) * (y1.q)))))), (9, some (D.val (.int .i64 3)))]) (H' := [none, none, some ⟨27, [Leaf.val (.bool (cneg (mn (mn (mn (x0.q * y0.q) (x0.q * y1.q)) (x1.q * y0.q)) (x1.q * y1.q)))), natL (limbs (cnum (mn (mn (mn (x0.q * y0.q) (x0.q * y1.q)) (x1.q * y0.q)) (x1.q * y1.q)))), natL (limbs (cden (mn (mn (mn (x0.q * y0.q) (x0.q * y1.q)) (x1.q * y0.q)) (x1.q * y1.q)))), Leaf.val (.bool (cneg (mx (mx (mx (x0.q * y0.q) (x0.q * y1.q)) (x1.q * y0.q)) (x1.q * y1.q)))), natL (limbs (cnum (mx (mx (mx (x0.q * y0.q) (x0.q * y1.q)) (x1.q * y0.q)) (x1.q * y1.q)))), natL (limbs (cden (mx (mx (mx (x0.q * y0.q) (x0.q * y1.q)) (x1.q * y0.q)) (x1.q * y1.q))))], none, none⟩, some ⟨39, [Leaf.val (.bool (cneg ((x0.q) * (y0.q)))), natL (limbs (cnum ((x0.q) * (y0.q)))), natL (limbs (cden ((x0.q) * (y0.q)))), Leaf.val (.bool (cneg ((x0.q) * (y1.q)))), natL (limbs (cnum ((x0.q) * (y1.q)))), natL (limbs (cden ((x0.q) * (y1.q)))), Leaf.val (.bool (cneg ((x1.q) * (y0.q)))), natL (limbs (cnum ((x1.q) * (y0.q)))), natL (limbs (cden ((x1.q) * (y0.q)))), Leaf.val (.bool (cneg ((x1.q) * (y1.q)))), natL (limbs (cnum ((x1.q) * (y1.q)))), natL (limbs (cden ((x1.q) * (y1.q))))], none, none⟩]) ?_ ?_
            · skip
              refine Tc_block ?_
              refine Tc_meet (Γ' := [(5, some (D.ptr 2 0)), (6, some (D.ptr 3 0)), (7, some (D.bool ((((sameQ (qOf (mn (mn (mn ((x0.q) * (y0.q)) ((x0.q) * (y1.q))) ((x1.q) * (y0.q))) ((x1.q) * (y1.q)))) (qOf ((x0.q) * (y0.q)))) || sameQ (qOf (mn (mn (mn ((x0.q) * (y0.q)) ((x0.q) * (y1.q))) ((x1.q) * (y0.q))) ((x1.q) * (y1.q)))) (qOf ((x0.q) * (y1.q)))) || sameQ (qOf (mn (mn (mn ((x0.q) * (y0.q)) ((x0.q) * (y1.q))) ((x1.q) * (y0.q))) ((x1.q) * (y1.q)))) (qOf ((x1.q) * (y0.q)))) || sameQ (qOf (mn (mn (mn ((x0.q) * (y0.q)) ((x0.q) * (y1.q))) ((x1.q) * (y0.q))) ((x1.q) * (y1.q)))) (qOf ((x1.q) * (y1.q)))))), (8, some (D.bool (((sameQ (qOf (mx (mx (mx ((x0.q) * (y0.q)) ((x0.q) * (y1.q))) ((x1.q) * (y0.q))) ((x1.q) * (y1.q)))) (qOf ((x0.q) * (y0.q)))) || sameQ (qOf (mx (mx (mx ((x0.q) * (y0.q)) ((x0.q) * (y1.q))) ((x1.q) * (y0.q))) ((x1.q) * (y1.q)))) (qOf ((x0.q) * (y1.q)))) || sameQ (qOf (mx (mx (mx ((x0.q) * (y0.q)) ((x0.q) * (y1.q))) ((x1.q) * (y0.q))) ((x1.q) * (y1.q)))) (qOf ((x1.q) * (y0.q)))))), (9, some (D.val (.int .i64 3)))]) (H' := [none, none, some ⟨27, [Leaf.val (.bool (cneg (mn (mn (mn (x0.q * y0.q) (x0.q * y1.q)) (x1.q * y0.q)) (x1.q * y1.q)))), natL (limbs (cnum (mn (mn (mn (x0.q * y0.q) (x0.q * y1.q)) (x1.q * y0.q)) (x1.q * y1.q)))), natL (limbs (cden (mn (mn (mn (x0.q * y0.q) (x0.q * y1.q)) (x1.q * y0.q)) (x1.q * y1.q)))), Leaf.val (.bool (cneg (mx (mx (mx (x0.q * y0.q) (x0.q * y1.q)) (x1.q * y0.q)) (x1.q * y1.q)))), natL (limbs (cnum (mx (mx (mx (x0.q * y0.q) (x0.q * y1.q)) (x1.q * y0.q)) (x1.q * y1.q)))), natL (limbs (cden (mx (mx (mx (x0.q * y0.q) (x0.q * y1.q)) (x1.q * y0.q)) (x1.q * y1.q))))], none, none⟩, some ⟨39, [Leaf.val (.bool (cneg ((x0.q) * (y0.q)))), natL (limbs (cnum ((x0.q) * (y0.q)))), natL (limbs (cden ((x0.q) * (y0.q)))), Leaf.val (.bool (cneg ((x0.q) * (y1.q)))), natL (limbs (cnum ((x0.q) * (y1.q)))), natL (limbs (cden ((x0.q) * (y1.q)))), Leaf.val (.bool (cneg ((x1.q) * (y0.q)))), natL (limbs (cnum ((x1.q) * (y0.q)))), natL (limbs (cden ((x1.q) * (y0.q)))), Leaf.val (.bool (cneg ((x1.q) * (y1.q)))), natL (limbs (cnum ((x1.q) * (y1.q)))), natL (limbs (cden ((x1.q) * (y1.q))))], none, none⟩]) ?_ ?_
              · skip
                refine Tc_drawK 0 [none, none, none, none, none, none, none, none, none, none] [] follows (by kernel_rfl) ?_
                refine DK_q (JO_q rfl rfl (Jq_move rfl rfl)) ?_
                refine DK_q (JO_q rfl rfl (Jq_move rfl rfl)) ?_
                refine DK_two (fun hb49 => ?_) (fun hb49 => ?_)
                · skip
                  refine DK_q (JO_qg rfl rfl rfl rfl (Jq_fieldAddr rfl rfl fo27_0 rfl)) ?_
                  refine DK_q (JO_qg rfl rfl rfl rfl (Jq_load_agg rfl rfl rfl (by decide) ty25 (by decide) (Nat.le_of_ble_eq_true rfl) rfl)) ?_
                  refine DK_q (JO_qg rfl rfl rfl rfl (Jq_move rfl rfl)) ?_
                  refine DK_q (JO_qg rfl rfl rfl rfl (Jq_index_arr (j := 3) rfl rfl rfl un39 ty25 (by decide) rfl)) ?_
                  refine DK_q (JO_qg rfl rfl rfl rfl (Jq_load_agg rfl rfl rfl (by decide) ty25 (by decide) (Nat.le_of_ble_eq_true rfl) rfl)) ?_
                  refine DK_cg rfl rfl rfl rfl (Jd_call rfl fn20 rfl (rqsame (qOf (mn (mn (mn (x0.q * y0.q) (x0.q * y1.q)) (x1.q * y0.q)) (x1.q * y1.q))) (qOf ((x1.q) * (y1.q))))) ?_
                  refine DK_q (JO_q rfl rfl (Jq_pick_f rfl rfl rfl)) ?_
                  refine DK_q (JO_q rfl rfl (Jq_assign rfl rfl)) ?_
                  refine DK_nil ?_
                  exact At_meet ⟨rfl, rfl, by rw [hb49]; rfl, rfl, rfl, trivial⟩
                · skip
                  refine DK_skip rfl rfl rfl ?_
                  refine DK_skip rfl rfl rfl ?_
                  refine DK_skip rfl rfl rfl ?_
                  refine DK_skip rfl rfl rfl ?_
                  refine DK_skip rfl rfl rfl ?_
                  refine DK_skip rfl rfl rfl ?_
                  refine DK_q (JO_q rfl rfl (Jq_pick_t rfl rfl rfl)) ?_
                  refine DK_q (JO_q rfl rfl (Jq_assign rfl rfl)) ?_
                  refine DK_nil ?_
                  exact At_meet ⟨rfl, rfl, by rw [hb49]; rfl, rfl, rfl, trivial⟩
              · skip
                refine Tc_drawK 0 [none, none, none, none, none, none, none, none, none, none] [] follows (by kernel_rfl) ?_
                refine DK_q (JO_q rfl rfl (Jq_move rfl rfl)) ?_
                refine DK_q (JO_q rfl rfl (Jq_move rfl rfl)) ?_
                refine DK_two (fun hb58 => ?_) (fun hb58 => ?_)
                · skip
                  refine DK_q (JO_qg rfl rfl rfl rfl (Jq_fieldAddr rfl rfl fo27_1 rfl)) ?_
                  refine DK_q (JO_qg rfl rfl rfl rfl (Jq_load_agg rfl rfl rfl (by decide) ty25 (by decide) (Nat.le_of_ble_eq_true rfl) rfl)) ?_
                  refine DK_q (JO_qg rfl rfl rfl rfl (Jq_move rfl rfl)) ?_
                  refine DK_q (JO_qg rfl rfl rfl rfl (Jq_index_arr (j := 3) rfl rfl rfl un39 ty25 (by decide) rfl)) ?_
                  refine DK_q (JO_qg rfl rfl rfl rfl (Jq_load_agg rfl rfl rfl (by decide) ty25 (by decide) (Nat.le_of_ble_eq_true rfl) rfl)) ?_
                  refine DK_cg rfl rfl rfl rfl (Jd_call rfl fn20 rfl (rqsame (qOf (mx (mx (mx (x0.q * y0.q) (x0.q * y1.q)) (x1.q * y0.q)) (x1.q * y1.q))) (qOf ((x1.q) * (y1.q))))) ?_
                  refine DK_q (JO_q rfl rfl (Jq_pick_f rfl rfl rfl)) ?_
                  refine DK_q (JO_q rfl rfl (Jq_assign rfl rfl)) ?_
                  refine DK_nil ?_
                  refine At_block ?_
                  exact At_meet ⟨rfl, rfl, rfl, by rw [hb58]; rfl, rfl, trivial⟩
                · skip
                  refine DK_skip rfl rfl rfl ?_
                  refine DK_skip rfl rfl rfl ?_
                  refine DK_skip rfl rfl rfl ?_
                  refine DK_skip rfl rfl rfl ?_
                  refine DK_skip rfl rfl rfl ?_
                  refine DK_skip rfl rfl rfl ?_
                  refine DK_q (JO_q rfl rfl (Jq_pick_t rfl rfl rfl)) ?_
                  refine DK_q (JO_q rfl rfl (Jq_assign rfl rfl)) ?_
                  refine DK_nil ?_
                  refine At_block ?_
                  exact At_meet ⟨rfl, rfl, rfl, by rw [hb58]; rfl, rfl, trivial⟩
            · skip
              refine Tc_region ?_
              refine Tl_q (JO_q rfl rfl (Jq_move rfl rfl)) rfl ?_
              refine Tl_q (JO_q rfl rfl (Jq_add rfl rfl rfl (r := 4) (w64 (by decide) (by decide) (by decide)))) rfl ?_
              refine Tl_q (JO_q rfl rfl (Jq_assign rfl rfl)) rfl ?_
              refine Tl_end ?_
              refine At_rn ?_
              refine Rn_succ ?_
              refine Tc_seq ?_
              refine Tc_seq ?_
              refine Tc_region ?_
              refine Tl_q (JO_q rfl rfl (Jq_move rfl rfl)) rfl ?_
              refine Tl_q (JO_q rfl rfl (Jq_lss rfl rfl rfl (b := false) (rfl))) rfl ?_
              refine Tl_end ?_
              refine At_then ?_
              refine Tc_f rfl ?_
              refine Tc_exitA ?_
              refine At_then_exit ?_
              refine At_then_exit ?_
              refine At_block_exit ?_
              refine At_then ?_
              refine Tc_seq ?_
              refine Tc_region ?_
              refine Tl_q (JO_q rfl rfl (Jq_move rfl rfl)) rfl ?_
              refine Tl_q (JO_q rfl rfl (Jq_move rfl rfl)) rfl ?_
              refine Tl_is true (tight_lo _ _ _ _) ?_
              refine Tl_q (JO_qg rfl rfl rfl rfl (Jq_move rfl rfl)) rfl ?_
              refine Tl_q (JO_q rfl rfl (Jq_pick_t rfl rfl rfl)) rfl ?_
              refine Tl_is true (tight_hi _ _ _ _) ?_
              refine Tl_q (JO_q rfl rfl (Jq_assign rfl rfl)) rfl ?_
              refine Tl_end ?_
              refine At_then ?_
              exact Tc_ret1 (fun _ _ h => h) rfl rfl rfl
  · skip
    refine Tl_q (JO_skip rfl rfl rfl) rfl ?_
    refine Tl_q (JO_skip rfl rfl rfl) rfl ?_
    refine Tl_q (JO_skip rfl rfl rfl) rfl ?_
    refine Tl_q (JO_q rfl rfl (Jq_pick_t rfl rfl rfl)) rfl ?_
    refine Tl_end ?_
    refine At_then ?_
    refine Tc_t rfl ?_
    refine Tc_seq ?_
    refine Tc_region ?_
    refine Tl_q (JO_q rfl rfl (Jq_assign rfl rfl)) rfl ?_
    refine Tl_end ?_
    refine At_then ?_
    exact Tc_ret1 (fun _ _ h => h) rfl rfl rfl

end Go.Proofs.Ytpabkdpijcbkgaa
