/- Walks: more of the reference of layer 3, Valid. -/
import Derived.Test.YtpabkdpijcbkgaaWkI
import Derived.Test.YtpabkdpijcbkgaaFacts5
import Derived.Test.YtpabkdpijcbkgaaQi
namespace Go.Proofs.Ytpabkdpijcbkgaa
open Go Go.RowKit Rc


set_option maxRecDepth 10000 in
theorem rqsame (x y : Qr) : Ctr Try.prog 20 [qV x, qV y] (R.one (V.one (Leaf.val (.bool (sameQ x y))))) := by
  refine Ctr.of_body Try.func20 rfl Try.ntmps20 (Nat.le_of_ble_eq_true rfl) (fun w0 A0 => ?_)
  refine Tc_seq ?_
  refine Tc_region ?_
  refine Tl_e (JO_e rfl rfl (Je_box (n := 0) rfl rfl rfl)) rfl rfl ?_
  refine Tl_e (JO_e rfl rfl (Je_box (n := 1) rfl rfl rfl)) rfl rfl ?_
  refine Tl_q (JO_q rfl rfl (Jq_assign rfl rfl)) rfl ?_
  refine Tl_end ?_
  refine At_then ?_
  refine Tc_seq ?_
  refine Tc_region ?_
  refine Tl_q (JO_q rfl rfl (Jq_fieldAddr rfl rfl fo25_0 rfl)) rfl ?_
  refine Tl_q (JO_q rfl rfl (Jq_load rfl rfl rfl (by decide) ty4 rfl)) rfl ?_
  refine Tl_q (JO_q rfl rfl (Jq_fieldAddr rfl rfl fo25_0 rfl)) rfl ?_
  refine Tl_q (JO_q rfl rfl (Jq_load rfl rfl rfl (by decide) ty4 rfl)) rfl ?_
  refine Tl_q (JO_q rfl rfl (Jq_eql_bool rfl rfl rfl un4 (d := _) (rfl))) rfl ?_
  refine Tl_q (JO_q rfl rfl (Jq_move rfl rfl)) rfl ?_
  refine Tl_two (fun hb10 => ?_) (fun hb10 => ?_)
  · skip
    refine Tl_q (JO_skip rfl rfl rfl) rfl ?_
    refine Tl_q (JO_skip rfl rfl rfl) rfl ?_
    refine Tl_q (JO_skip rfl rfl rfl) rfl ?_
    refine Tl_q (JO_skip rfl rfl rfl) rfl ?_
    refine Tl_q (JO_skip rfl rfl rfl) rfl ?_
    refine Tl_q (JO_q rfl rfl (Jq_pick_f rfl rfl rfl)) rfl ?_
    refine Tl_q (JO_q rfl rfl (Jq_move rfl rfl)) rfl ?_
    refine Tl_q (JO_skip rfl rfl rfl) rfl ?_
    refine Tl_q (JO_skip rfl rfl rfl) rfl ?_
    refine Tl_q (JO_skip rfl rfl rfl) rfl ?_
    refine Tl_q (JO_skip rfl rfl rfl) rfl ?_
    refine Tl_q (JO_skip rfl rfl rfl) rfl ?_
    refine Tl_q (JO_q rfl rfl (Jq_pick_f rfl rfl rfl)) rfl ?_
    refine Tl_q (JO_q rfl rfl (Jq_assign rfl rfl)) rfl ?_
    refine Tl_end ?_
    refine At_then ?_
    exact Tc_ret1 (fun _ _ h => h) rfl rfl (by simp [sameQ, *])
  · skip
    refine Tl_q (JO_qg rfl rfl rfl rfl (Jq_fieldAddr rfl rfl fo25_1 rfl)) rfl ?_
    refine Tl_q (JO_qg rfl rfl rfl rfl (Jq_load rfl rfl rfl (by decide) ty23 rfl)) rfl ?_
    refine Tl_q (JO_qg rfl rfl rfl rfl (Jq_fieldAddr rfl rfl fo25_1 rfl)) rfl ?_
    refine Tl_q (JO_qg rfl rfl rfl rfl (Jq_load rfl rfl rfl (by decide) ty23 rfl)) rfl ?_
    refine Tl_e (JO_eg rfl rfl rfl rfl (Je_call rfl fn53 rfl (same_spec x.n y.n))) rfl rfl ?_
    refine Tl_q (JO_q rfl rfl (Jq_pick_t rfl rfl rfl)) rfl ?_
    refine Tl_q (JO_q rfl rfl (Jq_move rfl rfl)) rfl ?_
    refine Tl_two (fun hb17 => ?_) (fun hb17 => ?_)
    · skip
      refine Tl_q (JO_skip rfl rfl rfl) rfl ?_
      refine Tl_q (JO_skip rfl rfl rfl) rfl ?_
      refine Tl_q (JO_skip rfl rfl rfl) rfl ?_
      refine Tl_q (JO_skip rfl rfl rfl) rfl ?_
      refine Tl_q (JO_skip rfl rfl rfl) rfl ?_
      refine Tl_q (JO_q rfl rfl (Jq_pick_f rfl rfl rfl)) rfl ?_
      refine Tl_q (JO_q rfl rfl (Jq_assign rfl rfl)) rfl ?_
      refine Tl_end ?_
      refine At_then ?_
      exact Tc_ret1 (fun _ _ h => h) rfl rfl (by simp [sameQ, *])
    · skip
      refine Tl_q (JO_qg rfl rfl rfl rfl (Jq_fieldAddr rfl rfl fo25_2 rfl)) rfl ?_
      refine Tl_q (JO_qg rfl rfl rfl rfl (Jq_load rfl rfl rfl (by decide) ty23 rfl)) rfl ?_
      refine Tl_q (JO_qg rfl rfl rfl rfl (Jq_fieldAddr rfl rfl fo25_2 rfl)) rfl ?_
      refine Tl_q (JO_qg rfl rfl rfl rfl (Jq_load rfl rfl rfl (by decide) ty23 rfl)) rfl ?_
      refine Tl_e (JO_eg rfl rfl rfl rfl (Je_call rfl fn53 rfl (same_spec x.d y.d))) rfl rfl ?_
      refine Tl_q (JO_q rfl rfl (Jq_pick_t rfl rfl rfl)) rfl ?_
      refine Tl_q (JO_q rfl rfl (Jq_assign rfl rfl)) rfl ?_
      refine Tl_end ?_
      refine At_then ?_
      exact Tc_ret1 (fun _ _ h => h) rfl rfl (by simp [sameQ, *])

set_option maxRecDepth 10000 in
theorem rqvalid (x : Qr) (r : Rat) (hr : x.q = r) (hfx : Fit 1000000000000 x) : Ctr Try.prog 57 [qV x] (R.one (V.one (Leaf.val (.bool (isC x))))) := by
  refine Ctr.of_body Try.func57 rfl Try.ntmps57 (Nat.le_of_ble_eq_true rfl) (fun w0 A0 => ?_)
  haveI ir : Br r 1000000000000 := Br.fitq hr hfx
  refine Tc_seq ?_
  refine Tc_region ?_
  refine Tl_e (JO_e rfl rfl (Je_box (n := 0) rfl rfl rfl)) rfl rfl ?_
  refine Tl_q (JO_q rfl rfl (Jq_assign rfl rfl)) rfl ?_
  refine Tl_end ?_
  refine At_then ?_
  refine Tc_seq ?_
  refine Tc_drawK 0 [none, none, none, none, none] [] follows (by kernel_rfl) ?_
  refine DK_q (JO_q rfl rfl (Jq_load_agg rfl rfl rfl (by decide) ty25 (by decide) (Nat.le_of_ble_eq_true rfl) rfl)) ?_
  refine DK_q (JO_q rfl rfl (Jq_load_agg rfl rfl rfl (by decide) ty25 (by decide) (Nat.le_of_ble_eq_true rfl) rfl)) ?_
  refine DK_c rfl rfl (Jd_call rfl fn52 rfl (rqcanon x (r) hr (hfx.mono (by omega)))) ?_
  refine DK_c rfl rfl (Jd_call rfl fn20 rfl (rqsame x (qOf (r)))) ?_
  refine DK_q (JO_q rfl rfl (Jq_assign rfl rfl)) ?_
  refine DK_nil ?_
  refine At_then ?_
  exact Tc_ret1 (fun _ _ h => h) rfl rfl (by subst hr; rfl)

set_option maxRecDepth 10000 in
theorem qvalid (x : Qr) (r : Rat) (hr : x.q = r) (hfx : Fit 1000000000000 x) : Ctr Try.prog 56 [qV x] (R.one (V.one (Leaf.val (.bool (isC x))))) := by
  refine Ctr.of_body Try.func56 rfl Try.ntmps56 (Nat.le_of_ble_eq_true rfl) (fun w0 A0 => ?_)
  haveI ir : Br r 1000000000000 := Br.fitq hr hfx
  refine Tc_seq ?_
  refine Tc_region ?_
  refine Tl_e (JO_e rfl rfl (Je_box (n := 0) rfl rfl rfl)) rfl rfl ?_
  refine Tl_q (JO_q rfl rfl (Jq_assign rfl rfl)) rfl ?_
  refine Tl_end ?_
  refine At_then ?_
  refine Tc_seq ?_
  refine Tc_seq ?_
  refine Tc_region ?_
  refine Tl_q (JO_q rfl rfl (Jq_fieldAddr rfl rfl fo25_2 rfl)) rfl ?_
  refine Tl_q (JO_q rfl rfl (Jq_load rfl rfl rfl (by decide) ty23 rfl)) rfl ?_
  refine Tl_q (JO_q rfl rfl (Jq_len rfl rfl un23)) rfl ?_
  by_cases h0 : x.d.length = 0
  · skip
    refine Tl_q (JO_q rfl rfl (Jq_eql rfl rfl rfl (b := true) (eT (by omega)))) rfl ?_
    refine Tl_end ?_
    refine At_then ?_
    refine Tc_t rfl ?_
    refine Tc_seq ?_
    refine Tc_region ?_
    refine Tl_q (JO_q rfl rfl (Jq_fieldAddr rfl rfl fo25_1 rfl)) rfl ?_
    refine Tl_q (JO_q rfl rfl (Jq_load rfl rfl rfl (by decide) ty23 rfl)) rfl ?_
    refine Tl_e (JO_e rfl rfl (Je_call rfl fn76 rfl (valid_spec x.n))) rfl rfl ?_
    refine Tl_q (JO_q rfl rfl (Jq_move rfl rfl)) rfl ?_
    refine Tl_two (fun hb11 => ?_) (fun hb11 => ?_)
    · skip
      refine Tl_q (JO_skip rfl rfl rfl) rfl ?_
      refine Tl_q (JO_skip rfl rfl rfl) rfl ?_
      refine Tl_q (JO_skip rfl rfl rfl) rfl ?_
      refine Tl_q (JO_skip rfl rfl rfl) rfl ?_
      refine Tl_q (JO_skipU rfl rfl rfl) rfl ?_
      refine Tl_q (JO_skipU rfl rfl rfl) rfl ?_
      refine Tl_q (JO_skipU rfl rfl rfl) rfl ?_
      refine Tl_q (JO_skipU rfl rfl rfl) rfl ?_
      refine Tl_q (JO_skip rfl rfl rfl) rfl ?_
      refine Tl_q (JO_q rfl rfl (Jq_pick_f rfl rfl rfl)) rfl ?_
      refine Tl_q (JO_q rfl rfl (Jq_assign rfl rfl)) rfl ?_
      refine Tl_end ?_
      refine At_then ?_
      exact Tc_ret1 (fun _ _ h => h) rfl rfl (by rw [isC_int h0]; simp [*])
    · skip
      refine Tl_q (JO_qg rfl rfl rfl rfl (Jq_fieldAddr rfl rfl fo25_0 rfl)) rfl ?_
      refine Tl_q (JO_qg rfl rfl rfl rfl (Jq_load rfl rfl rfl (by decide) ty4 rfl)) rfl ?_
      refine Tl_q (JO_qg rfl rfl rfl rfl (Jq_not rfl rfl (c := _) rfl)) rfl ?_
      refine Tl_q (JO_qg rfl rfl rfl rfl (Jq_move rfl rfl)) rfl ?_
      refine Tl_two (fun hb15 => ?_) (fun hb15 => ?_)
      · skip
        refine Tl_q (JO_qg rfl rfl rfl rfl (Jq_fieldAddr rfl rfl fo25_1 rfl)) rfl ?_
        refine Tl_q (JO_qg rfl rfl rfl rfl (Jq_load rfl rfl rfl (by decide) ty23 rfl)) rfl ?_
        refine Tl_q (JO_qg rfl rfl rfl rfl (Jq_len rfl rfl un23)) rfl ?_
        refine Tl_q (JO_qg rfl rfl rfl rfl (Jq_gtr rfl rfl rfl (b := _) (rfl))) rfl ?_
        refine Tl_q (JO_qg rfl rfl rfl rfl (Jq_pick_f rfl rfl rfl)) rfl ?_
        refine Tl_q (JO_q rfl rfl (Jq_pick_t rfl rfl rfl)) rfl ?_
        refine Tl_q (JO_q rfl rfl (Jq_assign rfl rfl)) rfl ?_
        refine Tl_end ?_
        refine At_then ?_
        exact Tc_ret1 (fun _ _ h => h) rfl rfl (by rw [isC_int h0]; simp [*])
      · skip
        refine Tl_q (JO_skip rfl rfl rfl) rfl ?_
        refine Tl_q (JO_skip rfl rfl rfl) rfl ?_
        refine Tl_q (JO_skip rfl rfl rfl) rfl ?_
        refine Tl_q (JO_skip rfl rfl rfl) rfl ?_
        refine Tl_q (JO_qg rfl rfl rfl rfl (Jq_pick_t rfl rfl rfl)) rfl ?_
        refine Tl_q (JO_q rfl rfl (Jq_pick_t rfl rfl rfl)) rfl ?_
        refine Tl_q (JO_q rfl rfl (Jq_assign rfl rfl)) rfl ?_
        refine Tl_end ?_
        refine At_then ?_
        exact Tc_ret1 (fun _ _ h => h) rfl rfl (by rw [isC_int h0]; simp [*])
  · skip
    refine Tl_q (JO_q rfl rfl (Jq_eql rfl rfl rfl (b := false) (eF (by omega)))) rfl ?_
    refine Tl_end ?_
    refine At_then ?_
    refine Tc_f rfl ?_
    refine Tc_skipA ?_
    refine At_then ?_
    refine Tc_seq ?_
    refine Tc_region ?_
    refine Tl_q (JO_q rfl rfl (Jq_load_agg rfl rfl rfl (by decide) ty25 (by decide) (Nat.le_of_ble_eq_true rfl) rfl)) rfl ?_
    refine Tl_e (JO_e rfl rfl (Je_call rfl fn66 rfl (qcanon x (r) hr (hfx.mono (by omega))))) rfl rfl ?_
    refine Tl_e (JO_e rfl rfl (Je_alloc (n := 1) rfl tz25 rfl)) rfl rfl ?_
    refine Tl_e (JO_e rfl rfl (Je_store rfl rfl rfl rfl ty25 rfl (by decide) (Nat.le_of_ble_eq_true rfl) rfl)) rfl rfl ?_
    refine Tl_end ?_
    refine At_then ?_
    refine Tc_seq ?_
    refine Tc_region ?_
    refine Tl_q (JO_q rfl rfl (Jq_fieldAddr rfl rfl fo25_0 rfl)) rfl ?_
    refine Tl_q (JO_q rfl rfl (Jq_load rfl rfl rfl (by decide) ty4 rfl)) rfl ?_
    refine Tl_q (JO_q rfl rfl (Jq_fieldAddr rfl rfl fo25_0 rfl)) rfl ?_
    refine Tl_q (JO_q rfl rfl (Jq_load rfl rfl rfl (by decide) ty4 rfl)) rfl ?_
    refine Tl_q (JO_q rfl rfl (Jq_eql_bool rfl rfl rfl un4 (d := _) (rfl))) rfl ?_
    refine Tl_q (JO_q rfl rfl (Jq_move rfl rfl)) rfl ?_
    refine Tl_two (fun hb29 => ?_) (fun hb29 => ?_)
    · skip
      refine Tl_q (JO_skip rfl rfl rfl) rfl ?_
      refine Tl_q (JO_skip rfl rfl rfl) rfl ?_
      refine Tl_q (JO_skip rfl rfl rfl) rfl ?_
      refine Tl_q (JO_skip rfl rfl rfl) rfl ?_
      refine Tl_q (JO_skip rfl rfl rfl) rfl ?_
      refine Tl_q (JO_skip rfl rfl rfl) rfl ?_
      refine Tl_q (JO_skip rfl rfl rfl) rfl ?_
      refine Tl_q (JO_q rfl rfl (Jq_pick_f rfl rfl rfl)) rfl ?_
      refine Tl_q (JO_q rfl rfl (Jq_move rfl rfl)) rfl ?_
      refine Tl_q (JO_skip rfl rfl rfl) rfl ?_
      refine Tl_q (JO_skip rfl rfl rfl) rfl ?_
      refine Tl_q (JO_skip rfl rfl rfl) rfl ?_
      refine Tl_q (JO_skip rfl rfl rfl) rfl ?_
      refine Tl_q (JO_skip rfl rfl rfl) rfl ?_
      refine Tl_q (JO_skip rfl rfl rfl) rfl ?_
      refine Tl_q (JO_skip rfl rfl rfl) rfl ?_
      refine Tl_q (JO_q rfl rfl (Jq_pick_f rfl rfl rfl)) rfl ?_
      refine Tl_q (JO_q rfl rfl (Jq_move rfl rfl)) rfl ?_
      refine Tl_q (JO_skip rfl rfl rfl) rfl ?_
      refine Tl_q (JO_skip rfl rfl rfl) rfl ?_
      refine Tl_q (JO_skip rfl rfl rfl) rfl ?_
      refine Tl_q (JO_skip rfl rfl rfl) rfl ?_
      refine Tl_q (JO_skip rfl rfl rfl) rfl ?_
      refine Tl_q (JO_skip rfl rfl rfl) rfl ?_
      refine Tl_q (JO_q rfl rfl (Jq_pick_f rfl rfl rfl)) rfl ?_
      refine Tl_q (JO_q rfl rfl (Jq_move rfl rfl)) rfl ?_
      refine Tl_q (JO_skip rfl rfl rfl) rfl ?_
      refine Tl_q (JO_skip rfl rfl rfl) rfl ?_
      refine Tl_q (JO_skip rfl rfl rfl) rfl ?_
      refine Tl_q (JO_skip rfl rfl rfl) rfl ?_
      refine Tl_q (JO_skip rfl rfl rfl) rfl ?_
      refine Tl_q (JO_skip rfl rfl rfl) rfl ?_
      refine Tl_q (JO_q rfl rfl (Jq_pick_f rfl rfl rfl)) rfl ?_
      refine Tl_q (JO_q rfl rfl (Jq_assign rfl rfl)) rfl ?_
      refine Tl_end ?_
      refine At_then ?_
      exact Tc_ret1 (fun _ _ h => h) rfl rfl (by rw [isC_cmp, hr]; simp [*])
    · skip
      refine Tl_q (JO_qg rfl rfl rfl rfl (Jq_fieldAddr rfl rfl fo25_1 rfl)) rfl ?_
      refine Tl_q (JO_qg rfl rfl rfl rfl (Jq_load rfl rfl rfl (by decide) ty23 rfl)) rfl ?_
      refine Tl_q (JO_qg rfl rfl rfl rfl (Jq_len rfl rfl un23)) rfl ?_
      refine Tl_q (JO_qg rfl rfl rfl rfl (Jq_fieldAddr rfl rfl fo25_1 rfl)) rfl ?_
      refine Tl_q (JO_qg rfl rfl rfl rfl (Jq_load rfl rfl rfl (by decide) ty23 rfl)) rfl ?_
      refine Tl_q (JO_qg rfl rfl rfl rfl (Jq_len rfl rfl un23)) rfl ?_
      refine Tl_q (JO_qg rfl rfl rfl rfl (Jq_eql rfl rfl rfl (b := _) (rfl))) rfl ?_
      refine Tl_q (JO_q rfl rfl (Jq_pick_t rfl rfl rfl)) rfl ?_
      refine Tl_q (JO_q rfl rfl (Jq_move rfl rfl)) rfl ?_
      refine Tl_two (fun hb38 => ?_) (fun hb38 => ?_)
      · skip
        refine Tl_q (JO_skip rfl rfl rfl) rfl ?_
        refine Tl_q (JO_skip rfl rfl rfl) rfl ?_
        refine Tl_q (JO_skip rfl rfl rfl) rfl ?_
        refine Tl_q (JO_skip rfl rfl rfl) rfl ?_
        refine Tl_q (JO_skip rfl rfl rfl) rfl ?_
        refine Tl_q (JO_skip rfl rfl rfl) rfl ?_
        refine Tl_q (JO_skip rfl rfl rfl) rfl ?_
        refine Tl_q (JO_q rfl rfl (Jq_pick_f rfl rfl rfl)) rfl ?_
        refine Tl_q (JO_q rfl rfl (Jq_move rfl rfl)) rfl ?_
        refine Tl_q (JO_skip rfl rfl rfl) rfl ?_
        refine Tl_q (JO_skip rfl rfl rfl) rfl ?_
        refine Tl_q (JO_skip rfl rfl rfl) rfl ?_
        refine Tl_q (JO_skip rfl rfl rfl) rfl ?_
        refine Tl_q (JO_skip rfl rfl rfl) rfl ?_
        refine Tl_q (JO_skip rfl rfl rfl) rfl ?_
        refine Tl_q (JO_q rfl rfl (Jq_pick_f rfl rfl rfl)) rfl ?_
        refine Tl_q (JO_q rfl rfl (Jq_move rfl rfl)) rfl ?_
        refine Tl_q (JO_skip rfl rfl rfl) rfl ?_
        refine Tl_q (JO_skip rfl rfl rfl) rfl ?_
        refine Tl_q (JO_skip rfl rfl rfl) rfl ?_
        refine Tl_q (JO_skip rfl rfl rfl) rfl ?_
        refine Tl_q (JO_skip rfl rfl rfl) rfl ?_
        refine Tl_q (JO_skip rfl rfl rfl) rfl ?_
        refine Tl_q (JO_q rfl rfl (Jq_pick_f rfl rfl rfl)) rfl ?_
        refine Tl_q (JO_q rfl rfl (Jq_assign rfl rfl)) rfl ?_
        refine Tl_end ?_
        refine At_then ?_
        exact Tc_ret1 (fun _ _ h => h) rfl rfl (by rw [isC_cmp, hr]; simp [*])
      · skip
        refine Tl_q (JO_qg rfl rfl rfl rfl (Jq_fieldAddr rfl rfl fo25_2 rfl)) rfl ?_
        refine Tl_q (JO_qg rfl rfl rfl rfl (Jq_load rfl rfl rfl (by decide) ty23 rfl)) rfl ?_
        refine Tl_q (JO_qg rfl rfl rfl rfl (Jq_len rfl rfl un23)) rfl ?_
        refine Tl_q (JO_qg rfl rfl rfl rfl (Jq_fieldAddr rfl rfl fo25_2 rfl)) rfl ?_
        refine Tl_q (JO_qg rfl rfl rfl rfl (Jq_load rfl rfl rfl (by decide) ty23 rfl)) rfl ?_
        refine Tl_q (JO_qg rfl rfl rfl rfl (Jq_len rfl rfl un23)) rfl ?_
        refine Tl_q (JO_qg rfl rfl rfl rfl (Jq_eql rfl rfl rfl (b := _) (rfl))) rfl ?_
        refine Tl_q (JO_q rfl rfl (Jq_pick_t rfl rfl rfl)) rfl ?_
        refine Tl_q (JO_q rfl rfl (Jq_move rfl rfl)) rfl ?_
        refine Tl_two (fun hb47 => ?_) (fun hb47 => ?_)
        · skip
          refine Tl_q (JO_skip rfl rfl rfl) rfl ?_
          refine Tl_q (JO_skip rfl rfl rfl) rfl ?_
          refine Tl_q (JO_skip rfl rfl rfl) rfl ?_
          refine Tl_q (JO_skip rfl rfl rfl) rfl ?_
          refine Tl_q (JO_skip rfl rfl rfl) rfl ?_
          refine Tl_q (JO_skip rfl rfl rfl) rfl ?_
          refine Tl_q (JO_q rfl rfl (Jq_pick_f rfl rfl rfl)) rfl ?_
          refine Tl_q (JO_q rfl rfl (Jq_move rfl rfl)) rfl ?_
          refine Tl_q (JO_skip rfl rfl rfl) rfl ?_
          refine Tl_q (JO_skip rfl rfl rfl) rfl ?_
          refine Tl_q (JO_skip rfl rfl rfl) rfl ?_
          refine Tl_q (JO_skip rfl rfl rfl) rfl ?_
          refine Tl_q (JO_skip rfl rfl rfl) rfl ?_
          refine Tl_q (JO_skip rfl rfl rfl) rfl ?_
          refine Tl_q (JO_q rfl rfl (Jq_pick_f rfl rfl rfl)) rfl ?_
          refine Tl_q (JO_q rfl rfl (Jq_assign rfl rfl)) rfl ?_
          refine Tl_end ?_
          refine At_then ?_
          exact Tc_ret1 (fun _ _ h => h) rfl rfl (by rw [isC_cmp, hr]; simp [*])
        · skip
          refine Tl_q (JO_qg rfl rfl rfl rfl (Jq_fieldAddr rfl rfl fo25_1 rfl)) rfl ?_
          refine Tl_q (JO_qg rfl rfl rfl rfl (Jq_load rfl rfl rfl (by decide) ty23 rfl)) rfl ?_
          refine Tl_q (JO_qg rfl rfl rfl rfl (Jq_fieldAddr rfl rfl fo25_1 rfl)) rfl ?_
          refine Tl_q (JO_qg rfl rfl rfl rfl (Jq_load rfl rfl rfl (by decide) ty23 rfl)) rfl ?_
          refine Tl_e (JO_eg rfl rfl rfl rfl (Je_call rfl fn77 rfl (cmp_w x.n x.hn (limbs (cnum r)) (small_limbs _) (val x.n) rfl (cnum r) (val_limbs _)))) rfl rfl ?_
          refine Tl_q (JO_qg rfl rfl rfl rfl (Jq_eql rfl rfl rfl (b := _) (rfl))) rfl ?_
          refine Tl_q (JO_q rfl rfl (Jq_pick_t rfl rfl rfl)) rfl ?_
          refine Tl_q (JO_q rfl rfl (Jq_move rfl rfl)) rfl ?_
          refine Tl_two (fun hb55 => ?_) (fun hb55 => ?_)
          · skip
            refine Tl_q (JO_skip rfl rfl rfl) rfl ?_
            refine Tl_q (JO_skip rfl rfl rfl) rfl ?_
            refine Tl_q (JO_skip rfl rfl rfl) rfl ?_
            refine Tl_q (JO_skip rfl rfl rfl) rfl ?_
            refine Tl_q (JO_skip rfl rfl rfl) rfl ?_
            refine Tl_q (JO_skip rfl rfl rfl) rfl ?_
            refine Tl_q (JO_q rfl rfl (Jq_pick_f rfl rfl rfl)) rfl ?_
            refine Tl_q (JO_q rfl rfl (Jq_assign rfl rfl)) rfl ?_
            refine Tl_end ?_
            refine At_then ?_
            exact Tc_ret1 (fun _ _ h => h) rfl rfl (by rw [isC_cmp, hr]; simp [*])
          · skip
            refine Tl_q (JO_qg rfl rfl rfl rfl (Jq_fieldAddr rfl rfl fo25_2 rfl)) rfl ?_
            refine Tl_q (JO_qg rfl rfl rfl rfl (Jq_load rfl rfl rfl (by decide) ty23 rfl)) rfl ?_
            refine Tl_q (JO_qg rfl rfl rfl rfl (Jq_fieldAddr rfl rfl fo25_2 rfl)) rfl ?_
            refine Tl_q (JO_qg rfl rfl rfl rfl (Jq_load rfl rfl rfl (by decide) ty23 rfl)) rfl ?_
            refine Tl_e (JO_eg rfl rfl rfl rfl (Je_call rfl fn77 rfl (cmp_w x.d x.hd (limbs (cden r)) (small_limbs _) (val x.d) rfl (cden r) (val_limbs _)))) rfl rfl ?_
            refine Tl_q (JO_qg rfl rfl rfl rfl (Jq_eql rfl rfl rfl (b := _) (rfl))) rfl ?_
            refine Tl_q (JO_q rfl rfl (Jq_pick_t rfl rfl rfl)) rfl ?_
            refine Tl_q (JO_q rfl rfl (Jq_assign rfl rfl)) rfl ?_
            refine Tl_end ?_
            refine At_then ?_
            exact Tc_ret1 (fun _ _ h => h) rfl rfl (by rw [isC_cmp, hr]; simp [*])

set_option maxRecDepth 10000 in
theorem rqmake (x : Zr) (z : Int) (hz : x.z = z) (hfx : x.m.length ≤ 1000000000000) (y : Zr) (w : Int) (hw : y.z = w) (hfy : y.m.length ≤ 1000000000000) (hw1 : w ≠ 0) : Ctr Try.prog 67 [zV x, zV y] (R.tup [qV (qOf ((z : Rat) / (w : Rat))), V.one (Leaf.val (.int .i64 0))]) := by
  refine Ctr.of_body Try.func67 rfl Try.ntmps67 (Nat.le_of_ble_eq_true rfl) (fun w0 A0 => ?_)
  haveI ix : Bn (val x.m) 1000000000000 := Bn.val x.hm hfx
  haveI iy : Bn (val y.m) 1000000000000 := Bn.val y.hm hfy
  have hw0 : val y.m ≠ 0 := fun e => hw1 (by rw [← hw]; unfold Zr.z; rw [e]; cases y.neg <;> rfl)
  refine Tc_seq ?_
  refine Tc_region ?_
  refine Tl_e (JO_e rfl rfl (Je_box (n := 0) rfl rfl rfl)) rfl rfl ?_
  refine Tl_e (JO_e rfl rfl (Je_box (n := 1) rfl rfl rfl)) rfl rfl ?_
  refine Tl_e (JO_e rfl rfl (Je_alloc (n := 2) rfl tz25 rfl)) rfl rfl ?_
  refine Tl_q (JO_q rfl rfl (Jq_assign rfl rfl)) rfl ?_
  refine Tl_end ?_
  refine At_then ?_
  refine Tc_seq ?_
  refine Tc_seq ?_
  refine Tc_region ?_
  refine Tl_q (JO_q rfl rfl (Jq_load_agg rfl rfl rfl (by decide) ty63 (by decide) (Nat.le_of_ble_eq_true rfl) rfl)) rfl ?_
  refine Tl_e (JO_e rfl rfl (Je_call rfl fn91 rfl (rzsign y (w) hw (Nat.le_trans hfy (by omega))))) rfl rfl ?_
  refine Tl_q (JO_q rfl rfl (Jq_eql rfl rfl rfl (b := false) (eF (sgz_ne hw1)))) rfl ?_
  refine Tl_end ?_
  refine At_then ?_
  refine Tc_f rfl ?_
  refine Tc_skipA ?_
  refine At_then ?_
  refine Tc_seq ?_
  refine Tc_region ?_
  refine Tl_q (JO_q rfl rfl (Jq_fieldAddr rfl rfl fo63_0 rfl)) rfl ?_
  refine Tl_q (JO_q rfl rfl (Jq_load rfl rfl rfl (by decide) ty4 rfl)) rfl ?_
  refine Tl_q (JO_q rfl rfl (Jq_fieldAddr rfl rfl fo63_0 rfl)) rfl ?_
  refine Tl_q (JO_q rfl rfl (Jq_load rfl rfl rfl (by decide) ty4 rfl)) rfl ?_
  refine Tl_q (JO_q rfl rfl (Jq_neq_bool rfl rfl rfl un4 (d := _) (rfl))) rfl ?_
  refine Tl_q (JO_q rfl rfl (Jq_fieldAddr rfl rfl fo63_1 rfl)) rfl ?_
  refine Tl_q (JO_q rfl rfl (Jq_load rfl rfl rfl (by decide) ty23 rfl)) rfl ?_
  refine Tl_q (JO_q rfl rfl (Jq_fieldAddr rfl rfl fo63_1 rfl)) rfl ?_
  refine Tl_q (JO_q rfl rfl (Jq_load rfl rfl rfl (by decide) ty23 rfl)) rfl ?_
  refine Tl_e (JO_e rfl rfl (Je_call rfl fn48 rfl (rqquot (x.neg != y.neg) x.m y.m x.hm y.hm (by omega) (by omega) (val x.m) (val y.m) rfl rfl hw0))) rfl rfl ?_
  refine Tl_e (JO_e rfl rfl (Je_store rfl rfl rfl rfl ty25 rfl (by decide) (Nat.le_of_ble_eq_true rfl) rfl)) rfl rfl ?_
  refine Tl_q (JO_q rfl rfl (Jq_assign rfl rfl)) rfl ?_
  refine Tl_end ?_
  refine At_then ?_
  exact Tc_ret2 (fun _ _ h => h) rfl (⟨_, _, rfl, rfl, .inl ⟨ty25, Nat.le_of_ble_eq_true rfl, rfl⟩⟩) rfl (by subst hz; subst hw; unfold Zr.z; rw [← rq_div _ _ _ _ hw0]; rfl)

set_option maxRecDepth 10000 in
theorem rqof (z : Int) (h1 : -9223372036854775808 ≤ z) (h2 : z ≤ 9223372036854775807) : Ctr Try.prog 62 [V.one (Leaf.val (.int .i64 z))] (R.one (qV (qOf (z : Rat)))) := by
  refine Ctr.of_body Try.func62 rfl Try.ntmps62 (Nat.le_of_ble_eq_true rfl) (fun w0 A0 => ?_)
  refine Tc_seq ?_
  refine Tc_region ?_
  refine Tl_e (JO_e rfl rfl (Je_alloc (n := 0) rfl tz25 rfl)) rfl rfl ?_
  refine Tl_end ?_
  refine At_then ?_
  refine Tc_seq ?_
  refine Tc_region ?_
  refine Tl_q (JO_q rfl rfl (Jq_move rfl rfl)) rfl ?_
  refine Tl_e (JO_e rfl rfl (Je_call rfl fn68 rfl (rzof (z) (by omega) (by omega)))) rfl rfl ?_
  refine Tl_e (JO_e rfl rfl (Je_alloc (n := 1) rfl tz63 rfl)) rfl rfl ?_
  refine Tl_e (JO_e rfl rfl (Je_store rfl rfl rfl rfl ty63 rfl (by decide) (Nat.le_of_ble_eq_true rfl) rfl)) rfl rfl ?_
  refine Tl_end ?_
  refine At_then ?_
  refine Tc_seq ?_
  refine Tc_region ?_
  refine Tl_q (JO_q rfl rfl (Jq_fieldAddr rfl rfl fo63_0 rfl)) rfl ?_
  refine Tl_q (JO_q rfl rfl (Jq_load rfl rfl rfl (by decide) ty4 rfl)) rfl ?_
  refine Tl_q (JO_q rfl rfl (Jq_fieldAddr rfl rfl fo63_1 rfl)) rfl ?_
  refine Tl_q (JO_q rfl rfl (Jq_load rfl rfl rfl (by decide) ty23 rfl)) rfl ?_
  refine Tl_q (JO_q rfl rfl (Jq_build rfl tz25 rfl pl25 rfl)) rfl ?_
  refine Tl_e (JO_e rfl rfl (Je_store rfl rfl rfl rfl ty25 rfl (by decide) (Nat.le_of_ble_eq_true rfl) rfl)) rfl rfl ?_
  refine Tl_end ?_
  refine At_then ?_
  exact Tc_ret1 (fun _ _ h => h) rfl (⟨_, _, rfl, rfl, .inl ⟨ty25, Nat.le_of_ble_eq_true rfl, rfl⟩⟩) (congrArg R.one (qOf_int z))

set_option maxRecDepth 10000 in
theorem rqfrac (z w : Int) (h1 : -9223372036854775808 ≤ z) (h2 : z ≤ 9223372036854775807) (h3 : -9223372036854775808 ≤ w) (h4 : w ≤ 9223372036854775807) (h5 : w ≠ 0) : Ctr Try.prog 45 [V.one (Leaf.val (.int .i64 z)), V.one (Leaf.val (.int .i64 w))] (R.tup [qV (qOf ((z : Rat) / (w : Rat))), V.one (Leaf.val (.int .i64 0))]) := by
  refine Ctr.of_body Try.func45 rfl Try.ntmps45 (Nat.le_of_ble_eq_true rfl) (fun w0 A0 => ?_)
  refine Tc_seq ?_
  refine Tc_region ?_
  refine Tl_e (JO_e rfl rfl (Je_alloc (n := 0) rfl tz25 rfl)) rfl rfl ?_
  refine Tl_q (JO_q rfl rfl (Jq_assign rfl rfl)) rfl ?_
  refine Tl_end ?_
  refine At_then ?_
  refine Tc_seq ?_
  refine Tc_region ?_
  refine Tl_q (JO_q rfl rfl (Jq_move rfl rfl)) rfl ?_
  refine Tl_e (JO_e rfl rfl (Je_call rfl fn68 rfl (rzof (z) (by omega) (by omega)))) rfl rfl ?_
  refine Tl_q (JO_q rfl rfl (Jq_move rfl rfl)) rfl ?_
  refine Tl_e (JO_e rfl rfl (Je_call rfl fn68 rfl (rzof (w) (by omega) (by omega)))) rfl rfl ?_
  refine Tl_e (JO_e rfl rfl (Je_call rfl fn67 rfl (rqmake (zOf z) z (zOf_z _) (Bn.of_lt (by omega) (by omega)) (zOf w) w (zOf_z _) (Bn.of_lt (by omega) (by omega)) h5))) rfl rfl ?_
  refine Tl_q (JO_q rfl rfl (Jq_extract rfl rfl rfl)) rfl ?_
  refine Tl_q (JO_q rfl rfl (Jq_extract rfl rfl rfl)) rfl ?_
  refine Tl_e (JO_e rfl rfl (Je_store rfl rfl rfl rfl ty25 rfl (by decide) (Nat.le_of_ble_eq_true rfl) rfl)) rfl rfl ?_
  refine Tl_q (JO_q rfl rfl (Jq_assign rfl rfl)) rfl ?_
  refine Tl_end ?_
  refine At_then ?_
  exact Tc_ret2 (fun _ _ h => h) rfl (⟨_, _, rfl, rfl, .inl ⟨ty25, Nat.le_of_ble_eq_true rfl, rfl⟩⟩) rfl rfl

end Go.Proofs.Ytpabkdpijcbkgaa
