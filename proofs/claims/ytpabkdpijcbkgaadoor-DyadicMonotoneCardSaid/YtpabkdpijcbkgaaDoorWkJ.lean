/- Walks: more of the reference of layer 3, Valid. -/
import Derived.Test.YtpabkdpijcbkgaaDoorWkI
import Derived.Test.YtpabkdpijcbkgaaDoorFacts
import Derived.Test.YtpabkdpijcbkgaaDoorQi
set_option linter.unusedSimpArgs false
set_option linter.unusedVariables false
namespace Go.Proofs.YtpabkdpijcbkgaaDoor
open Go Go.RowKit Rc


set_option maxRecDepth 10000 in
theorem rqsame (x y : Qr) : Ctr Tryd.prog 31 [qV x, qV y] (R.one (V.one (Leaf.val (.bool (sameQ x y))))) := by
  refine Ctr.of_body Tryd.func31 rfl Tryd.ntmps31 (Nat.le_of_ble_eq_true rfl) (fun w0 A0 => ?_)
  refine Tc_seq ?_
  refine Tc_region ?_
  refine Tl_e (JO_e rfl rfl (Je_box (n := 0) rfl rfl rfl)) rfl rfl ?_
  refine Tl_e (JO_e rfl rfl (Je_box (n := 1) rfl rfl rfl)) rfl rfl ?_
  refine Tl_q (JO_q rfl rfl (Jq_assign rfl rfl)) rfl ?_
  refine Tl_end ?_
  refine At_then ?_
  refine Tc_seq ?_
  refine Tc_region ?_
  refine Tl_q (JO_q rfl rfl (Jq_fieldAddr rfl rfl fo25_0 rfl)) rfl ?_
  refine Tl_q (JO_q rfl rfl (Jq_load rfl rfl rfl (by decide) ty4 rfl)) rfl ?_
  refine Tl_q (JO_q rfl rfl (Jq_fieldAddr rfl rfl fo25_0 rfl)) rfl ?_
  refine Tl_q (JO_q rfl rfl (Jq_load rfl rfl rfl (by decide) ty4 rfl)) rfl ?_
  refine Tl_q (JO_q rfl rfl (Jq_eql_bool rfl rfl rfl un4 (d := _) (rfl))) rfl ?_
  refine Tl_q (JO_q rfl rfl (Jq_move rfl rfl)) rfl ?_
  refine Tl_two (fun hb10 => ?_) (fun hb10 => ?_)
  · skip
    refine Tl_q (JO_skip rfl rfl rfl) rfl ?_
    refine Tl_q (JO_skip rfl rfl rfl) rfl ?_
    refine Tl_q (JO_skip rfl rfl rfl) rfl ?_
    refine Tl_q (JO_skip rfl rfl rfl) rfl ?_
    refine Tl_q (JO_skip rfl rfl rfl) rfl ?_
    refine Tl_q (JO_q rfl rfl (Jq_pick_f rfl rfl rfl)) rfl ?_
    refine Tl_q (JO_q rfl rfl (Jq_move rfl rfl)) rfl ?_
    refine Tl_q (JO_skip rfl rfl rfl) rfl ?_
    refine Tl_q (JO_skip rfl rfl rfl) rfl ?_
    refine Tl_q (JO_skip rfl rfl rfl) rfl ?_
    refine Tl_q (JO_skip rfl rfl rfl) rfl ?_
    refine Tl_q (JO_skip rfl rfl rfl) rfl ?_
    refine Tl_q (JO_q rfl rfl (Jq_pick_f rfl rfl rfl)) rfl ?_
    refine Tl_q (JO_q rfl rfl (Jq_assign rfl rfl)) rfl ?_
    refine Tl_end ?_
    refine At_then ?_
    exact Tc_ret1 (fun _ _ h => h) rfl rfl (by simp [sameQ, *])
  · skip
    refine Tl_q (JO_qg rfl rfl rfl rfl (Jq_fieldAddr rfl rfl fo25_1 rfl)) rfl ?_
    refine Tl_q (JO_qg rfl rfl rfl rfl (Jq_load rfl rfl rfl (by decide) ty23 rfl)) rfl ?_
    refine Tl_q (JO_qg rfl rfl rfl rfl (Jq_fieldAddr rfl rfl fo25_1 rfl)) rfl ?_
    refine Tl_q (JO_qg rfl rfl rfl rfl (Jq_load rfl rfl rfl (by decide) ty23 rfl)) rfl ?_
    refine Tl_e (JO_eg rfl rfl rfl rfl (Je_call rfl fn45 rfl (same_spec x.n y.n))) rfl rfl ?_
    refine Tl_q (JO_q rfl rfl (Jq_pick_t rfl rfl rfl)) rfl ?_
    refine Tl_q (JO_q rfl rfl (Jq_move rfl rfl)) rfl ?_
    refine Tl_two (fun hb17 => ?_) (fun hb17 => ?_)
    · skip
      refine Tl_q (JO_skip rfl rfl rfl) rfl ?_
      refine Tl_q (JO_skip rfl rfl rfl) rfl ?_
      refine Tl_q (JO_skip rfl rfl rfl) rfl ?_
      refine Tl_q (JO_skip rfl rfl rfl) rfl ?_
      refine Tl_q (JO_skip rfl rfl rfl) rfl ?_
      refine Tl_q (JO_q rfl rfl (Jq_pick_f rfl rfl rfl)) rfl ?_
      refine Tl_q (JO_q rfl rfl (Jq_assign rfl rfl)) rfl ?_
      refine Tl_end ?_
      refine At_then ?_
      exact Tc_ret1 (fun _ _ h => h) rfl rfl (by simp [sameQ, *])
    · skip
      refine Tl_q (JO_qg rfl rfl rfl rfl (Jq_fieldAddr rfl rfl fo25_2 rfl)) rfl ?_
      refine Tl_q (JO_qg rfl rfl rfl rfl (Jq_load rfl rfl rfl (by decide) ty23 rfl)) rfl ?_
      refine Tl_q (JO_qg rfl rfl rfl rfl (Jq_fieldAddr rfl rfl fo25_2 rfl)) rfl ?_
      refine Tl_q (JO_qg rfl rfl rfl rfl (Jq_load rfl rfl rfl (by decide) ty23 rfl)) rfl ?_
      refine Tl_e (JO_eg rfl rfl rfl rfl (Je_call rfl fn45 rfl (same_spec x.d y.d))) rfl rfl ?_
      refine Tl_q (JO_q rfl rfl (Jq_pick_t rfl rfl rfl)) rfl ?_
      refine Tl_q (JO_q rfl rfl (Jq_assign rfl rfl)) rfl ?_
      refine Tl_end ?_
      refine At_then ?_
      exact Tc_ret1 (fun _ _ h => h) rfl rfl (by simp [sameQ, *])

set_option maxRecDepth 10000 in
theorem rqmake (x : Zr) (z : Int) (hz : x.z = z) (hfx : x.m.length ≤ 1000000000000) (y : Zr) (w : Int) (hw : y.z = w) (hfy : y.m.length ≤ 1000000000000) (hw1 : w ≠ 0) : Ctr Tryd.prog 98 [zV x, zV y] (R.tup [qV (qOf ((z : Rat) / (w : Rat))), V.one (Leaf.val (.int .i64 0))]) := by
  refine Ctr.of_body Tryd.func98 rfl Tryd.ntmps98 (Nat.le_of_ble_eq_true rfl) (fun w0 A0 => ?_)
  haveI ix : Bn (val x.m) 1000000000000 := Bn.val x.hm hfx
  haveI iy : Bn (val y.m) 1000000000000 := Bn.val y.hm hfy
  have hw0 : val y.m ≠ 0 := fun e => hw1 (by rw [← hw]; unfold Zr.z; rw [e]; cases y.neg <;> rfl)
  refine Tc_seq ?_
  refine Tc_region ?_
  refine Tl_e (JO_e rfl rfl (Je_box (n := 0) rfl rfl rfl)) rfl rfl ?_
  refine Tl_e (JO_e rfl rfl (Je_box (n := 1) rfl rfl rfl)) rfl rfl ?_
  refine Tl_e (JO_e rfl rfl (Je_alloc (n := 2) rfl tz25 rfl)) rfl rfl ?_
  refine Tl_q (JO_q rfl rfl (Jq_assign rfl rfl)) rfl ?_
  refine Tl_end ?_
  refine At_then ?_
  refine Tc_seq ?_
  refine Tc_seq ?_
  refine Tc_region ?_
  refine Tl_q (JO_q rfl rfl (Jq_load_agg rfl rfl rfl (by decide) ty65 (by decide) (Nat.le_of_ble_eq_true rfl) rfl)) rfl ?_
  refine Tl_e (JO_e rfl rfl (Je_call rfl fn79 rfl (rzsign y (w) hw (Nat.le_trans hfy (by omega))))) rfl rfl ?_
  refine Tl_q (JO_q rfl rfl (Jq_eql rfl rfl rfl (b := false) (eF (sgz_ne hw1)))) rfl ?_
  refine Tl_end ?_
  refine At_then ?_
  refine Tc_f rfl ?_
  refine Tc_skipA ?_
  refine At_then ?_
  refine Tc_seq ?_
  refine Tc_region ?_
  refine Tl_q (JO_q rfl rfl (Jq_fieldAddr rfl rfl fo65_0 rfl)) rfl ?_
  refine Tl_q (JO_q rfl rfl (Jq_load rfl rfl rfl (by decide) ty4 rfl)) rfl ?_
  refine Tl_q (JO_q rfl rfl (Jq_fieldAddr rfl rfl fo65_0 rfl)) rfl ?_
  refine Tl_q (JO_q rfl rfl (Jq_load rfl rfl rfl (by decide) ty4 rfl)) rfl ?_
  refine Tl_q (JO_q rfl rfl (Jq_neq_bool rfl rfl rfl un4 (d := _) (rfl))) rfl ?_
  refine Tl_q (JO_q rfl rfl (Jq_fieldAddr rfl rfl fo65_1 rfl)) rfl ?_
  refine Tl_q (JO_q rfl rfl (Jq_load rfl rfl rfl (by decide) ty23 rfl)) rfl ?_
  refine Tl_q (JO_q rfl rfl (Jq_fieldAddr rfl rfl fo65_1 rfl)) rfl ?_
  refine Tl_q (JO_q rfl rfl (Jq_load rfl rfl rfl (by decide) ty23 rfl)) rfl ?_
  refine Tl_e (JO_e rfl rfl (Je_call rfl fn51 rfl (rqquot (x.neg != y.neg) x.m y.m x.hm y.hm (by omega) (by omega) (val x.m) (val y.m) rfl rfl hw0))) rfl rfl ?_
  refine Tl_e (JO_e rfl rfl (Je_store rfl rfl rfl rfl ty25 rfl (by decide) (Nat.le_of_ble_eq_true rfl) rfl)) rfl rfl ?_
  refine Tl_q (JO_q rfl rfl (Jq_assign rfl rfl)) rfl ?_
  refine Tl_end ?_
  refine At_then ?_
  exact Tc_ret2 (fun _ _ h => h) rfl (⟨_, _, rfl, rfl, .inl ⟨ty25, Nat.le_of_ble_eq_true rfl, rfl⟩⟩) rfl (by subst hz; subst hw; unfold Zr.z; rw [← rq_div _ _ _ _ hw0]; rfl)

set_option maxRecDepth 10000 in
theorem rqfrac (z w : Int) (h1 : -9223372036854775808 ≤ z) (h2 : z ≤ 9223372036854775807) (h3 : -9223372036854775808 ≤ w) (h4 : w ≤ 9223372036854775807) (h5 : w ≠ 0) : Ctr Tryd.prog 70 [V.one (Leaf.val (.int .i64 z)), V.one (Leaf.val (.int .i64 w))] (R.tup [qV (qOf ((z : Rat) / (w : Rat))), V.one (Leaf.val (.int .i64 0))]) := by
  refine Ctr.of_body Tryd.func70 rfl Tryd.ntmps70 (Nat.le_of_ble_eq_true rfl) (fun w0 A0 => ?_)
  refine Tc_seq ?_
  refine Tc_region ?_
  refine Tl_e (JO_e rfl rfl (Je_alloc (n := 0) rfl tz25 rfl)) rfl rfl ?_
  refine Tl_q (JO_q rfl rfl (Jq_assign rfl rfl)) rfl ?_
  refine Tl_end ?_
  refine At_then ?_
  refine Tc_seq ?_
  refine Tc_region ?_
  refine Tl_q (JO_q rfl rfl (Jq_move rfl rfl)) rfl ?_
  refine Tl_e (JO_e rfl rfl (Je_call rfl fn99 rfl (rzof (z) (by omega) (by omega)))) rfl rfl ?_
  refine Tl_q (JO_q rfl rfl (Jq_move rfl rfl)) rfl ?_
  refine Tl_e (JO_e rfl rfl (Je_call rfl fn99 rfl (rzof (w) (by omega) (by omega)))) rfl rfl ?_
  refine Tl_e (JO_e rfl rfl (Je_call rfl fn98 rfl (rqmake (zOf z) z (zOf_z _) (Bn.of_lt (by omega) (by omega)) (zOf w) w (zOf_z _) (Bn.of_lt (by omega) (by omega)) h5))) rfl rfl ?_
  refine Tl_q (JO_q rfl rfl (Jq_extract rfl rfl rfl)) rfl ?_
  refine Tl_q (JO_q rfl rfl (Jq_extract rfl rfl rfl)) rfl ?_
  refine Tl_e (JO_e rfl rfl (Je_store rfl rfl rfl rfl ty25 rfl (by decide) (Nat.le_of_ble_eq_true rfl) rfl)) rfl rfl ?_
  refine Tl_q (JO_q rfl rfl (Jq_assign rfl rfl)) rfl ?_
  refine Tl_end ?_
  refine At_then ?_
  exact Tc_ret2 (fun _ _ h => h) rfl (⟨_, _, rfl, rfl, .inl ⟨ty25, Nat.le_of_ble_eq_true rfl, rfl⟩⟩) rfl rfl

end Go.Proofs.YtpabkdpijcbkgaaDoor
