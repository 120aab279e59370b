/- Walks: the helpers of the laws of chapter 6. -/
import Derived.Test.YtpabkdpijcbkgaaGreatDoorWkK
import Derived.Test.YtpabkdpijcbkgaaGreatDoorFacts
import Derived.Test.YtpabkdpijcbkgaaGreatDoorLaw6
set_option linter.unusedSimpArgs false
set_option linter.unusedVariables false
namespace Go.Proofs.YtpabkdpijcbkgaaGreatDoor
open Go Go.RowKit Rc


set_option maxRecDepth 10000 in
theorem l6of (lo hi : Int) (h1 : -9223372036854775808 ≤ lo) (h2 : lo ≤ 9223372036854775807) (h3 : -9223372036854775808 ≤ hi) (h4 : hi ≤ 9223372036854775807) : Ctr Tryz.prog 11 [V.one (Leaf.val (.int .i64 lo)), V.one (Leaf.val (.int .i64 hi))] (R.one (iV (qOf (((lo : Int) : Rat))) (qOf (((hi : Int) : Rat))))) := by
  refine Ctr.of_body Tryz.func11 rfl Tryz.ntmps11 (Nat.le_of_ble_eq_true rfl) (fun w0 A0 => ?_)
  refine Tc_seq ?_
  refine Tc_region ?_
  refine Tl_e (JO_e rfl rfl (Je_alloc (n := 0) rfl tz27 rfl)) rfl rfl ?_
  refine Tl_end ?_
  refine At_then ?_
  refine Tc_seq ?_
  refine Tc_region ?_
  refine Tl_q (JO_q rfl rfl (Jq_move rfl rfl)) rfl ?_
  refine Tl_e (JO_e rfl rfl (Je_call rfl fn28 rfl (rqof lo (by omega) (by omega)))) rfl rfl ?_
  refine Tl_q (JO_q rfl rfl (Jq_move rfl rfl)) rfl ?_
  refine Tl_e (JO_e rfl rfl (Je_call rfl fn28 rfl (rqof hi (by omega) (by omega)))) rfl rfl ?_
  refine Tl_q (JO_q rfl rfl (Jq_build rfl tz27 rfl pl27 rfl)) rfl ?_
  refine Tl_e (JO_e rfl rfl (Je_store rfl rfl rfl rfl ty27 rfl (by decide) (Nat.le_of_ble_eq_true rfl) rfl)) rfl rfl ?_
  refine Tl_end ?_
  refine At_then ?_
  exact Tc_ret1 (fun _ _ h => h) rfl (⟨_, _, rfl, rfl, .inl ⟨ty27, Nat.le_of_ble_eq_true rfl, rfl⟩⟩) rfl

set_option maxRecDepth 10000 in
theorem l6short (x : Qr) : Ctr Tryz.prog 15 [qV x] (R.one (V.one (Leaf.val (.bool (sh x))))) := by
  refine Ctr.of_body Tryz.func15 rfl Tryz.ntmps15 (Nat.le_of_ble_eq_true rfl) (fun w0 A0 => ?_)
  refine Tc_seq ?_
  refine Tc_region ?_
  refine Tl_e (JO_e rfl rfl (Je_box (n := 0) rfl rfl rfl)) rfl rfl ?_
  refine Tl_q (JO_q rfl rfl (Jq_assign rfl rfl)) rfl ?_
  refine Tl_end ?_
  refine At_then ?_
  refine Tc_seq ?_
  refine Tc_region ?_
  refine Tl_q (JO_q rfl rfl (Jq_fieldAddr rfl rfl fo25_1 rfl)) rfl ?_
  refine Tl_q (JO_q rfl rfl (Jq_load rfl rfl rfl (by decide) ty23 rfl)) rfl ?_
  refine Tl_q (JO_q rfl rfl (Jq_len rfl rfl un23)) rfl ?_
  refine Tl_q (JO_q rfl rfl (Jq_leq rfl rfl rfl (b := _) (rfl))) rfl ?_
  refine Tl_q (JO_q rfl rfl (Jq_move rfl rfl)) rfl ?_
  refine Tl_two (fun hb7 => ?_) (fun hb7 => ?_)
  · skip
    refine Tl_q (JO_skip rfl rfl rfl) rfl ?_
    refine Tl_q (JO_skip rfl rfl rfl) rfl ?_
    refine Tl_q (JO_skip rfl rfl rfl) rfl ?_
    refine Tl_q (JO_skip rfl rfl rfl) rfl ?_
    refine Tl_q (JO_q rfl rfl (Jq_pick_f rfl rfl rfl)) rfl ?_
    refine Tl_q (JO_q rfl rfl (Jq_assign rfl rfl)) rfl ?_
    refine Tl_end ?_
    refine At_then ?_
    exact Tc_ret1 (fun _ _ h => h) rfl rfl (by simp [sh, *])
  · skip
    refine Tl_q (JO_qg rfl rfl rfl rfl (Jq_fieldAddr rfl rfl fo25_2 rfl)) rfl ?_
    refine Tl_q (JO_qg rfl rfl rfl rfl (Jq_load rfl rfl rfl (by decide) ty23 rfl)) rfl ?_
    refine Tl_q (JO_qg rfl rfl rfl rfl (Jq_len rfl rfl un23)) rfl ?_
    refine Tl_q (JO_qg rfl rfl rfl rfl (Jq_leq rfl rfl rfl (b := _) (rfl))) rfl ?_
    refine Tl_q (JO_q rfl rfl (Jq_pick_t rfl rfl rfl)) rfl ?_
    refine Tl_q (JO_q rfl rfl (Jq_assign rfl rfl)) rfl ?_
    refine Tl_end ?_
    refine At_then ?_
    exact Tc_ret1 (fun _ _ h => h) rfl rfl (by simp [sh, *])

set_option maxRecDepth 10000 in
theorem l6small (x0 x1 : Qr) : Ctr Tryz.prog 5 [iV x0 x1] (R.one (V.one (Leaf.val (.bool (smI x0 x1))))) := by
  refine Ctr.of_body Tryz.func5 rfl Tryz.ntmps5 (Nat.le_of_ble_eq_true rfl) (fun w0 A0 => ?_)
  refine Tc_seq ?_
  refine Tc_region ?_
  refine Tl_e (JO_e rfl rfl (Je_box (n := 0) rfl rfl rfl)) rfl rfl ?_
  refine Tl_q (JO_q rfl rfl (Jq_assign rfl rfl)) rfl ?_
  refine Tl_end ?_
  refine At_then ?_
  refine Tc_seq ?_
  refine Tc_region ?_
  refine Tl_q (JO_q rfl rfl (Jq_fieldAddr rfl rfl fo27_0 rfl)) rfl ?_
  refine Tl_q (JO_q rfl rfl (Jq_load_agg rfl rfl rfl (by decide) ty25 (by decide) (Nat.le_of_ble_eq_true rfl) rfl)) rfl ?_
  refine Tl_e (JO_e rfl rfl (Je_call rfl fn15 rfl (l6short x0))) rfl rfl ?_
  refine Tl_q (JO_q rfl rfl (Jq_move rfl rfl)) rfl ?_
  refine Tl_two (fun hb6 => ?_) (fun hb6 => ?_)
  · skip
    refine Tl_q (JO_skip rfl rfl rfl) rfl ?_
    refine Tl_q (JO_skip rfl rfl rfl) rfl ?_
    refine Tl_q (JO_skip rfl rfl rfl) rfl ?_
    refine Tl_q (JO_q rfl rfl (Jq_pick_f rfl rfl rfl)) rfl ?_
    refine Tl_q (JO_q rfl rfl (Jq_move rfl rfl)) rfl ?_
    refine Tl_q (JO_skip rfl rfl rfl) rfl ?_
    refine Tl_q (JO_skip rfl rfl rfl) rfl ?_
    refine Tl_q (JO_q rfl rfl (Jq_pick_f rfl rfl rfl)) rfl ?_
    refine Tl_q (JO_q rfl rfl (Jq_assign rfl rfl)) rfl ?_
    refine Tl_end ?_
    refine At_then ?_
    exact Tc_ret1 (fun _ _ h => h) rfl rfl (by simp [smI, *])
  · skip
    refine Tl_q (JO_qg rfl rfl rfl rfl (Jq_fieldAddr rfl rfl fo27_1 rfl)) rfl ?_
    refine Tl_q (JO_qg rfl rfl rfl rfl (Jq_load_agg rfl rfl rfl (by decide) ty25 (by decide) (Nat.le_of_ble_eq_true rfl) rfl)) rfl ?_
    refine Tl_e (JO_eg rfl rfl rfl rfl (Je_call rfl fn15 rfl (l6short x1))) rfl rfl ?_
    refine Tl_q (JO_q rfl rfl (Jq_pick_t rfl rfl rfl)) rfl ?_
    refine Tl_q (JO_q rfl rfl (Jq_move rfl rfl)) rfl ?_
    refine Tl_two (fun hb11 => ?_) (fun hb11 => ?_)
    · skip
      refine Tl_q (JO_skip rfl rfl rfl) rfl ?_
      refine Tl_q (JO_skip rfl rfl rfl) rfl ?_
      refine Tl_q (JO_q rfl rfl (Jq_pick_f rfl rfl rfl)) rfl ?_
      refine Tl_q (JO_q rfl rfl (Jq_assign rfl rfl)) rfl ?_
      refine Tl_end ?_
      refine At_then ?_
      exact Tc_ret1 (fun _ _ h => h) rfl rfl (by simp [smI, *])
    · skip
      have hfx0 : Fit 2 x0 := sh_fit hb6
      have hfx1 : Fit 2 x1 := sh_fit hb11
      refine Tl_q (JO_qg rfl rfl rfl rfl (Jq_load_agg rfl rfl rfl (by decide) ty27 (by decide) (Nat.le_of_ble_eq_true rfl) rfl)) rfl ?_
      refine Tl_e (JO_eg rfl rfl rfl rfl (Je_call rfl fn16 rfl (rivalid x0 (x0.q) rfl (hfx0.mono (by omega)) x1 (x1.q) rfl (hfx1.mono (by omega))))) rfl rfl ?_
      refine Tl_q (JO_q rfl rfl (Jq_pick_t rfl rfl rfl)) rfl ?_
      refine Tl_q (JO_q rfl rfl (Jq_assign rfl rfl)) rfl ?_
      refine Tl_end ?_
      refine At_then ?_
      exact Tc_ret1 (fun _ _ h => h) rfl rfl (by simp [smI, *])

set_option maxRecDepth 10000 in
theorem l6awake  : Ctr Tryz.prog 4 [] (R.one (V.one (Leaf.val (.bool (true))))) := by
  refine Ctr.of_body Tryz.func4 rfl Tryz.ntmps4 (Nat.le_of_ble_eq_true rfl) (fun w0 A0 => ?_)
  haveI : Br (((-6) : Int) : Rat) 1 := Br.int (by decide)
  haveI : Br (((-5) : Int) : Rat) 1 := Br.int (by decide)
  haveI : Br (((-4) : Int) : Rat) 1 := Br.int (by decide)
  haveI : Br (((-3) : Int) : Rat) 1 := Br.int (by decide)
  haveI : Br (((-2) : Int) : Rat) 1 := Br.int (by decide)
  haveI : Br (((-1) : Int) : Rat) 1 := Br.int (by decide)
  haveI : Br ((0 : Int) : Rat) 1 := Br.int (by decide)
  haveI : Br ((1 : Int) : Rat) 1 := Br.int (by decide)
  haveI : Br ((2 : Int) : Rat) 1 := Br.int (by decide)
  haveI : Br ((3 : Int) : Rat) 1 := Br.int (by decide)
  refine Tc_seq ?_
  refine Tc_region ?_
  refine Tl_q (JO_q rfl rfl (Jq_assign rfl rfl)) rfl ?_
  refine Tl_end ?_
  refine At_then ?_
  refine Tc_seq ?_
  refine Tc_region ?_
  refine Tl_e (JO_e rfl rfl (Je_call rfl fn11 rfl (l6of 0 1 (by decide) (by decide) (by decide) (by decide)))) rfl rfl ?_
  refine Tl_e (JO_e rfl rfl (Je_call rfl fn11 rfl (l6of 1 2 (by decide) (by decide) (by decide) (by decide)))) rfl rfl ?_
  refine Tl_e (JO_e rfl rfl (Je_call rfl fn10 rfl (imeet_ok (qOf (((0 : Int) : Rat))) (((0 : Int) : Rat)) (qOf_q _) (Br.use (by omega)) (qOf (((1 : Int) : Rat))) (((1 : Int) : Rat)) (qOf_q _) (Br.use (by omega)) (qOf (((1 : Int) : Rat))) (((1 : Int) : Rat)) (qOf_q _) (Br.use (by omega)) (qOf (((2 : Int) : Rat))) (((2 : Int) : Rat)) (qOf_q _) (Br.use (by omega)) (by decide +kernel)))) rfl rfl ?_
  refine Tl_q (JO_q rfl rfl (Jq_move rfl rfl)) rfl ?_
  refine Tl_q (JO_q rfl rfl (Jq_extract rfl rfl rfl)) rfl ?_
  refine Tl_q (JO_q rfl rfl (Jq_extract rfl rfl rfl)) rfl ?_
  refine Tl_e (JO_e rfl rfl (Je_alloc (n := 0) rfl tz27 rfl)) rfl rfl ?_
  refine Tl_e (JO_e rfl rfl (Je_store rfl rfl rfl rfl ty27 rfl (by decide) (Nat.le_of_ble_eq_true rfl) rfl)) rfl rfl ?_
  refine Tl_q (JO_q rfl rfl (Jq_assign rfl rfl)) rfl ?_
  refine Tl_end ?_
  refine At_then ?_
  refine Tc_seq ?_
  refine Tc_region ?_
  refine Tl_e (JO_e rfl rfl (Je_call rfl fn11 rfl (l6of 0 1 (by decide) (by decide) (by decide) (by decide)))) rfl rfl ?_
  refine Tl_e (JO_e rfl rfl (Je_call rfl fn11 rfl (l6of 2 3 (by decide) (by decide) (by decide) (by decide)))) rfl rfl ?_
  refine Tl_e (JO_e rfl rfl (Je_call rfl fn10 rfl (imeet_bad (qOf (((0 : Int) : Rat))) (((0 : Int) : Rat)) (qOf_q _) (Br.use (by omega)) (qOf (((1 : Int) : Rat))) (((1 : Int) : Rat)) (qOf_q _) (Br.use (by omega)) (qOf (((2 : Int) : Rat))) (((2 : Int) : Rat)) (qOf_q _) (Br.use (by omega)) (qOf (((3 : Int) : Rat))) (((3 : Int) : Rat)) (qOf_q _) (Br.use (by omega)) (by decide +kernel)))) rfl rfl ?_
  refine Tl_q (JO_q rfl rfl (Jq_move rfl rfl)) rfl ?_
  refine Tl_q (JO_q rfl rfl (Jq_extract rfl rfl rfl)) rfl ?_
  refine Tl_q (JO_q rfl rfl (Jq_extract rfl rfl rfl)) rfl ?_
  refine Tl_e (JO_e rfl rfl (Je_alloc (n := 1) rfl tz27 rfl)) rfl rfl ?_
  refine Tl_e (JO_e rfl rfl (Je_store rfl rfl rfl rfl ty27 rfl (by decide) (Nat.le_of_ble_eq_true rfl) rfl)) rfl rfl ?_
  refine Tl_q (JO_q rfl rfl (Jq_assign rfl rfl)) rfl ?_
  refine Tl_end ?_
  refine At_then ?_
  refine Tc_seq ?_
  refine Tc_drawK 0 [none, none, none, none, none, none, none, none, none, none, none, none, none, none, none, none, none, none, none, none, none, none, none, none, none, none, none, none, none, none, none, none, none, none, none, none] [] follows (by kernel_rfl) ?_
  refine DK_q (JO_q rfl rfl (Jq_move rfl rfl)) ?_
  refine DK_q (JO_q rfl rfl (Jq_eql rfl rfl rfl (b := true) (rfl))) ?_
  refine DK_q (JO_q rfl rfl (Jq_move rfl rfl)) ?_
  refine DK_q (JO_qg rfl rfl rfl rfl (Jq_move rfl rfl)) ?_
  refine DK_q (JO_qg rfl rfl rfl rfl (Jq_eql rfl rfl rfl (b := true) (rfl))) ?_
  refine DK_q (JO_q rfl rfl (Jq_pick_t rfl rfl rfl)) ?_
  refine DK_q (JO_q rfl rfl (Jq_move rfl rfl)) ?_
  refine DK_q (JO_qg rfl rfl rfl rfl (Jq_load_agg rfl rfl rfl (by decide) ty27 (by decide) (Nat.le_of_ble_eq_true rfl) rfl)) ?_
  refine DK_cg rfl rfl rfl rfl (Jd_call rfl fn11 rfl (l6of 1 1 (by decide) (by decide) (by decide) (by decide))) ?_
  refine DK_cg rfl rfl rfl rfl (Jd_call rfl fn8 rfl (risame (qOf (mx ((0 : Int) : Rat) ((1 : Int) : Rat))) (qOf (mn ((1 : Int) : Rat) ((2 : Int) : Rat))) (qOf (((1 : Int) : Rat))) (qOf (((1 : Int) : Rat))))) ?_
  refine DK_is true (sm (by decide +kernel) (by decide +kernel)) ?_
  refine DK_q (JO_q rfl rfl (Jq_pick_t rfl rfl rfl)) ?_
  refine DK_q (JO_q rfl rfl (Jq_move rfl rfl)) ?_
  refine DK_cg rfl rfl rfl rfl (Jd_call rfl fn11 rfl (l6of 1 2 (by decide) (by decide) (by decide) (by decide))) ?_
  refine DK_cg rfl rfl rfl rfl (Jd_call rfl fn11 rfl (l6of (-3) 1 (by decide) (by decide) (by decide) (by decide))) ?_
  refine DK_cg rfl rfl rfl rfl (Jd_call rfl fn12 rfl (imul (qOf (((1 : Int) : Rat))) (((1 : Int) : Rat)) (qOf_q _) (Br.use (by omega)) (qOf (((2 : Int) : Rat))) (((2 : Int) : Rat)) (qOf_q _) (Br.use (by omega)) (qOf ((((-3) : Int) : Rat))) ((((-3) : Int) : Rat)) (qOf_q _) (Br.use (by omega)) (qOf (((1 : Int) : Rat))) (((1 : Int) : Rat)) (qOf_q _) (Br.use (by omega)))) ?_
  refine DK_cg rfl rfl rfl rfl (Jd_call rfl fn11 rfl (l6of (-6) 2 (by decide) (by decide) (by decide) (by decide))) ?_
  refine DK_cg rfl rfl rfl rfl (Jd_call rfl fn8 rfl (risame (qOf (mn (mn (mn (((1 : Int) : Rat) * (((-3) : Int) : Rat)) (((1 : Int) : Rat) * ((1 : Int) : Rat))) (((2 : Int) : Rat) * (((-3) : Int) : Rat))) (((2 : Int) : Rat) * ((1 : Int) : Rat)))) (qOf (mx (mx (mx (((1 : Int) : Rat) * (((-3) : Int) : Rat)) (((1 : Int) : Rat) * ((1 : Int) : Rat))) (((2 : Int) : Rat) * (((-3) : Int) : Rat))) (((2 : Int) : Rat) * ((1 : Int) : Rat)))) (qOf ((((-6) : Int) : Rat))) (qOf (((2 : Int) : Rat))))) ?_
  refine DK_is true (sm (by decide +kernel) (by decide +kernel)) ?_
  refine DK_q (JO_q rfl rfl (Jq_pick_t rfl rfl rfl)) ?_
  refine DK_q (JO_q rfl rfl (Jq_move rfl rfl)) ?_
  refine DK_cg rfl rfl rfl rfl (Jd_call rfl fn11 rfl (l6of (-1) 2 (by decide) (by decide) (by decide) (by decide))) ?_
  refine DK_cg rfl rfl rfl rfl (Jd_call rfl fn13 rfl (irelu (qOf ((((-1) : Int) : Rat))) ((((-1) : Int) : Rat)) (qOf_q _) (Br.use (by omega)) (qOf (((2 : Int) : Rat))) (((2 : Int) : Rat)) (qOf_q _) (Br.use (by omega)))) ?_
  refine DK_cg rfl rfl rfl rfl (Jd_call rfl fn11 rfl (l6of 0 2 (by decide) (by decide) (by decide) (by decide))) ?_
  refine DK_cg rfl rfl rfl rfl (Jd_call rfl fn8 rfl (risame (qOf (mx 0 (((-1) : Int) : Rat))) (qOf (mx 0 ((2 : Int) : Rat))) (qOf (((0 : Int) : Rat))) (qOf (((2 : Int) : Rat))))) ?_
  refine DK_is true (sm (by decide +kernel) (by decide +kernel)) ?_
  refine DK_q (JO_q rfl rfl (Jq_pick_t rfl rfl rfl)) ?_
  refine DK_q (JO_q rfl rfl (Jq_move rfl rfl)) ?_
  refine DK_cg rfl rfl rfl rfl (Jd_call rfl fn11 rfl (l6of 0 1 (by decide) (by decide) (by decide) (by decide))) ?_
  refine DK_q (JO_qg rfl rfl rfl rfl (Jq_build rfl tz25 rfl pl25 rfl)) ?_
  refine DK_cg rfl rfl rfl rfl (Jd_call rfl fn14 rfl (icontains (qOf (((0 : Int) : Rat))) (((0 : Int) : Rat)) (qOf_q _) (Br.use (by omega)) (qOf (((1 : Int) : Rat))) (((1 : Int) : Rat)) (qOf_q _) (Br.use (by omega)) qZero (0) qZero_q qZero_fit)) ?_
  refine DK_is true (ct (by decide +kernel) (by decide +kernel)) ?_
  refine DK_q (JO_q rfl rfl (Jq_pick_t rfl rfl rfl)) ?_
  refine DK_q (JO_q rfl rfl (Jq_move rfl rfl)) ?_
  refine DK_cg rfl rfl rfl rfl (Jd_call rfl fn11 rfl (l6of 1 2 (by decide) (by decide) (by decide) (by decide))) ?_
  refine DK_q (JO_qg rfl rfl rfl rfl (Jq_build rfl tz25 rfl pl25 rfl)) ?_
  refine DK_cg rfl rfl rfl rfl (Jd_call rfl fn14 rfl (icontains (qOf (((1 : Int) : Rat))) (((1 : Int) : Rat)) (qOf_q _) (Br.use (by omega)) (qOf (((2 : Int) : Rat))) (((2 : Int) : Rat)) (qOf_q _) (Br.use (by omega)) qZero (0) qZero_q qZero_fit)) ?_
  refine DK_is false (ct_ne (by decide +kernel)) ?_
  refine DK_q (JO_qg rfl rfl rfl rfl (Jq_not rfl rfl (c := true) rfl)) ?_
  refine DK_q (JO_q rfl rfl (Jq_pick_t rfl rfl rfl)) ?_
  refine DK_q (JO_q rfl rfl (Jq_assign rfl rfl)) ?_
  refine DK_nil ?_
  refine At_then ?_
  exact Tc_ret1 (fun _ _ h => h) rfl rfl rfl

end Go.Proofs.YtpabkdpijcbkgaaGreatDoor
