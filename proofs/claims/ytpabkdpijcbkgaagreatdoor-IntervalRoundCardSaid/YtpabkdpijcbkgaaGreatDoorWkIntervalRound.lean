/- Walk: a law of chapter 6. -/
import Derived.Test.YtpabkdpijcbkgaaGreatDoorWkO
import Derived.Test.YtpabkdpijcbkgaaGreatDoorWkL
import Derived.Test.YtpabkdpijcbkgaaGreatDoorDyO
import Derived.Test.YtpabkdpijcbkgaaGreatDoorFacts
set_option linter.unusedSimpArgs false
set_option linter.unusedVariables false
namespace Go.Proofs.YtpabkdpijcbkgaaGreatDoor
open Go Go.RowKit Rc


set_option maxRecDepth 10000 in
theorem iround (x0 : Qr) (r0 : Rat) (hr0 : x0.q = r0) (hfx0 : Fit 100 x0) (x1 : Qr) (r1 : Rat) (hr1 : x1.q = r1) (hfx1 : Fit 100 x1) (p : Int) : Ctr Tryz.prog 6 [iV x0 x1, V.one (Leaf.val (.int .i64 p))] (R.tup [iV (qOf (dq (dnD r0 p))) (qOf (dq (upD r1 p))), V.one (Leaf.val (.int .i64 (rndE p)))]) := by
  refine Ctr.of_body Tryz.func6 rfl Tryz.ntmps6 (Nat.le_of_ble_eq_true rfl) (fun w0 A0 => ?_)
  haveI ir0 : Br r0 100 := Br.fitq hr0 hfx0
  haveI ir1 : Br r1 100 := Br.fitq hr1 hfx1
  refine Tc_seq ?_
  refine Tc_region ?_
  refine Tl_e (JO_e rfl rfl (Je_box (n := 0) rfl rfl rfl)) rfl rfl ?_
  refine Tl_e (JO_e rfl rfl (Je_alloc (n := 1) rfl tz27 rfl)) rfl rfl ?_
  refine Tl_q (JO_q rfl rfl (Jq_assign rfl rfl)) rfl ?_
  refine Tl_end ?_
  refine At_then ?_
  refine Tc_seq ?_
  refine Tc_region ?_
  refine Tl_q (JO_q rfl rfl (Jq_fieldAddr rfl rfl fo27_0 rfl)) rfl ?_
  refine Tl_q (JO_q rfl rfl (Jq_load_agg rfl rfl rfl (by decide) ty25 (by decide) (Nat.le_of_ble_eq_true rfl) rfl)) rfl ?_
  refine Tl_q (JO_q rfl rfl (Jq_move rfl rfl)) rfl ?_
  refine Tl_e (JO_e rfl rfl (Je_call rfl fn17 rfl (ddown x0 (r0) hr0 (hfx0.mono (by omega)) p))) rfl rfl ?_
  refine Tl_q (JO_q rfl rfl (Jq_move rfl rfl)) rfl ?_
  refine Tl_q (JO_q rfl rfl (Jq_extract rfl rfl rfl)) rfl ?_
  refine Tl_q (JO_q rfl rfl (Jq_extract rfl rfl rfl)) rfl ?_
  refine Tl_e (JO_e rfl rfl (Je_alloc (n := 2) rfl tz42 rfl)) rfl rfl ?_
  refine Tl_e (JO_e rfl rfl (Je_store rfl rfl rfl rfl ty42 rfl (by decide) (Nat.le_of_ble_eq_true rfl) rfl)) rfl rfl ?_
  refine Tl_q (JO_q rfl rfl (Jq_assign rfl rfl)) rfl ?_
  refine Tl_end ?_
  refine At_then ?_
  refine Tc_seq ?_
  refine Tc_seq ?_
  by_cases hp : p < 1 ∨ 4096 < p
  · skip
    refine Tc_region ?_
    refine Tl_q (JO_q rfl rfl (Jq_move rfl rfl)) rfl ?_
    refine Tl_q (JO_q rfl rfl (Jq_neq rfl rfl rfl (b := _) (rfl))) rfl ?_
    refine Tl_is true (by unfold rndE; rw [if_pos hp]; rfl) ?_
    refine Tl_end ?_
    refine At_then ?_
    refine Tc_t rfl ?_
    refine Tc_seq ?_
    refine Tc_region ?_
    refine Tl_q (JO_q rfl rfl (Jq_build rfl tz27 rfl pl27 rfl)) rfl ?_
    refine Tl_q (JO_q rfl rfl (Jq_move rfl rfl)) rfl ?_
    refine Tl_e (JO_e rfl rfl (Je_store rfl rfl rfl rfl ty27 rfl (by decide) (Nat.le_of_ble_eq_true rfl) rfl)) rfl rfl ?_
    refine Tl_q (JO_q rfl rfl (Jq_assign rfl rfl)) rfl ?_
    refine Tl_end ?_
    refine At_then ?_
    exact Tc_ret2 (fun _ _ h => h) rfl (⟨_, _, rfl, rfl, .inl ⟨ty27, Nat.le_of_ble_eq_true rfl, rfl⟩⟩) rfl (by rw [dq_bad hp, dq_bad hp, ← iV_zero]; rfl)
  · skip
    refine Tc_region ?_
    refine Tl_q (JO_q rfl rfl (Jq_move rfl rfl)) rfl ?_
    refine Tl_q (JO_q rfl rfl (Jq_neq rfl rfl rfl (b := _) (rfl))) rfl ?_
    refine Tl_is false (by unfold rndE; rw [if_neg hp]; rfl) ?_
    refine Tl_end ?_
    refine At_then ?_
    refine Tc_f rfl ?_
    refine Tc_skipA ?_
    refine At_then ?_
    refine Tc_seq ?_
    refine Tc_region ?_
    refine Tl_q (JO_q rfl rfl (Jq_fieldAddr rfl rfl fo27_1 rfl)) rfl ?_
    refine Tl_q (JO_q rfl rfl (Jq_load_agg rfl rfl rfl (by decide) ty25 (by decide) (Nat.le_of_ble_eq_true rfl) rfl)) rfl ?_
    refine Tl_q (JO_q rfl rfl (Jq_move rfl rfl)) rfl ?_
    refine Tl_e (JO_e rfl rfl (Je_call rfl fn18 rfl (dup x1 (r1) hr1 (hfx1.mono (by omega)) p))) rfl rfl ?_
    refine Tl_q (JO_q rfl rfl (Jq_move rfl rfl)) rfl ?_
    refine Tl_q (JO_q rfl rfl (Jq_extract rfl rfl rfl)) rfl ?_
    refine Tl_q (JO_q rfl rfl (Jq_extract rfl rfl rfl)) rfl ?_
    refine Tl_e (JO_e rfl rfl (Je_alloc (n := 3) rfl tz42 rfl)) rfl rfl ?_
    refine Tl_e (JO_e rfl rfl (Je_store rfl rfl rfl rfl ty42 rfl (by decide) (Nat.le_of_ble_eq_true rfl) rfl)) rfl rfl ?_
    refine Tl_q (JO_q rfl rfl (Jq_assign rfl rfl)) rfl ?_
    refine Tl_end ?_
    refine At_then ?_
    refine Tc_seq ?_
    refine Tc_seq ?_
    refine Tc_region ?_
    refine Tl_q (JO_q rfl rfl (Jq_move rfl rfl)) rfl ?_
    refine Tl_q (JO_q rfl rfl (Jq_neq rfl rfl rfl (b := _) (rfl))) rfl ?_
    refine Tl_is false (by unfold rndE; rw [if_neg hp]; rfl) ?_
    refine Tl_end ?_
    refine At_then ?_
    refine Tc_f rfl ?_
    refine Tc_skipA ?_
    refine At_then ?_
    refine Tc_seq ?_
    refine Tc_drawK 0 [none, none, none, none, none, some 1, none] [1] follows (by kernel_rfl) ?_
    refine DK_q (JO_q rfl rfl (Jq_load_agg rfl rfl rfl (by decide) ty42 (by decide) (Nat.le_of_ble_eq_true rfl) rfl)) ?_
    refine DK_c rfl rfl (Jd_call rfl fn19 rfl (drat (rndD r0 p (decide (sg r0 < 0))) (Bd.use (by omega)))) ?_
    refine DK_q (JO_q rfl rfl (Jq_load_agg rfl rfl rfl (by decide) ty42 (by decide) (Nat.le_of_ble_eq_true rfl) rfl)) ?_
    refine DK_c rfl rfl (Jd_call rfl fn19 rfl (drat (rndD r1 p (decide (0 < sg r1))) (Bd.use (by omega)))) ?_
    refine DK_q (JO_q rfl rfl (Jq_build rfl tz27 rfl pl27 rfl)) ?_
    refine DK_s 1 rfl rfl rfl (Jd_store rfl rfl rfl rfl ty27 rfl (by decide) (Nat.le_of_ble_eq_true rfl) rfl) ?_
    refine DK_q (JO_q rfl rfl (Jq_assign rfl rfl)) ?_
    refine DK_nil ?_
    refine At_then ?_
    exact Tc_ret2 (fun _ _ h => h) rfl (⟨_, _, rfl, rfl, .inl ⟨ty27, Nat.le_of_ble_eq_true rfl, rfl⟩⟩) rfl (by rw [rndE_of (by omega) (by omega)]; rfl)

set_option maxRecDepth 10000 in
theorem riround (x0 : Qr) (r0 : Rat) (hr0 : x0.q = r0) (hfx0 : Fit 100 x0) (x1 : Qr) (r1 : Rat) (hr1 : x1.q = r1) (hfx1 : Fit 100 x1) (p : Int) : Ctr Tryz.prog 7 [iV x0 x1, V.one (Leaf.val (.int .i64 p))] (R.tup [iV (qOf (dq (dnD r0 p))) (qOf (dq (upD r1 p))), V.one (Leaf.val (.int .i64 (rndE p)))]) := by
  refine Ctr.of_body Tryz.func7 rfl Tryz.ntmps7 (Nat.le_of_ble_eq_true rfl) (fun w0 A0 => ?_)
  haveI ir0 : Br r0 100 := Br.fitq hr0 hfx0
  haveI ir1 : Br r1 100 := Br.fitq hr1 hfx1
  refine Tc_seq ?_
  refine Tc_region ?_
  refine Tl_e (JO_e rfl rfl (Je_box (n := 0) rfl rfl rfl)) rfl rfl ?_
  refine Tl_e (JO_e rfl rfl (Je_alloc (n := 1) rfl tz27 rfl)) rfl rfl ?_
  refine Tl_q (JO_q rfl rfl (Jq_assign rfl rfl)) rfl ?_
  refine Tl_end ?_
  refine At_then ?_
  refine Tc_seq ?_
  refine Tc_region ?_
  refine Tl_q (JO_q rfl rfl (Jq_fieldAddr rfl rfl fo27_0 rfl)) rfl ?_
  refine Tl_q (JO_q rfl rfl (Jq_load_agg rfl rfl rfl (by decide) ty25 (by decide) (Nat.le_of_ble_eq_true rfl) rfl)) rfl ?_
  refine Tl_q (JO_q rfl rfl (Jq_move rfl rfl)) rfl ?_
  refine Tl_e (JO_e rfl rfl (Je_call rfl fn20 rfl (rddown x0 (r0) hr0 (hfx0.mono (by omega)) p))) rfl rfl ?_
  refine Tl_q (JO_q rfl rfl (Jq_move rfl rfl)) rfl ?_
  refine Tl_q (JO_q rfl rfl (Jq_extract rfl rfl rfl)) rfl ?_
  refine Tl_q (JO_q rfl rfl (Jq_extract rfl rfl rfl)) rfl ?_
  refine Tl_e (JO_e rfl rfl (Je_alloc (n := 2) rfl tz42 rfl)) rfl rfl ?_
  refine Tl_e (JO_e rfl rfl (Je_store rfl rfl rfl rfl ty42 rfl (by decide) (Nat.le_of_ble_eq_true rfl) rfl)) rfl rfl ?_
  refine Tl_q (JO_q rfl rfl (Jq_assign rfl rfl)) rfl ?_
  refine Tl_end ?_
  refine At_then ?_
  refine Tc_seq ?_
  refine Tc_seq ?_
  by_cases hp : p < 1 ∨ 4096 < p
  · skip
    refine Tc_region ?_
    refine Tl_q (JO_q rfl rfl (Jq_move rfl rfl)) rfl ?_
    refine Tl_q (JO_q rfl rfl (Jq_neq rfl rfl rfl (b := _) (rfl))) rfl ?_
    refine Tl_is true (by unfold rndE; rw [if_pos hp]; rfl) ?_
    refine Tl_end ?_
    refine At_then ?_
    refine Tc_t rfl ?_
    refine Tc_seq ?_
    refine Tc_region ?_
    refine Tl_q (JO_q rfl rfl (Jq_build rfl tz27 rfl pl27 rfl)) rfl ?_
    refine Tl_q (JO_q rfl rfl (Jq_move rfl rfl)) rfl ?_
    refine Tl_e (JO_e rfl rfl (Je_store rfl rfl rfl rfl ty27 rfl (by decide) (Nat.le_of_ble_eq_true rfl) rfl)) rfl rfl ?_
    refine Tl_q (JO_q rfl rfl (Jq_assign rfl rfl)) rfl ?_
    refine Tl_end ?_
    refine At_then ?_
    exact Tc_ret2 (fun _ _ h => h) rfl (⟨_, _, rfl, rfl, .inl ⟨ty27, Nat.le_of_ble_eq_true rfl, rfl⟩⟩) rfl (by rw [dq_bad hp, dq_bad hp, ← iV_zero]; rfl)
  · skip
    refine Tc_region ?_
    refine Tl_q (JO_q rfl rfl (Jq_move rfl rfl)) rfl ?_
    refine Tl_q (JO_q rfl rfl (Jq_neq rfl rfl rfl (b := _) (rfl))) rfl ?_
    refine Tl_is false (by unfold rndE; rw [if_neg hp]; rfl) ?_
    refine Tl_end ?_
    refine At_then ?_
    refine Tc_f rfl ?_
    refine Tc_skipA ?_
    refine At_then ?_
    refine Tc_seq ?_
    refine Tc_region ?_
    refine Tl_q (JO_q rfl rfl (Jq_fieldAddr rfl rfl fo27_1 rfl)) rfl ?_
    refine Tl_q (JO_q rfl rfl (Jq_load_agg rfl rfl rfl (by decide) ty25 (by decide) (Nat.le_of_ble_eq_true rfl) rfl)) rfl ?_
    refine Tl_q (JO_q rfl rfl (Jq_move rfl rfl)) rfl ?_
    refine Tl_e (JO_e rfl rfl (Je_call rfl fn21 rfl (rdup x1 (r1) hr1 (hfx1.mono (by omega)) p))) rfl rfl ?_
    refine Tl_q (JO_q rfl rfl (Jq_move rfl rfl)) rfl ?_
    refine Tl_q (JO_q rfl rfl (Jq_extract rfl rfl rfl)) rfl ?_
    refine Tl_q (JO_q rfl rfl (Jq_extract rfl rfl rfl)) rfl ?_
    refine Tl_e (JO_e rfl rfl (Je_alloc (n := 3) rfl tz42 rfl)) rfl rfl ?_
    refine Tl_e (JO_e rfl rfl (Je_store rfl rfl rfl rfl ty42 rfl (by decide) (Nat.le_of_ble_eq_true rfl) rfl)) rfl rfl ?_
    refine Tl_q (JO_q rfl rfl (Jq_assign rfl rfl)) rfl ?_
    refine Tl_end ?_
    refine At_then ?_
    refine Tc_seq ?_
    refine Tc_seq ?_
    refine Tc_region ?_
    refine Tl_q (JO_q rfl rfl (Jq_move rfl rfl)) rfl ?_
    refine Tl_q (JO_q rfl rfl (Jq_neq rfl rfl rfl (b := _) (rfl))) rfl ?_
    refine Tl_is false (by unfold rndE; rw [if_neg hp]; rfl) ?_
    refine Tl_end ?_
    refine At_then ?_
    refine Tc_f rfl ?_
    refine Tc_skipA ?_
    refine At_then ?_
    refine Tc_seq ?_
    refine Tc_drawK 0 [none, none, none, none, none, some 1, none] [1] follows (by kernel_rfl) ?_
    refine DK_q (JO_q rfl rfl (Jq_load_agg rfl rfl rfl (by decide) ty42 (by decide) (Nat.le_of_ble_eq_true rfl) rfl)) ?_
    refine DK_c rfl rfl (Jd_call rfl fn22 rfl (rdrat (rndD r0 p (decide (sg r0 < 0))) (Bd.use (by omega)))) ?_
    refine DK_q (JO_q rfl rfl (Jq_load_agg rfl rfl rfl (by decide) ty42 (by decide) (Nat.le_of_ble_eq_true rfl) rfl)) ?_
    refine DK_c rfl rfl (Jd_call rfl fn22 rfl (rdrat (rndD r1 p (decide (0 < sg r1))) (Bd.use (by omega)))) ?_
    refine DK_q (JO_q rfl rfl (Jq_build rfl tz27 rfl pl27 rfl)) ?_
    refine DK_s 1 rfl rfl rfl (Jd_store rfl rfl rfl rfl ty27 rfl (by decide) (Nat.le_of_ble_eq_true rfl) rfl) ?_
    refine DK_q (JO_q rfl rfl (Jq_assign rfl rfl)) ?_
    refine DK_nil ?_
    refine At_then ?_
    exact Tc_ret2 (fun _ _ h => h) rfl (⟨_, _, rfl, rfl, .inl ⟨ty27, Nat.le_of_ble_eq_true rfl, rfl⟩⟩) rfl (by rw [rndE_of (by omega) (by omega)]; rfl)

set_option maxRecDepth 10000 in
set_option maxHeartbeats 2000000 in
theorem law_iround (x0 x1 : Qr) (p : Int) (hp1 : -9223372036854775808 ≤ p) (hp2 : p ≤ 9223372036854775807) : Ctr Tryz.prog 3 [iV x0 x1, V.one (Leaf.val (.int .i64 p))] (R.one (V.one (Leaf.val (.bool (true))))) := by
  refine Ctr.of_body Tryz.func3 rfl Tryz.ntmps3 (Nat.le_of_ble_eq_true rfl) (fun w0 A0 => ?_)
  refine Tc_seq ?_
  refine Tc_region ?_
  refine Tl_e (JO_e rfl rfl (Je_box (n := 0) rfl rfl rfl)) rfl rfl ?_
  refine Tl_q (JO_q rfl rfl (Jq_assign rfl rfl)) rfl ?_
  refine Tl_end ?_
  refine At_then ?_
  refine Tc_seq ?_
  refine Tc_seq ?_
  refine Tc_region ?_
  refine Tl_e (JO_e rfl rfl (Je_call rfl fn4 rfl (l6awake))) rfl rfl ?_
  refine Tl_q (JO_q rfl rfl (Jq_not rfl rfl (c := false) rfl)) rfl ?_
  refine Tl_end ?_
  refine At_then ?_
  refine Tc_f rfl ?_
  refine Tc_skipA ?_
  refine At_then ?_
  refine Tc_seq ?_
  refine Tc_seq ?_
  refine Tc_region ?_
  refine Tl_q (JO_q rfl rfl (Jq_load_agg rfl rfl rfl (by decide) ty27 (by decide) (Nat.le_of_ble_eq_true rfl) rfl)) rfl ?_
  refine Tl_e (JO_e rfl rfl (Je_call rfl fn5 rfl (l6small x0 x1))) rfl rfl ?_
  refine Tl_q (JO_q rfl rfl (Jq_not rfl rfl (c := _) rfl)) rfl ?_
  refine Tl_q (JO_q rfl rfl (Jq_move rfl rfl)) rfl ?_
  refine Tl_two (fun hb14 => ?_) (fun hb14 => ?_)
  · skip
    refine Tl_q (JO_qg rfl rfl rfl rfl (Jq_move rfl rfl)) rfl ?_
    refine Tl_q (JO_qg rfl rfl rfl rfl (Jq_gtr rfl rfl rfl (b := _) (rfl))) rfl ?_
    refine Tl_q (JO_qg rfl rfl rfl rfl (Jq_move rfl rfl)) rfl ?_
    refine Tl_two (fun hb17 => ?_) (fun hb17 => ?_)
    · skip
      refine Tl_q (JO_skip rfl rfl rfl) rfl ?_
      refine Tl_q (JO_skip rfl rfl rfl) rfl ?_
      refine Tl_q (JO_qg rfl rfl rfl rfl (Jq_pick_f rfl rfl rfl)) rfl ?_
      refine Tl_q (JO_q rfl rfl (Jq_pick_f rfl rfl rfl)) rfl ?_
      refine Tl_end ?_
      refine At_then ?_
      refine Tc_f rfl ?_
      refine Tc_skipA ?_
      refine At_then ?_
      refine Tc_seq ?_
      obtain ⟨hfx0, hfx1, hlx⟩ := smI_facts hb14
      haveI ibx0 : Br x0.q 2 := Br.q hfx0
      haveI ibx1 : Br x1.q 2 := Br.q hfx1
      haveI jb0 : Br x0.q 100 := ibx0.mono (by decide)
      haveI jb1 : Br x1.q 100 := ibx1.mono (by decide)
      refine Tc_norm [(1, some (D.val (.int .i64 p))), (2, some (D.ptr 0 0))] [some ⟨27, [Leaf.val (.bool x0.neg), natL x0.n, natL x0.d, Leaf.val (.bool x1.neg), natL x1.n, natL x1.d], none, none⟩] ⟨rfl, rfl, trivial⟩ rfl ?_
      refine Tc_region ?_
      refine Tl_q (JO_q rfl rfl (Jq_load_agg rfl rfl rfl (by decide) ty27 (by decide) (Nat.le_of_ble_eq_true rfl) rfl)) rfl ?_
      refine Tl_q (JO_q rfl rfl (Jq_move rfl rfl)) rfl ?_
      refine Tl_e (JO_e rfl rfl (Je_call rfl fn6 rfl (iround x0 (x0.q) rfl (hfx0.mono (by omega)) x1 (x1.q) rfl (hfx1.mono (by omega)) p))) rfl rfl ?_
      refine Tl_q (JO_q rfl rfl (Jq_move rfl rfl)) rfl ?_
      refine Tl_q (JO_q rfl rfl (Jq_extract rfl rfl rfl)) rfl ?_
      refine Tl_q (JO_q rfl rfl (Jq_extract rfl rfl rfl)) rfl ?_
      refine Tl_e (JO_e rfl rfl (Je_alloc (n := 1) rfl tz27 rfl)) rfl rfl ?_
      refine Tl_e (JO_e rfl rfl (Je_store rfl rfl rfl rfl ty27 rfl (by decide) (Nat.le_of_ble_eq_true rfl) rfl)) rfl rfl ?_
      refine Tl_q (JO_q rfl rfl (Jq_assign rfl rfl)) rfl ?_
      refine Tl_end ?_
      refine At_then ?_
      refine Tc_seq ?_
      refine Tc_norm [(1, some (D.val (.int .i64 p))), (2, some (D.ptr 0 0)), (5, some (D.ptr 1 0)), (6, some (D.val (.int .i64 (rndE p))))] [some ⟨27, [Leaf.val (.bool x0.neg), natL x0.n, natL x0.d, Leaf.val (.bool x1.neg), natL x1.n, natL x1.d], none, none⟩, some ⟨27, [Leaf.val (.bool (cneg (dq (dnD x0.q p)))), natL (limbs (cnum (dq (dnD x0.q p)))), natL (limbs (cden (dq (dnD x0.q p)))), Leaf.val (.bool (cneg (dq (upD x1.q p)))), natL (limbs (cnum (dq (upD x1.q p)))), natL (limbs (cden (dq (upD x1.q p))))], none, none⟩] ⟨rfl, rfl, rfl, rfl, trivial⟩ rfl ?_
      refine Tc_region ?_
      refine Tl_q (JO_q rfl rfl (Jq_load_agg rfl rfl rfl (by decide) ty27 (by decide) (Nat.le_of_ble_eq_true rfl) rfl)) rfl ?_
      refine Tl_q (JO_q rfl rfl (Jq_move rfl rfl)) rfl ?_
      refine Tl_e (JO_e rfl rfl (Je_call rfl fn7 rfl (riround x0 (x0.q) rfl (hfx0.mono (by omega)) x1 (x1.q) rfl (hfx1.mono (by omega)) p))) rfl rfl ?_
      refine Tl_q (JO_q rfl rfl (Jq_move rfl rfl)) rfl ?_
      refine Tl_q (JO_q rfl rfl (Jq_extract rfl rfl rfl)) rfl ?_
      refine Tl_q (JO_q rfl rfl (Jq_extract rfl rfl rfl)) rfl ?_
      refine Tl_e (JO_e rfl rfl (Je_alloc (n := 2) rfl tz27 rfl)) rfl rfl ?_
      refine Tl_e (JO_e rfl rfl (Je_store rfl rfl rfl rfl ty27 rfl (by decide) (Nat.le_of_ble_eq_true rfl) rfl)) rfl rfl ?_
      refine Tl_q (JO_q rfl rfl (Jq_assign rfl rfl)) rfl ?_
      refine Tl_end ?_
      refine At_then ?_
      refine Tc_seq ?_
      by_cases hp : p < 1 ∨ 4096 < p
      · skip
        refine Tc_norm [(2, some (D.ptr 0 0)), (5, some (D.ptr 1 0)), (6, some (D.val (.int .i64 (rndE p)))), (7, some (D.ptr 2 0)), (8, some (D.val (.int .i64 (rndE p))))] [some ⟨27, [Leaf.val (.bool x0.neg), natL x0.n, natL x0.d, Leaf.val (.bool x1.neg), natL x1.n, natL x1.d], none, none⟩, some ⟨27, [Leaf.val (.bool (cneg (dq (dnD x0.q p)))), natL (limbs (cnum (dq (dnD x0.q p)))), natL (limbs (cden (dq (dnD x0.q p)))), Leaf.val (.bool (cneg (dq (upD x1.q p)))), natL (limbs (cnum (dq (upD x1.q p)))), natL (limbs (cden (dq (upD x1.q p))))], none, none⟩, some ⟨27, [Leaf.val (.bool (cneg (dq (dnD x0.q p)))), natL (limbs (cnum (dq (dnD x0.q p)))), natL (limbs (cden (dq (dnD x0.q p)))), Leaf.val (.bool (cneg (dq (upD x1.q p)))), natL (limbs (cnum (dq (upD x1.q p)))), natL (limbs (cden (dq (upD x1.q p))))], none, none⟩] ⟨rfl, rfl, rfl, rfl, rfl, trivial⟩ rfl ?_
        refine Tc_region ?_
        refine Tl_q (JO_q rfl rfl (Jq_move rfl rfl)) rfl ?_
        refine Tl_q (JO_q rfl rfl (Jq_move rfl rfl)) rfl ?_
        refine Tl_q (JO_q rfl rfl (Jq_eql rfl rfl rfl (b := _) (rfl))) rfl ?_
        refine Tl_is true (by simp) ?_
        refine Tl_q (JO_q rfl rfl (Jq_move rfl rfl)) rfl ?_
        refine Tl_q (JO_qg rfl rfl rfl rfl (Jq_load_agg rfl rfl rfl (by decide) ty27 (by decide) (Nat.le_of_ble_eq_true rfl) rfl)) rfl ?_
        refine Tl_q (JO_qg rfl rfl rfl rfl (Jq_load_agg rfl rfl rfl (by decide) ty27 (by decide) (Nat.le_of_ble_eq_true rfl) rfl)) rfl ?_
        refine Tl_e (JO_eg rfl rfl rfl rfl (Je_call rfl fn8 rfl (risame (qOf (dq (dnD x0.q p))) (qOf (dq (upD x1.q p))) (qOf (dq (dnD x0.q p))) (qOf (dq (upD x1.q p)))))) rfl rfl ?_
        refine Tl_is true (sm rfl rfl) ?_
        refine Tl_q (JO_q rfl rfl (Jq_pick_t rfl rfl rfl)) rfl ?_
        refine Tl_q (JO_q rfl rfl (Jq_move rfl rfl)) rfl ?_
        refine Tl_q (JO_qg rfl rfl rfl rfl (Jq_move rfl rfl)) rfl ?_
        refine Tl_q (JO_qg rfl rfl rfl rfl (Jq_neq rfl rfl rfl (b := _) (rfl))) rfl ?_
        refine Tl_is true (by unfold rndE; rw [if_pos hp]; rfl) ?_
        refine Tl_q (JO_qg rfl rfl rfl rfl (Jq_move rfl rfl)) rfl ?_
        refine Tl_q (JO_skip rfl rfl rfl) rfl ?_
        refine Tl_q (JO_skip rfl rfl rfl) rfl ?_
        refine Tl_q (JO_skip rfl rfl rfl) rfl ?_
        refine Tl_q (JO_qg rfl rfl rfl rfl (Jq_pick_t rfl rfl rfl)) rfl ?_
        refine Tl_q (JO_q rfl rfl (Jq_pick_t rfl rfl rfl)) rfl ?_
        refine Tl_q (JO_q rfl rfl (Jq_assign rfl rfl)) rfl ?_
        refine Tl_end ?_
        refine At_then ?_
        exact Tc_ret1 (fun _ _ h => h) rfl rfl rfl
      · skip
        refine Tc_norm [(2, some (D.ptr 0 0)), (5, some (D.ptr 1 0)), (6, some (D.val (.int .i64 (rndE p)))), (7, some (D.ptr 2 0)), (8, some (D.val (.int .i64 (rndE p))))] [some ⟨27, [Leaf.val (.bool x0.neg), natL x0.n, natL x0.d, Leaf.val (.bool x1.neg), natL x1.n, natL x1.d], none, none⟩, some ⟨27, [Leaf.val (.bool (cneg (dq (dnD x0.q p)))), natL (limbs (cnum (dq (dnD x0.q p)))), natL (limbs (cden (dq (dnD x0.q p)))), Leaf.val (.bool (cneg (dq (upD x1.q p)))), natL (limbs (cnum (dq (upD x1.q p)))), natL (limbs (cden (dq (upD x1.q p))))], none, none⟩, some ⟨27, [Leaf.val (.bool (cneg (dq (dnD x0.q p)))), natL (limbs (cnum (dq (dnD x0.q p)))), natL (limbs (cden (dq (dnD x0.q p)))), Leaf.val (.bool (cneg (dq (upD x1.q p)))), natL (limbs (cnum (dq (upD x1.q p)))), natL (limbs (cden (dq (upD x1.q p))))], none, none⟩] ⟨rfl, rfl, rfl, rfl, rfl, trivial⟩ rfl ?_
        refine Tc_region ?_
        refine Tl_q (JO_q rfl rfl (Jq_move rfl rfl)) rfl ?_
        refine Tl_q (JO_q rfl rfl (Jq_move rfl rfl)) rfl ?_
        refine Tl_q (JO_q rfl rfl (Jq_eql rfl rfl rfl (b := _) (rfl))) rfl ?_
        refine Tl_is true (by simp) ?_
        refine Tl_q (JO_q rfl rfl (Jq_move rfl rfl)) rfl ?_
        refine Tl_q (JO_qg rfl rfl rfl rfl (Jq_load_agg rfl rfl rfl (by decide) ty27 (by decide) (Nat.le_of_ble_eq_true rfl) rfl)) rfl ?_
        refine Tl_q (JO_qg rfl rfl rfl rfl (Jq_load_agg rfl rfl rfl (by decide) ty27 (by decide) (Nat.le_of_ble_eq_true rfl) rfl)) rfl ?_
        refine Tl_e (JO_eg rfl rfl rfl rfl (Je_call rfl fn8 rfl (risame (qOf (dq (dnD x0.q p))) (qOf (dq (upD x1.q p))) (qOf (dq (dnD x0.q p))) (qOf (dq (upD x1.q p)))))) rfl rfl ?_
        refine Tl_is true (sm rfl rfl) ?_
        refine Tl_q (JO_q rfl rfl (Jq_pick_t rfl rfl rfl)) rfl ?_
        refine Tl_q (JO_q rfl rfl (Jq_move rfl rfl)) rfl ?_
        refine Tl_q (JO_qg rfl rfl rfl rfl (Jq_move rfl rfl)) rfl ?_
        refine Tl_q (JO_qg rfl rfl rfl rfl (Jq_neq rfl rfl rfl (b := _) (rfl))) rfl ?_
        refine Tl_is false (by unfold rndE; rw [if_neg hp]; rfl) ?_
        refine Tl_q (JO_qg rfl rfl rfl rfl (Jq_move rfl rfl)) rfl ?_
        refine Tl_q (JO_qg rfl rfl rfl rfl (Jq_load_agg rfl rfl rfl (by decide) ty27 (by decide) (Nat.le_of_ble_eq_true rfl) rfl)) rfl ?_
        refine Tl_q (JO_qg rfl rfl rfl rfl (Jq_load_agg rfl rfl rfl (by decide) ty27 (by decide) (Nat.le_of_ble_eq_true rfl) rfl)) rfl ?_
        refine Tl_e (JO_eg rfl rfl rfl rfl (Je_call rfl fn9 rfl (iwithin x0 (x0.q) rfl (hfx0.mono (by omega)) x1 (x1.q) rfl (hfx1.mono (by omega)) (qOf (dq (dnD x0.q p))) (dq (dnD x0.q p)) (qOf_q _) (Br.use (by omega)) (qOf (dq (upD x1.q p))) (dq (upD x1.q p)) (qOf_q _) (Br.use (by omega))))) rfl rfl ?_
        refine Tl_is true (wt (dn_le (ibx0.mono (by decide)) hp) (le_up (ibx1.mono (by decide)) hp)) ?_
        refine Tl_q (JO_qg rfl rfl rfl rfl (Jq_pick_f rfl rfl rfl)) rfl ?_
        refine Tl_q (JO_q rfl rfl (Jq_pick_t rfl rfl rfl)) rfl ?_
        refine Tl_q (JO_q rfl rfl (Jq_assign rfl rfl)) rfl ?_
        refine Tl_end ?_
        refine At_then ?_
        exact Tc_ret1 (fun _ _ h => h) rfl rfl rfl
    · skip
      refine Tl_q (JO_qg rfl rfl rfl rfl (Jq_move rfl rfl)) rfl ?_
      refine Tl_q (JO_qg rfl rfl rfl rfl (Jq_leq rfl rfl rfl (b := _) (rfl))) rfl ?_
      refine Tl_q (JO_qg rfl rfl rfl rfl (Jq_pick_t rfl rfl rfl)) rfl ?_
      refine Tl_q (JO_q rfl rfl (Jq_pick_f rfl rfl rfl)) rfl ?_
      refine Tl_end ?_
      refine At_then ?_
      refine Tc_cond rfl (fun hc21 => ?_) (fun hc21 => ?_)
      · skip
        refine Tc_seq ?_
        refine Tc_region ?_
        refine Tl_q (JO_q rfl rfl (Jq_assign rfl rfl)) rfl ?_
        refine Tl_end ?_
        refine At_then ?_
        exact Tc_ret1 (fun _ _ h => h) rfl rfl rfl
      · skip
        refine Tc_skipA ?_
        refine At_then ?_
        refine Tc_seq ?_
        obtain ⟨hfx0, hfx1, hlx⟩ := smI_facts hb14
        haveI ibx0 : Br x0.q 2 := Br.q hfx0
        haveI ibx1 : Br x1.q 2 := Br.q hfx1
        haveI jb0 : Br x0.q 100 := ibx0.mono (by decide)
        haveI jb1 : Br x1.q 100 := ibx1.mono (by decide)
        refine Tc_norm [(1, some (D.val (.int .i64 p))), (2, some (D.ptr 0 0))] [some ⟨27, [Leaf.val (.bool x0.neg), natL x0.n, natL x0.d, Leaf.val (.bool x1.neg), natL x1.n, natL x1.d], none, none⟩] ⟨rfl, rfl, trivial⟩ rfl ?_
        refine Tc_region ?_
        refine Tl_q (JO_q rfl rfl (Jq_load_agg rfl rfl rfl (by decide) ty27 (by decide) (Nat.le_of_ble_eq_true rfl) rfl)) rfl ?_
        refine Tl_q (JO_q rfl rfl (Jq_move rfl rfl)) rfl ?_
        refine Tl_e (JO_e rfl rfl (Je_call rfl fn6 rfl (iround x0 (x0.q) rfl (hfx0.mono (by omega)) x1 (x1.q) rfl (hfx1.mono (by omega)) p))) rfl rfl ?_
        refine Tl_q (JO_q rfl rfl (Jq_move rfl rfl)) rfl ?_
        refine Tl_q (JO_q rfl rfl (Jq_extract rfl rfl rfl)) rfl ?_
        refine Tl_q (JO_q rfl rfl (Jq_extract rfl rfl rfl)) rfl ?_
        refine Tl_e (JO_e rfl rfl (Je_alloc (n := 1) rfl tz27 rfl)) rfl rfl ?_
        refine Tl_e (JO_e rfl rfl (Je_store rfl rfl rfl rfl ty27 rfl (by decide) (Nat.le_of_ble_eq_true rfl) rfl)) rfl rfl ?_
        refine Tl_q (JO_q rfl rfl (Jq_assign rfl rfl)) rfl ?_
        refine Tl_end ?_
        refine At_then ?_
        refine Tc_seq ?_
        refine Tc_norm [(1, some (D.val (.int .i64 p))), (2, some (D.ptr 0 0)), (5, some (D.ptr 1 0)), (6, some (D.val (.int .i64 (rndE p))))] [some ⟨27, [Leaf.val (.bool x0.neg), natL x0.n, natL x0.d, Leaf.val (.bool x1.neg), natL x1.n, natL x1.d], none, none⟩, some ⟨27, [Leaf.val (.bool (cneg (dq (dnD x0.q p)))), natL (limbs (cnum (dq (dnD x0.q p)))), natL (limbs (cden (dq (dnD x0.q p)))), Leaf.val (.bool (cneg (dq (upD x1.q p)))), natL (limbs (cnum (dq (upD x1.q p)))), natL (limbs (cden (dq (upD x1.q p))))], none, none⟩] ⟨rfl, rfl, rfl, rfl, trivial⟩ rfl ?_
        refine Tc_region ?_
        refine Tl_q (JO_q rfl rfl (Jq_load_agg rfl rfl rfl (by decide) ty27 (by decide) (Nat.le_of_ble_eq_true rfl) rfl)) rfl ?_
        refine Tl_q (JO_q rfl rfl (Jq_move rfl rfl)) rfl ?_
        refine Tl_e (JO_e rfl rfl (Je_call rfl fn7 rfl (riround x0 (x0.q) rfl (hfx0.mono (by omega)) x1 (x1.q) rfl (hfx1.mono (by omega)) p))) rfl rfl ?_
        refine Tl_q (JO_q rfl rfl (Jq_move rfl rfl)) rfl ?_
        refine Tl_q (JO_q rfl rfl (Jq_extract rfl rfl rfl)) rfl ?_
        refine Tl_q (JO_q rfl rfl (Jq_extract rfl rfl rfl)) rfl ?_
        refine Tl_e (JO_e rfl rfl (Je_alloc (n := 2) rfl tz27 rfl)) rfl rfl ?_
        refine Tl_e (JO_e rfl rfl (Je_store rfl rfl rfl rfl ty27 rfl (by decide) (Nat.le_of_ble_eq_true rfl) rfl)) rfl rfl ?_
        refine Tl_q (JO_q rfl rfl (Jq_assign rfl rfl)) rfl ?_
        refine Tl_end ?_
        refine At_then ?_
        refine Tc_seq ?_
        by_cases hp : p < 1 ∨ 4096 < p
        · skip
          refine Tc_norm [(2, some (D.ptr 0 0)), (5, some (D.ptr 1 0)), (6, some (D.val (.int .i64 (rndE p)))), (7, some (D.ptr 2 0)), (8, some (D.val (.int .i64 (rndE p))))] [some ⟨27, [Leaf.val (.bool x0.neg), natL x0.n, natL x0.d, Leaf.val (.bool x1.neg), natL x1.n, natL x1.d], none, none⟩, some ⟨27, [Leaf.val (.bool (cneg (dq (dnD x0.q p)))), natL (limbs (cnum (dq (dnD x0.q p)))), natL (limbs (cden (dq (dnD x0.q p)))), Leaf.val (.bool (cneg (dq (upD x1.q p)))), natL (limbs (cnum (dq (upD x1.q p)))), natL (limbs (cden (dq (upD x1.q p))))], none, none⟩, some ⟨27, [Leaf.val (.bool (cneg (dq (dnD x0.q p)))), natL (limbs (cnum (dq (dnD x0.q p)))), natL (limbs (cden (dq (dnD x0.q p)))), Leaf.val (.bool (cneg (dq (upD x1.q p)))), natL (limbs (cnum (dq (upD x1.q p)))), natL (limbs (cden (dq (upD x1.q p))))], none, none⟩] ⟨rfl, rfl, rfl, rfl, rfl, trivial⟩ rfl ?_
          refine Tc_region ?_
          refine Tl_q (JO_q rfl rfl (Jq_move rfl rfl)) rfl ?_
          refine Tl_q (JO_q rfl rfl (Jq_move rfl rfl)) rfl ?_
          refine Tl_q (JO_q rfl rfl (Jq_eql rfl rfl rfl (b := _) (rfl))) rfl ?_
          refine Tl_is true (by simp) ?_
          refine Tl_q (JO_q rfl rfl (Jq_move rfl rfl)) rfl ?_
          refine Tl_q (JO_qg rfl rfl rfl rfl (Jq_load_agg rfl rfl rfl (by decide) ty27 (by decide) (Nat.le_of_ble_eq_true rfl) rfl)) rfl ?_
          refine Tl_q (JO_qg rfl rfl rfl rfl (Jq_load_agg rfl rfl rfl (by decide) ty27 (by decide) (Nat.le_of_ble_eq_true rfl) rfl)) rfl ?_
          refine Tl_e (JO_eg rfl rfl rfl rfl (Je_call rfl fn8 rfl (risame (qOf (dq (dnD x0.q p))) (qOf (dq (upD x1.q p))) (qOf (dq (dnD x0.q p))) (qOf (dq (upD x1.q p)))))) rfl rfl ?_
          refine Tl_is true (sm rfl rfl) ?_
          refine Tl_q (JO_q rfl rfl (Jq_pick_t rfl rfl rfl)) rfl ?_
          refine Tl_q (JO_q rfl rfl (Jq_move rfl rfl)) rfl ?_
          refine Tl_q (JO_qg rfl rfl rfl rfl (Jq_move rfl rfl)) rfl ?_
          refine Tl_q (JO_qg rfl rfl rfl rfl (Jq_neq rfl rfl rfl (b := _) (rfl))) rfl ?_
          refine Tl_is true (by unfold rndE; rw [if_pos hp]; rfl) ?_
          refine Tl_q (JO_qg rfl rfl rfl rfl (Jq_move rfl rfl)) rfl ?_
          refine Tl_q (JO_skip rfl rfl rfl) rfl ?_
          refine Tl_q (JO_skip rfl rfl rfl) rfl ?_
          refine Tl_q (JO_skip rfl rfl rfl) rfl ?_
          refine Tl_q (JO_qg rfl rfl rfl rfl (Jq_pick_t rfl rfl rfl)) rfl ?_
          refine Tl_q (JO_q rfl rfl (Jq_pick_t rfl rfl rfl)) rfl ?_
          refine Tl_q (JO_q rfl rfl (Jq_assign rfl rfl)) rfl ?_
          refine Tl_end ?_
          refine At_then ?_
          exact Tc_ret1 (fun _ _ h => h) rfl rfl rfl
        · skip
          refine Tc_norm [(2, some (D.ptr 0 0)), (5, some (D.ptr 1 0)), (6, some (D.val (.int .i64 (rndE p)))), (7, some (D.ptr 2 0)), (8, some (D.val (.int .i64 (rndE p))))] [some ⟨27, [Leaf.val (.bool x0.neg), natL x0.n, natL x0.d, Leaf.val (.bool x1.neg), natL x1.n, natL x1.d], none, none⟩, some ⟨27, [Leaf.val (.bool (cneg (dq (dnD x0.q p)))), natL (limbs (cnum (dq (dnD x0.q p)))), natL (limbs (cden (dq (dnD x0.q p)))), Leaf.val (.bool (cneg (dq (upD x1.q p)))), natL (limbs (cnum (dq (upD x1.q p)))), natL (limbs (cden (dq (upD x1.q p))))], none, none⟩, some ⟨27, [Leaf.val (.bool (cneg (dq (dnD x0.q p)))), natL (limbs (cnum (dq (dnD x0.q p)))), natL (limbs (cden (dq (dnD x0.q p)))), Leaf.val (.bool (cneg (dq (upD x1.q p)))), natL (limbs (cnum (dq (upD x1.q p)))), natL (limbs (cden (dq (upD x1.q p))))], none, none⟩] ⟨rfl, rfl, rfl, rfl, rfl, trivial⟩ rfl ?_
          refine Tc_region ?_
          refine Tl_q (JO_q rfl rfl (Jq_move rfl rfl)) rfl ?_
          refine Tl_q (JO_q rfl rfl (Jq_move rfl rfl)) rfl ?_
          refine Tl_q (JO_q rfl rfl (Jq_eql rfl rfl rfl (b := _) (rfl))) rfl ?_
          refine Tl_is true (by simp) ?_
          refine Tl_q (JO_q rfl rfl (Jq_move rfl rfl)) rfl ?_
          refine Tl_q (JO_qg rfl rfl rfl rfl (Jq_load_agg rfl rfl rfl (by decide) ty27 (by decide) (Nat.le_of_ble_eq_true rfl) rfl)) rfl ?_
          refine Tl_q (JO_qg rfl rfl rfl rfl (Jq_load_agg rfl rfl rfl (by decide) ty27 (by decide) (Nat.le_of_ble_eq_true rfl) rfl)) rfl ?_
          refine Tl_e (JO_eg rfl rfl rfl rfl (Je_call rfl fn8 rfl (risame (qOf (dq (dnD x0.q p))) (qOf (dq (upD x1.q p))) (qOf (dq (dnD x0.q p))) (qOf (dq (upD x1.q p)))))) rfl rfl ?_
          refine Tl_is true (sm rfl rfl) ?_
          refine Tl_q (JO_q rfl rfl (Jq_pick_t rfl rfl rfl)) rfl ?_
          refine Tl_q (JO_q rfl rfl (Jq_move rfl rfl)) rfl ?_
          refine Tl_q (JO_qg rfl rfl rfl rfl (Jq_move rfl rfl)) rfl ?_
          refine Tl_q (JO_qg rfl rfl rfl rfl (Jq_neq rfl rfl rfl (b := _) (rfl))) rfl ?_
          refine Tl_is false (by unfold rndE; rw [if_neg hp]; rfl) ?_
          refine Tl_q (JO_qg rfl rfl rfl rfl (Jq_move rfl rfl)) rfl ?_
          refine Tl_q (JO_qg rfl rfl rfl rfl (Jq_load_agg rfl rfl rfl (by decide) ty27 (by decide) (Nat.le_of_ble_eq_true rfl) rfl)) rfl ?_
          refine Tl_q (JO_qg rfl rfl rfl rfl (Jq_load_agg rfl rfl rfl (by decide) ty27 (by decide) (Nat.le_of_ble_eq_true rfl) rfl)) rfl ?_
          refine Tl_e (JO_eg rfl rfl rfl rfl (Je_call rfl fn9 rfl (iwithin x0 (x0.q) rfl (hfx0.mono (by omega)) x1 (x1.q) rfl (hfx1.mono (by omega)) (qOf (dq (dnD x0.q p))) (dq (dnD x0.q p)) (qOf_q _) (Br.use (by omega)) (qOf (dq (upD x1.q p))) (dq (upD x1.q p)) (qOf_q _) (Br.use (by omega))))) rfl rfl ?_
          refine Tl_is true (wt (dn_le (ibx0.mono (by decide)) hp) (le_up (ibx1.mono (by decide)) hp)) ?_
          refine Tl_q (JO_qg rfl rfl rfl rfl (Jq_pick_f rfl rfl rfl)) rfl ?_
          refine Tl_q (JO_q rfl rfl (Jq_pick_t rfl rfl rfl)) rfl ?_
          refine Tl_q (JO_q rfl rfl (Jq_assign rfl rfl)) rfl ?_
          refine Tl_end ?_
          refine At_then ?_
          exact Tc_ret1 (fun _ _ h => h) rfl rfl rfl
  · skip
    refine Tl_q (JO_skip rfl rfl rfl) rfl ?_
    refine Tl_q (JO_skip rfl rfl rfl) rfl ?_
    refine Tl_q (JO_skip rfl rfl rfl) rfl ?_
    refine Tl_q (JO_skipU rfl rfl rfl) rfl ?_
    refine Tl_q (JO_skipU rfl rfl rfl) rfl ?_
    refine Tl_q (JO_skip rfl rfl rfl) rfl ?_
    refine Tl_q (JO_q rfl rfl (Jq_pick_t rfl rfl rfl)) rfl ?_
    refine Tl_end ?_
    refine At_then ?_
    refine Tc_t rfl ?_
    refine Tc_seq ?_
    refine Tc_region ?_
    refine Tl_q (JO_q rfl rfl (Jq_assign rfl rfl)) rfl ?_
    refine Tl_end ?_
    refine At_then ?_
    exact Tc_ret1 (fun _ _ h => h) rfl rfl rfl

end Go.Proofs.YtpabkdpijcbkgaaGreatDoor
