/- Walks: intervals and their reference. -/
import Derived.Test.YtpabkdpijcbkgaaGreatDoorWkJ
set_option linter.unusedSimpArgs false
set_option linter.unusedVariables false
namespace Go.Proofs.YtpabkdpijcbkgaaGreatDoor
open Go Go.RowKit Rc


set_option maxRecDepth 10000 in
theorem iof (x : Qr) (r : Rat) (hr : x.q = r) (hfx : Fit 100000000000 x) (y : Qr) (s : Rat) (hs : y.q = s) (hfy : Fit 100000000000 y) : Ctr Tryz.prog 30 [qV x, qV y] (R.one (iV (qOf (r)) (qOf (s)))) := by
  refine Ctr.of_body Tryz.func30 rfl Tryz.ntmps30 (Nat.le_of_ble_eq_true rfl) (fun w0 A0 => ?_)
  haveI ir : Br r 100000000000 := Br.fitq hr hfx
  haveI is : Br s 100000000000 := Br.fitq hs hfy
  refine Tc_seq ?_
  refine Tc_region ?_
  refine Tl_e (JO_e rfl rfl (Je_box (n := 0) rfl rfl rfl)) rfl rfl ?_
  refine Tl_e (JO_e rfl rfl (Je_box (n := 1) rfl rfl rfl)) rfl rfl ?_
  refine Tl_e (JO_e rfl rfl (Je_alloc (n := 2) rfl tz27 rfl)) rfl rfl ?_
  refine Tl_end ?_
  refine At_then ?_
  refine Tc_seq ?_
  refine Tc_drawK 0 [none, none, none, none, none, some 2] [2] follows (by kernel_rfl) ?_
  refine DK_q (JO_q rfl rfl (Jq_load_agg rfl rfl rfl (by decide) ty25 (by decide) (Nat.le_of_ble_eq_true rfl) rfl)) ?_
  refine DK_c rfl rfl (Jd_call rfl fn36 rfl (qcanon x (r) hr (hfx.mono (by omega)))) ?_
  refine DK_q (JO_q rfl rfl (Jq_load_agg rfl rfl rfl (by decide) ty25 (by decide) (Nat.le_of_ble_eq_true rfl) rfl)) ?_
  refine DK_c rfl rfl (Jd_call rfl fn36 rfl (qcanon y (s) hs (hfy.mono (by omega)))) ?_
  refine DK_q (JO_q rfl rfl (Jq_build rfl tz27 rfl pl27 rfl)) ?_
  refine DK_s 2 rfl rfl rfl (Jd_store rfl rfl rfl rfl ty27 rfl (by decide) (Nat.le_of_ble_eq_true rfl) rfl) ?_
  refine DK_nil ?_
  refine At_then ?_
  exact Tc_ret1 (fun _ _ h => h) rfl (⟨_, _, rfl, rfl, .inl ⟨ty27, Nat.le_of_ble_eq_true rfl, rfl⟩⟩) rfl

set_option maxRecDepth 10000 in
theorem imake_ok (x : Qr) (r : Rat) (hr : x.q = r) (hfx : Fit 100000000000 x) (y : Qr) (s : Rat) (hs : y.q = s) (hfy : Fit 100000000000 y) (h : r ≤ s) : Ctr Tryz.prog 25 [qV x, qV y] (R.tup [iV (qOf r) (qOf s), V.one (Leaf.val (.int .i64 0))]) := by
  refine Ctr.of_body Tryz.func25 rfl Tryz.ntmps25 (Nat.le_of_ble_eq_true rfl) (fun w0 A0 => ?_)
  haveI ir : Br r 100000000000 := Br.fitq hr hfx
  haveI is : Br s 100000000000 := Br.fitq hs hfy
  refine Tc_seq ?_
  refine Tc_region ?_
  refine Tl_e (JO_e rfl rfl (Je_box (n := 0) rfl rfl rfl)) rfl rfl ?_
  refine Tl_e (JO_e rfl rfl (Je_box (n := 1) rfl rfl rfl)) rfl rfl ?_
  refine Tl_e (JO_e rfl rfl (Je_alloc (n := 2) rfl tz27 rfl)) rfl rfl ?_
  refine Tl_q (JO_q rfl rfl (Jq_assign rfl rfl)) rfl ?_
  refine Tl_end ?_
  refine At_then ?_
  refine Tc_seq ?_
  refine Tc_seq ?_
  refine Tc_region ?_
  refine Tl_q (JO_q rfl rfl (Jq_load_agg rfl rfl rfl (by decide) ty25 (by decide) (Nat.le_of_ble_eq_true rfl) rfl)) rfl ?_
  refine Tl_q (JO_q rfl rfl (Jq_load_agg rfl rfl rfl (by decide) ty25 (by decide) (Nat.le_of_ble_eq_true rfl) rfl)) rfl ?_
  refine Tl_e (JO_e rfl rfl (Je_call rfl fn24 rfl (qcmp x (r) hr (hfx.mono (by omega)) y (s) hs (hfy.mono (by omega))))) rfl rfl ?_
  refine Tl_q (JO_q rfl rfl (Jq_gtr rfl rfl rfl (b := false) (dF (by intro e; exact absurd h (Rat.not_le.2 (cmpq_gt.1 e)))))) rfl ?_
  refine Tl_end ?_
  refine At_then ?_
  refine Tc_f rfl ?_
  refine Tc_skipA ?_
  refine At_then ?_
  refine Tc_seq ?_
  refine Tc_region ?_
  refine Tl_q (JO_q rfl rfl (Jq_load_agg rfl rfl rfl (by decide) ty25 (by decide) (Nat.le_of_ble_eq_true rfl) rfl)) rfl ?_
  refine Tl_q (JO_q rfl rfl (Jq_load_agg rfl rfl rfl (by decide) ty25 (by decide) (Nat.le_of_ble_eq_true rfl) rfl)) rfl ?_
  refine Tl_e (JO_e rfl rfl (Je_call rfl fn30 rfl (iof x (r) hr (hfx.mono (by omega)) y (s) hs (hfy.mono (by omega))))) rfl rfl ?_
  refine Tl_e (JO_e rfl rfl (Je_store rfl rfl rfl rfl ty27 rfl (by decide) (Nat.le_of_ble_eq_true rfl) rfl)) rfl rfl ?_
  refine Tl_q (JO_q rfl rfl (Jq_assign rfl rfl)) rfl ?_
  refine Tl_end ?_
  refine At_then ?_
  exact Tc_ret2 (fun _ _ h => h) rfl (⟨_, _, rfl, rfl, .inl ⟨ty27, Nat.le_of_ble_eq_true rfl, rfl⟩⟩) rfl rfl

set_option maxRecDepth 10000 in
theorem imake_bad (x : Qr) (r : Rat) (hr : x.q = r) (hfx : Fit 100000000000 x) (y : Qr) (s : Rat) (hs : y.q = s) (hfy : Fit 100000000000 y) (h : s < r) : Ctr Tryz.prog 25 [qV x, qV y] (R.tup [iV qZero qZero, V.one (Leaf.val (.int .i64 2))]) := by
  refine Ctr.of_body Tryz.func25 rfl Tryz.ntmps25 (Nat.le_of_ble_eq_true rfl) (fun w0 A0 => ?_)
  haveI ir : Br r 100000000000 := Br.fitq hr hfx
  haveI is : Br s 100000000000 := Br.fitq hs hfy
  refine Tc_seq ?_
  refine Tc_region ?_
  refine Tl_e (JO_e rfl rfl (Je_box (n := 0) rfl rfl rfl)) rfl rfl ?_
  refine Tl_e (JO_e rfl rfl (Je_box (n := 1) rfl rfl rfl)) rfl rfl ?_
  refine Tl_e (JO_e rfl rfl (Je_alloc (n := 2) rfl tz27 rfl)) rfl rfl ?_
  refine Tl_q (JO_q rfl rfl (Jq_assign rfl rfl)) rfl ?_
  refine Tl_end ?_
  refine At_then ?_
  refine Tc_seq ?_
  refine Tc_seq ?_
  refine Tc_region ?_
  refine Tl_q (JO_q rfl rfl (Jq_load_agg rfl rfl rfl (by decide) ty25 (by decide) (Nat.le_of_ble_eq_true rfl) rfl)) rfl ?_
  refine Tl_q (JO_q rfl rfl (Jq_load_agg rfl rfl rfl (by decide) ty25 (by decide) (Nat.le_of_ble_eq_true rfl) rfl)) rfl ?_
  refine Tl_e (JO_e rfl rfl (Je_call rfl fn24 rfl (qcmp x (r) hr (hfx.mono (by omega)) y (s) hs (hfy.mono (by omega))))) rfl rfl ?_
  refine Tl_q (JO_q rfl rfl (Jq_gtr rfl rfl rfl (b := true) (dT (cmpq_gt.2 h)))) rfl ?_
  refine Tl_end ?_
  refine At_then ?_
  refine Tc_t rfl ?_
  refine Tc_seq ?_
  refine Tc_region ?_
  refine Tl_q (JO_q rfl rfl (Jq_build rfl tz27 rfl pl27 rfl)) rfl ?_
  refine Tl_e (JO_e rfl rfl (Je_store rfl rfl rfl rfl ty27 rfl (by decide) (Nat.le_of_ble_eq_true rfl) rfl)) rfl rfl ?_
  refine Tl_q (JO_q rfl rfl (Jq_assign rfl rfl)) rfl ?_
  refine Tl_end ?_
  refine At_then ?_
  exact Tc_ret2 (fun _ _ h => h) rfl (⟨_, _, rfl, rfl, .inl ⟨ty27, Nat.le_of_ble_eq_true rfl, rfl⟩⟩) rfl rfl

set_option maxRecDepth 10000 in
theorem icontains (x0 : Qr) (r0 : Rat) (hr0 : x0.q = r0) (hfx0 : Fit 100000000000 x0) (x1 : Qr) (r1 : Rat) (hr1 : x1.q = r1) (hfx1 : Fit 100000000000 x1) (y : Qr) (s : Rat) (hs : y.q = s) (hfy : Fit 100000000000 y) : Ctr Tryz.prog 14 [iV x0 x1, qV y] (R.one (V.one (Leaf.val (.bool (decide (cmpq r0 s ≤ 0) && decide (cmpq s r1 ≤ 0)))))) := by
  refine Ctr.of_body Tryz.func14 rfl Tryz.ntmps14 (Nat.le_of_ble_eq_true rfl) (fun w0 A0 => ?_)
  haveI ir0 : Br r0 100000000000 := Br.fitq hr0 hfx0
  haveI ir1 : Br r1 100000000000 := Br.fitq hr1 hfx1
  haveI is : Br s 100000000000 := Br.fitq hs hfy
  refine Tc_seq ?_
  refine Tc_region ?_
  refine Tl_e (JO_e rfl rfl (Je_box (n := 0) rfl rfl rfl)) rfl rfl ?_
  refine Tl_e (JO_e rfl rfl (Je_box (n := 1) rfl rfl rfl)) rfl rfl ?_
  refine Tl_q (JO_q rfl rfl (Jq_assign rfl rfl)) rfl ?_
  refine Tl_end ?_
  refine At_then ?_
  refine Tc_seq ?_
  refine Tc_region ?_
  refine Tl_q (JO_q rfl rfl (Jq_fieldAddr rfl rfl fo27_0 rfl)) rfl ?_
  refine Tl_q (JO_q rfl rfl (Jq_load_agg rfl rfl rfl (by decide) ty25 (by decide) (Nat.le_of_ble_eq_true rfl) rfl)) rfl ?_
  refine Tl_q (JO_q rfl rfl (Jq_load_agg rfl rfl rfl (by decide) ty25 (by decide) (Nat.le_of_ble_eq_true rfl) rfl)) rfl ?_
  refine Tl_e (JO_e rfl rfl (Je_call rfl fn24 rfl (qcmp x0 (r0) hr0 (hfx0.mono (by omega)) y (s) hs (hfy.mono (by omega))))) rfl rfl ?_
  refine Tl_q (JO_q rfl rfl (Jq_leq rfl rfl rfl (b := _) (rfl))) rfl ?_
  refine Tl_q (JO_q rfl rfl (Jq_move rfl rfl)) rfl ?_
  refine Tl_two (fun hb10 => ?_) (fun hb10 => ?_)
  · skip
    refine Tl_q (JO_skip rfl rfl rfl) rfl ?_
    refine Tl_q (JO_skip rfl rfl rfl) rfl ?_
    refine Tl_q (JO_skip rfl rfl rfl) rfl ?_
    refine Tl_q (JO_skip rfl rfl rfl) rfl ?_
    refine Tl_q (JO_skip rfl rfl rfl) rfl ?_
    refine Tl_q (JO_q rfl rfl (Jq_pick_f rfl rfl rfl)) rfl ?_
    refine Tl_q (JO_q rfl rfl (Jq_assign rfl rfl)) rfl ?_
    refine Tl_end ?_
    refine At_then ?_
    exact Tc_ret1 (fun _ _ h => h) rfl rfl (by simp [*])
  · skip
    refine Tl_q (JO_qg rfl rfl rfl rfl (Jq_load_agg rfl rfl rfl (by decide) ty25 (by decide) (Nat.le_of_ble_eq_true rfl) rfl)) rfl ?_
    refine Tl_q (JO_qg rfl rfl rfl rfl (Jq_fieldAddr rfl rfl fo27_1 rfl)) rfl ?_
    refine Tl_q (JO_qg rfl rfl rfl rfl (Jq_load_agg rfl rfl rfl (by decide) ty25 (by decide) (Nat.le_of_ble_eq_true rfl) rfl)) rfl ?_
    refine Tl_e (JO_eg rfl rfl rfl rfl (Je_call rfl fn24 rfl (qcmp y (s) hs (hfy.mono (by omega)) x1 (r1) hr1 (hfx1.mono (by omega))))) rfl rfl ?_
    refine Tl_q (JO_qg rfl rfl rfl rfl (Jq_leq rfl rfl rfl (b := _) (rfl))) rfl ?_
    refine Tl_q (JO_q rfl rfl (Jq_pick_t rfl rfl rfl)) rfl ?_
    refine Tl_q (JO_q rfl rfl (Jq_assign rfl rfl)) rfl ?_
    refine Tl_end ?_
    refine At_then ?_
    exact Tc_ret1 (fun _ _ h => h) rfl rfl (by simp [*])

set_option maxRecDepth 10000 in
theorem iwithin (x0 : Qr) (r0 : Rat) (hr0 : x0.q = r0) (hfx0 : Fit 100000000000 x0) (x1 : Qr) (r1 : Rat) (hr1 : x1.q = r1) (hfx1 : Fit 100000000000 x1) (y0 : Qr) (s0 : Rat) (hs0 : y0.q = s0) (hfy0 : Fit 100000000000 y0) (y1 : Qr) (s1 : Rat) (hs1 : y1.q = s1) (hfy1 : Fit 100000000000 y1) : Ctr Tryz.prog 9 [iV x0 x1, iV y0 y1] (R.one (V.one (Leaf.val (.bool (decide (cmpq s0 r0 ≤ 0) && decide (cmpq r1 s1 ≤ 0)))))) := by
  refine Ctr.of_body Tryz.func9 rfl Tryz.ntmps9 (Nat.le_of_ble_eq_true rfl) (fun w0 A0 => ?_)
  haveI ir0 : Br r0 100000000000 := Br.fitq hr0 hfx0
  haveI ir1 : Br r1 100000000000 := Br.fitq hr1 hfx1
  haveI is0 : Br s0 100000000000 := Br.fitq hs0 hfy0
  haveI is1 : Br s1 100000000000 := Br.fitq hs1 hfy1
  refine Tc_seq ?_
  refine Tc_region ?_
  refine Tl_e (JO_e rfl rfl (Je_box (n := 0) rfl rfl rfl)) rfl rfl ?_
  refine Tl_e (JO_e rfl rfl (Je_box (n := 1) rfl rfl rfl)) rfl rfl ?_
  refine Tl_q (JO_q rfl rfl (Jq_assign rfl rfl)) rfl ?_
  refine Tl_end ?_
  refine At_then ?_
  refine Tc_seq ?_
  refine Tc_region ?_
  refine Tl_q (JO_q rfl rfl (Jq_fieldAddr rfl rfl fo27_0 rfl)) rfl ?_
  refine Tl_q (JO_q rfl rfl (Jq_load_agg rfl rfl rfl (by decide) ty25 (by decide) (Nat.le_of_ble_eq_true rfl) rfl)) rfl ?_
  refine Tl_q (JO_q rfl rfl (Jq_fieldAddr rfl rfl fo27_0 rfl)) rfl ?_
  refine Tl_q (JO_q rfl rfl (Jq_load_agg rfl rfl rfl (by decide) ty25 (by decide) (Nat.le_of_ble_eq_true rfl) rfl)) rfl ?_
  refine Tl_e (JO_e rfl rfl (Je_call rfl fn24 rfl (qcmp y0 (s0) hs0 (hfy0.mono (by omega)) x0 (r0) hr0 (hfx0.mono (by omega))))) rfl rfl ?_
  refine Tl_q (JO_q rfl rfl (Jq_leq rfl rfl rfl (b := _) (rfl))) rfl ?_
  refine Tl_q (JO_q rfl rfl (Jq_move rfl rfl)) rfl ?_
  refine Tl_two (fun hb11 => ?_) (fun hb11 => ?_)
  · skip
    refine Tl_q (JO_skip rfl rfl rfl) rfl ?_
    refine Tl_q (JO_skip rfl rfl rfl) rfl ?_
    refine Tl_q (JO_skip rfl rfl rfl) rfl ?_
    refine Tl_q (JO_skip rfl rfl rfl) rfl ?_
    refine Tl_q (JO_skip rfl rfl rfl) rfl ?_
    refine Tl_q (JO_skip rfl rfl rfl) rfl ?_
    refine Tl_q (JO_q rfl rfl (Jq_pick_f rfl rfl rfl)) rfl ?_
    refine Tl_q (JO_q rfl rfl (Jq_assign rfl rfl)) rfl ?_
    refine Tl_end ?_
    refine At_then ?_
    exact Tc_ret1 (fun _ _ h => h) rfl rfl (by simp [*])
  · skip
    refine Tl_q (JO_qg rfl rfl rfl rfl (Jq_fieldAddr rfl rfl fo27_1 rfl)) rfl ?_
    refine Tl_q (JO_qg rfl rfl rfl rfl (Jq_load_agg rfl rfl rfl (by decide) ty25 (by decide) (Nat.le_of_ble_eq_true rfl) rfl)) rfl ?_
    refine Tl_q (JO_qg rfl rfl rfl rfl (Jq_fieldAddr rfl rfl fo27_1 rfl)) rfl ?_
    refine Tl_q (JO_qg rfl rfl rfl rfl (Jq_load_agg rfl rfl rfl (by decide) ty25 (by decide) (Nat.le_of_ble_eq_true rfl) rfl)) rfl ?_
    refine Tl_e (JO_eg rfl rfl rfl rfl (Je_call rfl fn24 rfl (qcmp x1 (r1) hr1 (hfx1.mono (by omega)) y1 (s1) hs1 (hfy1.mono (by omega))))) rfl rfl ?_
    refine Tl_q (JO_qg rfl rfl rfl rfl (Jq_leq rfl rfl rfl (b := _) (rfl))) rfl ?_
    refine Tl_q (JO_q rfl rfl (Jq_pick_t rfl rfl rfl)) rfl ?_
    refine Tl_q (JO_q rfl rfl (Jq_assign rfl rfl)) rfl ?_
    refine Tl_end ?_
    refine At_then ?_
    exact Tc_ret1 (fun _ _ h => h) rfl rfl (by simp [*])

set_option maxRecDepth 10000 in
theorem ijoin (x0 : Qr) (r0 : Rat) (hr0 : x0.q = r0) (hfx0 : Fit 100000000000 x0) (x1 : Qr) (r1 : Rat) (hr1 : x1.q = r1) (hfx1 : Fit 100000000000 x1) (y0 : Qr) (s0 : Rat) (hs0 : y0.q = s0) (hfy0 : Fit 100000000000 y0) (y1 : Qr) (s1 : Rat) (hs1 : y1.q = s1) (hfy1 : Fit 100000000000 y1) : Ctr Tryz.prog 31 [iV x0 x1, iV y0 y1] (R.one (iV (qOf (mn r0 s0)) (qOf (mx r1 s1)))) := by
  refine Ctr.of_body Tryz.func31 rfl Tryz.ntmps31 (Nat.le_of_ble_eq_true rfl) (fun w0 A0 => ?_)
  haveI ir0 : Br r0 100000000000 := Br.fitq hr0 hfx0
  haveI ir1 : Br r1 100000000000 := Br.fitq hr1 hfx1
  haveI is0 : Br s0 100000000000 := Br.fitq hs0 hfy0
  haveI is1 : Br s1 100000000000 := Br.fitq hs1 hfy1
  refine Tc_seq ?_
  refine Tc_region ?_
  refine Tl_e (JO_e rfl rfl (Je_box (n := 0) rfl rfl rfl)) rfl rfl ?_
  refine Tl_e (JO_e rfl rfl (Je_box (n := 1) rfl rfl rfl)) rfl rfl ?_
  refine Tl_e (JO_e rfl rfl (Je_alloc (n := 2) rfl tz27 rfl)) rfl rfl ?_
  refine Tl_end ?_
  refine At_then ?_
  refine Tc_seq ?_
  refine Tc_drawK 0 [none, none, none, none, none, none, none, none, none, none, none, some 2] [2] follows (by kernel_rfl) ?_
  refine DK_q (JO_q rfl rfl (Jq_fieldAddr rfl rfl fo27_0 rfl)) ?_
  refine DK_q (JO_q rfl rfl (Jq_load_agg rfl rfl rfl (by decide) ty25 (by decide) (Nat.le_of_ble_eq_true rfl) rfl)) ?_
  refine DK_q (JO_q rfl rfl (Jq_fieldAddr rfl rfl fo27_0 rfl)) ?_
  refine DK_q (JO_q rfl rfl (Jq_load_agg rfl rfl rfl (by decide) ty25 (by decide) (Nat.le_of_ble_eq_true rfl) rfl)) ?_
  refine DK_c rfl rfl (Jd_call rfl fn27 rfl (qmin x0 (r0) hr0 (hfx0.mono (by omega)) y0 (s0) hs0 (hfy0.mono (by omega)))) ?_
  refine DK_q (JO_q rfl rfl (Jq_fieldAddr rfl rfl fo27_1 rfl)) ?_
  refine DK_q (JO_q rfl rfl (Jq_load_agg rfl rfl rfl (by decide) ty25 (by decide) (Nat.le_of_ble_eq_true rfl) rfl)) ?_
  refine DK_q (JO_q rfl rfl (Jq_fieldAddr rfl rfl fo27_1 rfl)) ?_
  refine DK_q (JO_q rfl rfl (Jq_load_agg rfl rfl rfl (by decide) ty25 (by decide) (Nat.le_of_ble_eq_true rfl) rfl)) ?_
  refine DK_c rfl rfl (Jd_call rfl fn26 rfl (qmax x1 (r1) hr1 (hfx1.mono (by omega)) y1 (s1) hs1 (hfy1.mono (by omega)))) ?_
  refine DK_q (JO_q rfl rfl (Jq_build rfl tz27 rfl pl27 rfl)) ?_
  refine DK_s 2 rfl rfl rfl (Jd_store rfl rfl rfl rfl ty27 rfl (by decide) (Nat.le_of_ble_eq_true rfl) rfl) ?_
  refine DK_nil ?_
  refine At_then ?_
  exact Tc_ret1 (fun _ _ h => h) rfl (⟨_, _, rfl, rfl, .inl ⟨ty27, Nat.le_of_ble_eq_true rfl, rfl⟩⟩) rfl

set_option maxRecDepth 10000 in
theorem imul (x0 : Qr) (r0 : Rat) (hr0 : x0.q = r0) (hfx0 : Fit 10000000000 x0) (x1 : Qr) (r1 : Rat) (hr1 : x1.q = r1) (hfx1 : Fit 10000000000 x1) (y0 : Qr) (s0 : Rat) (hs0 : y0.q = s0) (hfy0 : Fit 10000000000 y0) (y1 : Qr) (s1 : Rat) (hs1 : y1.q = s1) (hfy1 : Fit 10000000000 y1) : Ctr Tryz.prog 12 [iV x0 x1, iV y0 y1] (R.one (iV (qOf (mn (mn (mn (r0 * s0) (r0 * s1)) (r1 * s0)) (r1 * s1))) (qOf (mx (mx (mx (r0 * s0) (r0 * s1)) (r1 * s0)) (r1 * s1))))) := by
  refine Ctr.of_body Tryz.func12 rfl Tryz.ntmps12 (Nat.le_of_ble_eq_true rfl) (fun w0 A0 => ?_)
  haveI ir0 : Br r0 10000000000 := Br.fitq hr0 hfx0
  haveI ir1 : Br r1 10000000000 := Br.fitq hr1 hfx1
  haveI is0 : Br s0 10000000000 := Br.fitq hs0 hfy0
  haveI is1 : Br s1 10000000000 := Br.fitq hs1 hfy1
  refine Tc_seq ?_
  refine Tc_region ?_
  refine Tl_e (JO_e rfl rfl (Je_box (n := 0) rfl rfl rfl)) rfl rfl ?_
  refine Tl_e (JO_e rfl rfl (Je_box (n := 1) rfl rfl rfl)) rfl rfl ?_
  refine Tl_e (JO_e rfl rfl (Je_alloc (n := 2) rfl tz27 rfl)) rfl rfl ?_
  refine Tl_end ?_
  refine At_then ?_
  refine Tc_seq ?_
  refine Tc_drawK 1 [none, none, none, none, none, none, none, none, none, none, none, none, none, none, none, none, none, none, none, none, none, some 3, some 3] [3] follows (by kernel_rfl) ?_
  refine DK_q (JO_q rfl rfl (Jq_fieldAddr rfl rfl fo27_0 rfl)) ?_
  refine DK_q (JO_q rfl rfl (Jq_load_agg rfl rfl rfl (by decide) ty25 (by decide) (Nat.le_of_ble_eq_true rfl) rfl)) ?_
  refine DK_q (JO_q rfl rfl (Jq_fieldAddr rfl rfl fo27_0 rfl)) ?_
  refine DK_q (JO_q rfl rfl (Jq_load_agg rfl rfl rfl (by decide) ty25 (by decide) (Nat.le_of_ble_eq_true rfl) rfl)) ?_
  refine DK_c rfl rfl (Jd_call rfl fn29 rfl (qmul x0 (r0) hr0 (hfx0.mono (by omega)) y0 (s0) hs0 (hfy0.mono (by omega)))) ?_
  refine DK_q (JO_q rfl rfl (Jq_fieldAddr rfl rfl fo27_0 rfl)) ?_
  refine DK_q (JO_q rfl rfl (Jq_load_agg rfl rfl rfl (by decide) ty25 (by decide) (Nat.le_of_ble_eq_true rfl) rfl)) ?_
  refine DK_q (JO_q rfl rfl (Jq_fieldAddr rfl rfl fo27_1 rfl)) ?_
  refine DK_q (JO_q rfl rfl (Jq_load_agg rfl rfl rfl (by decide) ty25 (by decide) (Nat.le_of_ble_eq_true rfl) rfl)) ?_
  refine DK_c rfl rfl (Jd_call rfl fn29 rfl (qmul x0 (r0) hr0 (hfx0.mono (by omega)) y1 (s1) hs1 (hfy1.mono (by omega)))) ?_
  refine DK_q (JO_q rfl rfl (Jq_fieldAddr rfl rfl fo27_1 rfl)) ?_
  refine DK_q (JO_q rfl rfl (Jq_load_agg rfl rfl rfl (by decide) ty25 (by decide) (Nat.le_of_ble_eq_true rfl) rfl)) ?_
  refine DK_q (JO_q rfl rfl (Jq_fieldAddr rfl rfl fo27_0 rfl)) ?_
  refine DK_q (JO_q rfl rfl (Jq_load_agg rfl rfl rfl (by decide) ty25 (by decide) (Nat.le_of_ble_eq_true rfl) rfl)) ?_
  refine DK_c rfl rfl (Jd_call rfl fn29 rfl (qmul x1 (r1) hr1 (hfx1.mono (by omega)) y0 (s0) hs0 (hfy0.mono (by omega)))) ?_
  refine DK_q (JO_q rfl rfl (Jq_fieldAddr rfl rfl fo27_1 rfl)) ?_
  refine DK_q (JO_q rfl rfl (Jq_load_agg rfl rfl rfl (by decide) ty25 (by decide) (Nat.le_of_ble_eq_true rfl) rfl)) ?_
  refine DK_q (JO_q rfl rfl (Jq_fieldAddr rfl rfl fo27_1 rfl)) ?_
  refine DK_q (JO_q rfl rfl (Jq_load_agg rfl rfl rfl (by decide) ty25 (by decide) (Nat.le_of_ble_eq_true rfl) rfl)) ?_
  refine DK_c rfl rfl (Jd_call rfl fn29 rfl (qmul x1 (r1) hr1 (hfx1.mono (by omega)) y1 (s1) hs1 (hfy1.mono (by omega)))) ?_
  refine DK_q (JO_q rfl rfl (Jq_buildArr rfl tz51 rfl un51 ty25 rfl)) ?_
  refine DK_s 3 rfl rfl rfl (Jd_alloc (i := 3) rfl tz51 rfl) ?_
  refine DK_s 3 rfl rfl rfl (Jd_store rfl rfl rfl rfl ty51 rfl (by decide) (Nat.le_of_ble_eq_true rfl) rfl) ?_
  refine DK_nil ?_
  refine At_then ?_
  refine Tc_seq ?_
  refine Tc_region ?_
  refine Tl_q (JO_q rfl rfl (Jq_index_arr (j := 0) rfl rfl rfl un51 ty25 (by decide) rfl)) rfl ?_
  refine Tl_q (JO_q rfl rfl (Jq_load_agg rfl rfl rfl (by decide) ty25 (by decide) (Nat.le_of_ble_eq_true rfl) rfl)) rfl ?_
  refine Tl_q (JO_q rfl rfl (Jq_index_arr (j := 0) rfl rfl rfl un51 ty25 (by decide) rfl)) rfl ?_
  refine Tl_q (JO_q rfl rfl (Jq_load_agg rfl rfl rfl (by decide) ty25 (by decide) (Nat.le_of_ble_eq_true rfl) rfl)) rfl ?_
  refine Tl_e (JO_e rfl rfl (Je_call rfl fn30 rfl (iof (qOf ((r0) * (s0))) ((r0) * (s0)) (qOf_q _) (Br.use (by omega)) (qOf ((r0) * (s0))) ((r0) * (s0)) (qOf_q _) (Br.use (by omega))))) rfl rfl ?_
  refine Tl_e (JO_e rfl rfl (Je_alloc (n := 4) rfl tz27 rfl)) rfl rfl ?_
  refine Tl_e (JO_e rfl rfl (Je_store rfl rfl rfl rfl ty27 rfl (by decide) (Nat.le_of_ble_eq_true rfl) rfl)) rfl rfl ?_
  refine Tl_end ?_
  refine At_then ?_
  refine Tc_seq ?_
  refine Tc_seq ?_
  refine Tc_region ?_
  refine Tl_freeze 5 rfl rfl rfl ?_
  refine Tl_q (JO_q rfl rfl (Jq_slice_arr_lo (lo := 1) rfl rfl rfl un51 ty25 (by decide) (by decide) (m := 3) rfl rfl)) rfl ?_
  refine Tl_q (JO_q rfl rfl (Jq_len rfl rfl un53)) rfl ?_
  refine Tl_q (JO_q rfl rfl (Jq_move rfl rfl)) rfl ?_
  refine Tl_end ?_
  refine At_then ?_
  refine Tc_block ?_
  refine Tc_unroll 4 ?_
  refine Rn_succ ?_
  refine Tc_seq ?_
  refine Tc_norm [(4, some (D.ptr 2 0)), (6, some (D.ptr 4 0)), (35, some (D.rep (sliceRep 3 [Leaf.val (.bool (cneg ((r0) * (s1)))), natL (limbs (cnum ((r0) * (s1)))), natL (limbs (cden ((r0) * (s1)))), Leaf.val (.bool (cneg ((r1) * (s0)))), natL (limbs (cnum ((r1) * (s0)))), natL (limbs (cden ((r1) * (s0)))), Leaf.val (.bool (cneg ((r1) * (s1)))), natL (limbs (cnum ((r1) * (s1)))), natL (limbs (cden ((r1) * (s1))))]))), (36, some (D.val (.int .i64 3))), (37, some (D.val (.int .i64 0)))] [some ⟨27, [Leaf.val (.bool x0.neg), natL x0.n, natL x0.d, Leaf.val (.bool x1.neg), natL x1.n, natL x1.d], none, none⟩, some ⟨27, [Leaf.val (.bool y0.neg), natL y0.n, natL y0.d, Leaf.val (.bool y1.neg), natL y1.n, natL y1.d], none, none⟩, some ⟨27, [Leaf.val (.bool false), natL ([]), natL ([]), Leaf.val (.bool false), natL ([]), natL ([])], none, none⟩, none, some ⟨27, [Leaf.val (.bool (cneg ((r0) * (s0)))), natL (limbs (cnum ((r0) * (s0)))), natL (limbs (cden ((r0) * (s0)))), Leaf.val (.bool (cneg ((r0) * (s0)))), natL (limbs (cnum ((r0) * (s0)))), natL (limbs (cden ((r0) * (s0))))], none, none⟩] ⟨rfl, rfl, rfl, rfl, rfl, trivial⟩ rfl ?_
  refine Tc_region ?_
  refine Tl_q (JO_q rfl rfl (Jq_lss rfl rfl rfl (b := true) (rfl))) rfl ?_
  refine Tl_end ?_
  refine At_then ?_
  refine Tc_seq ?_
  refine Tc_t rfl ?_
  refine Tc_skipA ?_
  refine At_then ?_
  refine Tc_seq ?_
  refine Tc_block ?_
  refine Tc_seq ?_
  refine Tc_region ?_
  refine Tl_q (JO_q rfl rfl (Jq_index (j := 0) rfl rfl rfl un53 ty25 (by decide) (by decide) rfl)) rfl ?_
  refine Tl_q (JO_q rfl rfl (Jq_load_ref_agg rfl rfl ty25 rfl)) rfl ?_
  refine Tl_e (JO_e rfl rfl (Je_alloc (n := 5) rfl tz25 rfl)) rfl rfl ?_
  refine Tl_e (JO_e rfl rfl (Je_store rfl rfl rfl rfl ty25 rfl (by decide) (Nat.le_of_ble_eq_true rfl) rfl)) rfl rfl ?_
  refine Tl_end ?_
  refine At_then ?_
  refine Tc_drawK 0 [none, none, none, none, none, some 4] [4] follows (by kernel_rfl) ?_
  refine DK_qp [] (JO_q rfl rfl (Jq_load_agg rfl rfl rfl (by decide) ty27 (by decide) (Nat.le_of_ble_eq_true rfl) rfl)) (by kernel_rfl) ?_
  refine DK_q (JO_q rfl rfl (Jq_load_agg rfl rfl rfl (by decide) ty25 (by decide) (Nat.le_of_ble_eq_true rfl) rfl)) ?_
  refine DK_q (JO_q rfl rfl (Jq_load_agg rfl rfl rfl (by decide) ty25 (by decide) (Nat.le_of_ble_eq_true rfl) rfl)) ?_
  refine DK_c rfl rfl (Jd_call rfl fn30 rfl (iof (qOf ((r0) * (s1))) ((r0) * (s1)) (qOf_q _) (Br.use (by omega)) (qOf ((r0) * (s1))) ((r0) * (s1)) (qOf_q _) (Br.use (by omega)))) ?_
  refine DK_c rfl rfl (Jd_call rfl fn31 rfl (ijoin (qOf (((r0) * (s0)))) (((r0) * (s0))) (qOf_q _) (Br.use (by omega)) (qOf (((r0) * (s0)))) (((r0) * (s0))) (qOf_q _) (Br.use (by omega)) (qOf (((r0) * (s1)))) (((r0) * (s1))) (qOf_q _) (Br.use (by omega)) (qOf (((r0) * (s1)))) (((r0) * (s1))) (qOf_q _) (Br.use (by omega)))) ?_
  refine DK_s 4 rfl rfl rfl (Jd_store rfl rfl rfl rfl ty27 rfl (by decide) (Nat.le_of_ble_eq_true rfl) rfl) ?_
  refine DK_nil ?_
  refine At_block ?_
  refine At_then ?_
  refine Tc_region ?_
  refine Tl_q (JO_q rfl rfl (Jq_add rfl rfl rfl (r := 1) (w64 (by decide) (by decide) (by decide)))) rfl ?_
  refine Tl_q (JO_q rfl rfl (Jq_move rfl rfl)) rfl ?_
  refine Tl_end ?_
  refine At_rn ?_
  refine Rn_succ ?_
  refine Tc_seq ?_
  refine Tc_norm [(4, some (D.ptr 2 0)), (6, some (D.ptr 4 0)), (35, some (D.rep (sliceRep 3 [Leaf.val (.bool (cneg ((r0) * (s1)))), natL (limbs (cnum ((r0) * (s1)))), natL (limbs (cden ((r0) * (s1)))), Leaf.val (.bool (cneg ((r1) * (s0)))), natL (limbs (cnum ((r1) * (s0)))), natL (limbs (cden ((r1) * (s0)))), Leaf.val (.bool (cneg ((r1) * (s1)))), natL (limbs (cnum ((r1) * (s1)))), natL (limbs (cden ((r1) * (s1))))]))), (36, some (D.val (.int .i64 3))), (37, some (D.val (.int .i64 1)))] [some ⟨27, [Leaf.val (.bool x0.neg), natL x0.n, natL x0.d, Leaf.val (.bool x1.neg), natL x1.n, natL x1.d], none, none⟩, some ⟨27, [Leaf.val (.bool y0.neg), natL y0.n, natL y0.d, Leaf.val (.bool y1.neg), natL y1.n, natL y1.d], none, none⟩, some ⟨27, [Leaf.val (.bool false), natL ([]), natL ([]), Leaf.val (.bool false), natL ([]), natL ([])], none, none⟩, none, some ⟨27, [Leaf.val (.bool (cneg (mn ((r0) * (s0)) ((r0) * (s1))))), natL (limbs (cnum (mn ((r0) * (s0)) ((r0) * (s1))))), natL (limbs (cden (mn ((r0) * (s0)) ((r0) * (s1))))), Leaf.val (.bool (cneg (mx ((r0) * (s0)) ((r0) * (s1))))), natL (limbs (cnum (mx ((r0) * (s0)) ((r0) * (s1))))), natL (limbs (cden (mx ((r0) * (s0)) ((r0) * (s1)))))], none, none⟩, some ⟨25, [Leaf.val (.bool (cneg ((r0) * (s1)))), natL (limbs (cnum ((r0) * (s1)))), natL (limbs (cden ((r0) * (s1))))], none, none⟩] ⟨rfl, rfl, rfl, rfl, rfl, trivial⟩ rfl ?_
  refine Tc_region ?_
  refine Tl_q (JO_q rfl rfl (Jq_lss rfl rfl rfl (b := true) (rfl))) rfl ?_
  refine Tl_end ?_
  refine At_then ?_
  refine Tc_seq ?_
  refine Tc_t rfl ?_
  refine Tc_skipA ?_
  refine At_then ?_
  refine Tc_seq ?_
  refine Tc_block ?_
  refine Tc_seq ?_
  refine Tc_region ?_
  refine Tl_q (JO_q rfl rfl (Jq_index (j := 1) rfl rfl rfl un53 ty25 (by decide) (by decide) rfl)) rfl ?_
  refine Tl_q (JO_q rfl rfl (Jq_load_ref_agg rfl rfl ty25 rfl)) rfl ?_
  refine Tl_e (JO_e rfl rfl (Je_alloc (n := 6) rfl tz25 rfl)) rfl rfl ?_
  refine Tl_e (JO_e rfl rfl (Je_store rfl rfl rfl rfl ty25 rfl (by decide) (Nat.le_of_ble_eq_true rfl) rfl)) rfl rfl ?_
  refine Tl_end ?_
  refine At_then ?_
  refine Tc_drawK 0 [none, none, none, none, none, some 4] [4] follows (by kernel_rfl) ?_
  refine DK_qp [] (JO_q rfl rfl (Jq_load_agg rfl rfl rfl (by decide) ty27 (by decide) (Nat.le_of_ble_eq_true rfl) rfl)) (by kernel_rfl) ?_
  refine DK_q (JO_q rfl rfl (Jq_load_agg rfl rfl rfl (by decide) ty25 (by decide) (Nat.le_of_ble_eq_true rfl) rfl)) ?_
  refine DK_q (JO_q rfl rfl (Jq_load_agg rfl rfl rfl (by decide) ty25 (by decide) (Nat.le_of_ble_eq_true rfl) rfl)) ?_
  refine DK_c rfl rfl (Jd_call rfl fn30 rfl (iof (qOf ((r1) * (s0))) ((r1) * (s0)) (qOf_q _) (Br.use (by omega)) (qOf ((r1) * (s0))) ((r1) * (s0)) (qOf_q _) (Br.use (by omega)))) ?_
  refine DK_c rfl rfl (Jd_call rfl fn31 rfl (ijoin (qOf (mn ((r0) * (s0)) ((r0) * (s1)))) (mn ((r0) * (s0)) ((r0) * (s1))) (qOf_q _) (Br.use (by omega)) (qOf (mx ((r0) * (s0)) ((r0) * (s1)))) (mx ((r0) * (s0)) ((r0) * (s1))) (qOf_q _) (Br.use (by omega)) (qOf (((r1) * (s0)))) (((r1) * (s0))) (qOf_q _) (Br.use (by omega)) (qOf (((r1) * (s0)))) (((r1) * (s0))) (qOf_q _) (Br.use (by omega)))) ?_
  refine DK_s 4 rfl rfl rfl (Jd_store rfl rfl rfl rfl ty27 rfl (by decide) (Nat.le_of_ble_eq_true rfl) rfl) ?_
  refine DK_nil ?_
  refine At_block ?_
  refine At_then ?_
  refine Tc_region ?_
  refine Tl_q (JO_q rfl rfl (Jq_add rfl rfl rfl (r := 2) (w64 (by decide) (by decide) (by decide)))) rfl ?_
  refine Tl_q (JO_q rfl rfl (Jq_move rfl rfl)) rfl ?_
  refine Tl_end ?_
  refine At_rn ?_
  refine Rn_succ ?_
  refine Tc_seq ?_
  refine Tc_norm [(4, some (D.ptr 2 0)), (6, some (D.ptr 4 0)), (35, some (D.rep (sliceRep 3 [Leaf.val (.bool (cneg ((r0) * (s1)))), natL (limbs (cnum ((r0) * (s1)))), natL (limbs (cden ((r0) * (s1)))), Leaf.val (.bool (cneg ((r1) * (s0)))), natL (limbs (cnum ((r1) * (s0)))), natL (limbs (cden ((r1) * (s0)))), Leaf.val (.bool (cneg ((r1) * (s1)))), natL (limbs (cnum ((r1) * (s1)))), natL (limbs (cden ((r1) * (s1))))]))), (36, some (D.val (.int .i64 3))), (37, some (D.val (.int .i64 2)))] [some ⟨27, [Leaf.val (.bool x0.neg), natL x0.n, natL x0.d, Leaf.val (.bool x1.neg), natL x1.n, natL x1.d], none, none⟩, some ⟨27, [Leaf.val (.bool y0.neg), natL y0.n, natL y0.d, Leaf.val (.bool y1.neg), natL y1.n, natL y1.d], none, none⟩, some ⟨27, [Leaf.val (.bool false), natL ([]), natL ([]), Leaf.val (.bool false), natL ([]), natL ([])], none, none⟩, none, some ⟨27, [Leaf.val (.bool (cneg (mn (mn ((r0) * (s0)) ((r0) * (s1))) ((r1) * (s0))))), natL (limbs (cnum (mn (mn ((r0) * (s0)) ((r0) * (s1))) ((r1) * (s0))))), natL (limbs (cden (mn (mn ((r0) * (s0)) ((r0) * (s1))) ((r1) * (s0))))), Leaf.val (.bool (cneg (mx (mx ((r0) * (s0)) ((r0) * (s1))) ((r1) * (s0))))), natL (limbs (cnum (mx (mx ((r0) * (s0)) ((r0) * (s1))) ((r1) * (s0))))), natL (limbs (cden (mx (mx ((r0) * (s0)) ((r0) * (s1))) ((r1) * (s0)))))], none, none⟩, some ⟨25, [Leaf.val (.bool (cneg ((r0) * (s1)))), natL (limbs (cnum ((r0) * (s1)))), natL (limbs (cden ((r0) * (s1))))], none, none⟩, some ⟨25, [Leaf.val (.bool (cneg ((r1) * (s0)))), natL (limbs (cnum ((r1) * (s0)))), natL (limbs (cden ((r1) * (s0))))], none, none⟩] ⟨rfl, rfl, rfl, rfl, rfl, trivial⟩ rfl ?_
  refine Tc_region ?_
  refine Tl_q (JO_q rfl rfl (Jq_lss rfl rfl rfl (b := true) (rfl))) rfl ?_
  refine Tl_end ?_
  refine At_then ?_
  refine Tc_seq ?_
  refine Tc_t rfl ?_
  refine Tc_skipA ?_
  refine At_then ?_
  refine Tc_seq ?_
  refine Tc_block ?_
  refine Tc_seq ?_
  refine Tc_region ?_
  refine Tl_q (JO_q rfl rfl (Jq_index (j := 2) rfl rfl rfl un53 ty25 (by decide) (by decide) rfl)) rfl ?_
  refine Tl_q (JO_q rfl rfl (Jq_load_ref_agg rfl rfl ty25 rfl)) rfl ?_
  refine Tl_e (JO_e rfl rfl (Je_alloc (n := 7) rfl tz25 rfl)) rfl rfl ?_
  refine Tl_e (JO_e rfl rfl (Je_store rfl rfl rfl rfl ty25 rfl (by decide) (Nat.le_of_ble_eq_true rfl) rfl)) rfl rfl ?_
  refine Tl_end ?_
  refine At_then ?_
  refine Tc_drawK 0 [none, none, none, none, none, some 4] [4] follows (by kernel_rfl) ?_
  refine DK_qp [] (JO_q rfl rfl (Jq_load_agg rfl rfl rfl (by decide) ty27 (by decide) (Nat.le_of_ble_eq_true rfl) rfl)) (by kernel_rfl) ?_
  refine DK_q (JO_q rfl rfl (Jq_load_agg rfl rfl rfl (by decide) ty25 (by decide) (Nat.le_of_ble_eq_true rfl) rfl)) ?_
  refine DK_q (JO_q rfl rfl (Jq_load_agg rfl rfl rfl (by decide) ty25 (by decide) (Nat.le_of_ble_eq_true rfl) rfl)) ?_
  refine DK_c rfl rfl (Jd_call rfl fn30 rfl (iof (qOf ((r1) * (s1))) ((r1) * (s1)) (qOf_q _) (Br.use (by omega)) (qOf ((r1) * (s1))) ((r1) * (s1)) (qOf_q _) (Br.use (by omega)))) ?_
  refine DK_c rfl rfl (Jd_call rfl fn31 rfl (ijoin (qOf (mn (mn ((r0) * (s0)) ((r0) * (s1))) ((r1) * (s0)))) (mn (mn ((r0) * (s0)) ((r0) * (s1))) ((r1) * (s0))) (qOf_q _) (Br.use (by omega)) (qOf (mx (mx ((r0) * (s0)) ((r0) * (s1))) ((r1) * (s0)))) (mx (mx ((r0) * (s0)) ((r0) * (s1))) ((r1) * (s0))) (qOf_q _) (Br.use (by omega)) (qOf (((r1) * (s1)))) (((r1) * (s1))) (qOf_q _) (Br.use (by omega)) (qOf (((r1) * (s1)))) (((r1) * (s1))) (qOf_q _) (Br.use (by omega)))) ?_
  refine DK_s 4 rfl rfl rfl (Jd_store rfl rfl rfl rfl ty27 rfl (by decide) (Nat.le_of_ble_eq_true rfl) rfl) ?_
  refine DK_nil ?_
  refine At_block ?_
  refine At_then ?_
  refine Tc_region ?_
  refine Tl_q (JO_q rfl rfl (Jq_add rfl rfl rfl (r := 3) (w64 (by decide) (by decide) (by decide)))) rfl ?_
  refine Tl_q (JO_q rfl rfl (Jq_move rfl rfl)) rfl ?_
  refine Tl_end ?_
  refine At_rn ?_
  refine Rn_succ ?_
  refine Tc_seq ?_
  refine Tc_norm [(4, some (D.ptr 2 0)), (6, some (D.ptr 4 0)), (35, some (D.rep (sliceRep 3 [Leaf.val (.bool (cneg ((r0) * (s1)))), natL (limbs (cnum ((r0) * (s1)))), natL (limbs (cden ((r0) * (s1)))), Leaf.val (.bool (cneg ((r1) * (s0)))), natL (limbs (cnum ((r1) * (s0)))), natL (limbs (cden ((r1) * (s0)))), Leaf.val (.bool (cneg ((r1) * (s1)))), natL (limbs (cnum ((r1) * (s1)))), natL (limbs (cden ((r1) * (s1))))]))), (36, some (D.val (.int .i64 3))), (37, some (D.val (.int .i64 3)))] [some ⟨27, [Leaf.val (.bool x0.neg), natL x0.n, natL x0.d, Leaf.val (.bool x1.neg), natL x1.n, natL x1.d], none, none⟩, some ⟨27, [Leaf.val (.bool y0.neg), natL y0.n, natL y0.d, Leaf.val (.bool y1.neg), natL y1.n, natL y1.d], none, none⟩, some ⟨27, [Leaf.val (.bool false), natL ([]), natL ([]), Leaf.val (.bool false), natL ([]), natL ([])], none, none⟩, none, some ⟨27, [Leaf.val (.bool (cneg (mn (mn (mn ((r0) * (s0)) ((r0) * (s1))) ((r1) * (s0))) ((r1) * (s1))))), natL (limbs (cnum (mn (mn (mn ((r0) * (s0)) ((r0) * (s1))) ((r1) * (s0))) ((r1) * (s1))))), natL (limbs (cden (mn (mn (mn ((r0) * (s0)) ((r0) * (s1))) ((r1) * (s0))) ((r1) * (s1))))), Leaf.val (.bool (cneg (mx (mx (mx ((r0) * (s0)) ((r0) * (s1))) ((r1) * (s0))) ((r1) * (s1))))), natL (limbs (cnum (mx (mx (mx ((r0) * (s0)) ((r0) * (s1))) ((r1) * (s0))) ((r1) * (s1))))), natL (limbs (cden (mx (mx (mx ((r0) * (s0)) ((r0) * (s1))) ((r1) * (s0))) ((r1) * (s1)))))], none, none⟩, some ⟨25, [Leaf.val (.bool (cneg ((r0) * (s1)))), natL (limbs (cnum ((r0) * (s1)))), natL (limbs (cden ((r0) * (s1))))], none, none⟩, some ⟨25, [Leaf.val (.bool (cneg ((r1) * (s0)))), natL (limbs (cnum ((r1) * (s0)))), natL (limbs (cden ((r1) * (s0))))], none, none⟩, some ⟨25, [Leaf.val (.bool (cneg ((r1) * (s1)))), natL (limbs (cnum ((r1) * (s1)))), natL (limbs (cden ((r1) * (s1))))], none, none⟩] ⟨rfl, rfl, rfl, rfl, rfl, trivial⟩ rfl ?_
  refine Tc_region ?_
  refine Tl_q (JO_q rfl rfl (Jq_lss rfl rfl rfl (b := false) (rfl))) rfl ?_
  refine Tl_end ?_
  refine At_then ?_
  refine Tc_seq ?_
  refine Tc_f rfl ?_
  refine Tc_exitA ?_
  refine At_then_exit ?_
  refine At_then_exit ?_
  refine At_block_exit ?_
  refine At_then ?_
  refine Tc_seq ?_
  refine Tc_region ?_
  refine Tl_q (JO_q rfl rfl (Jq_load_agg rfl rfl rfl (by decide) ty27 (by decide) (Nat.le_of_ble_eq_true rfl) rfl)) rfl ?_
  refine Tl_e (JO_e rfl rfl (Je_store rfl rfl rfl rfl ty27 rfl (by decide) (Nat.le_of_ble_eq_true rfl) rfl)) rfl rfl ?_
  refine Tl_end ?_
  refine At_then ?_
  exact Tc_ret1 (fun _ _ h => h) rfl (⟨_, _, rfl, rfl, .inl ⟨ty27, Nat.le_of_ble_eq_true rfl, rfl⟩⟩) rfl

set_option maxRecDepth 10000 in
theorem irelu (x0 : Qr) (r0 : Rat) (hr0 : x0.q = r0) (hfx0 : Fit 100000000000 x0) (x1 : Qr) (r1 : Rat) (hr1 : x1.q = r1) (hfx1 : Fit 100000000000 x1) : Ctr Tryz.prog 13 [iV x0 x1] (R.one (iV (qOf (mx 0 r0)) (qOf (mx 0 r1)))) := by
  refine Ctr.of_body Tryz.func13 rfl Tryz.ntmps13 (Nat.le_of_ble_eq_true rfl) (fun w0 A0 => ?_)
  haveI ir0 : Br r0 100000000000 := Br.fitq hr0 hfx0
  haveI ir1 : Br r1 100000000000 := Br.fitq hr1 hfx1
  refine Tc_seq ?_
  refine Tc_region ?_
  refine Tl_e (JO_e rfl rfl (Je_box (n := 0) rfl rfl rfl)) rfl rfl ?_
  refine Tl_e (JO_e rfl rfl (Je_alloc (n := 1) rfl tz27 rfl)) rfl rfl ?_
  refine Tl_end ?_
  refine At_then ?_
  refine Tc_seq ?_
  refine Tc_drawK 0 [none, none, none, none, none, none, none, none, none, some 1] [1] follows (by kernel_rfl) ?_
  refine DK_q (JO_q rfl rfl (Jq_build rfl tz25 rfl pl25 rfl)) ?_
  refine DK_q (JO_q rfl rfl (Jq_fieldAddr rfl rfl fo27_0 rfl)) ?_
  refine DK_q (JO_q rfl rfl (Jq_load_agg rfl rfl rfl (by decide) ty25 (by decide) (Nat.le_of_ble_eq_true rfl) rfl)) ?_
  refine DK_c rfl rfl (Jd_call rfl fn26 rfl (qmax qZero (0) qZero_q qZero_fit x0 (r0) hr0 (hfx0.mono (by omega)))) ?_
  refine DK_q (JO_q rfl rfl (Jq_build rfl tz25 rfl pl25 rfl)) ?_
  refine DK_q (JO_q rfl rfl (Jq_fieldAddr rfl rfl fo27_1 rfl)) ?_
  refine DK_q (JO_q rfl rfl (Jq_load_agg rfl rfl rfl (by decide) ty25 (by decide) (Nat.le_of_ble_eq_true rfl) rfl)) ?_
  refine DK_c rfl rfl (Jd_call rfl fn26 rfl (qmax qZero (0) qZero_q qZero_fit x1 (r1) hr1 (hfx1.mono (by omega)))) ?_
  refine DK_q (JO_q rfl rfl (Jq_build rfl tz27 rfl pl27 rfl)) ?_
  refine DK_s 1 rfl rfl rfl (Jd_store rfl rfl rfl rfl ty27 rfl (by decide) (Nat.le_of_ble_eq_true rfl) rfl) ?_
  refine DK_nil ?_
  refine At_then ?_
  exact Tc_ret1 (fun _ _ h => h) rfl (⟨_, _, rfl, rfl, .inl ⟨ty27, Nat.le_of_ble_eq_true rfl, rfl⟩⟩) rfl

set_option maxRecDepth 10000 in
theorem imeet_ok (x0 : Qr) (r0 : Rat) (hr0 : x0.q = r0) (hfx0 : Fit 10000000000 x0) (x1 : Qr) (r1 : Rat) (hr1 : x1.q = r1) (hfx1 : Fit 10000000000 x1) (y0 : Qr) (s0 : Rat) (hs0 : y0.q = s0) (hfy0 : Fit 10000000000 y0) (y1 : Qr) (s1 : Rat) (hs1 : y1.q = s1) (hfy1 : Fit 10000000000 y1) (h : mx r0 s0 ≤ mn r1 s1) : Ctr Tryz.prog 10 [iV x0 x1, iV y0 y1] (R.tup [iV (qOf (mx r0 s0)) (qOf (mn r1 s1)), V.one (Leaf.val (.int .i64 0))]) := by
  refine Ctr.of_body Tryz.func10 rfl Tryz.ntmps10 (Nat.le_of_ble_eq_true rfl) (fun w0 A0 => ?_)
  haveI ir0 : Br r0 10000000000 := Br.fitq hr0 hfx0
  haveI ir1 : Br r1 10000000000 := Br.fitq hr1 hfx1
  haveI is0 : Br s0 10000000000 := Br.fitq hs0 hfy0
  haveI is1 : Br s1 10000000000 := Br.fitq hs1 hfy1
  refine Tc_seq ?_
  refine Tc_region ?_
  refine Tl_e (JO_e rfl rfl (Je_box (n := 0) rfl rfl rfl)) rfl rfl ?_
  refine Tl_e (JO_e rfl rfl (Je_box (n := 1) rfl rfl rfl)) rfl rfl ?_
  refine Tl_e (JO_e rfl rfl (Je_alloc (n := 2) rfl tz27 rfl)) rfl rfl ?_
  refine Tl_q (JO_q rfl rfl (Jq_assign rfl rfl)) rfl ?_
  refine Tl_end ?_
  refine At_then ?_
  refine Tc_seq ?_
  refine Tc_drawK 1 [none, none, none, none, none, none, none, none, none, none, none, none, none, none, some 3, some 3, none] [3] follows (by kernel_rfl) ?_
  refine DK_q (JO_q rfl rfl (Jq_fieldAddr rfl rfl fo27_0 rfl)) ?_
  refine DK_q (JO_q rfl rfl (Jq_load_agg rfl rfl rfl (by decide) ty25 (by decide) (Nat.le_of_ble_eq_true rfl) rfl)) ?_
  refine DK_q (JO_q rfl rfl (Jq_fieldAddr rfl rfl fo27_0 rfl)) ?_
  refine DK_q (JO_q rfl rfl (Jq_load_agg rfl rfl rfl (by decide) ty25 (by decide) (Nat.le_of_ble_eq_true rfl) rfl)) ?_
  refine DK_c rfl rfl (Jd_call rfl fn26 rfl (qmax x0 (r0) hr0 (hfx0.mono (by omega)) y0 (s0) hs0 (hfy0.mono (by omega)))) ?_
  refine DK_q (JO_q rfl rfl (Jq_fieldAddr rfl rfl fo27_1 rfl)) ?_
  refine DK_q (JO_q rfl rfl (Jq_load_agg rfl rfl rfl (by decide) ty25 (by decide) (Nat.le_of_ble_eq_true rfl) rfl)) ?_
  refine DK_q (JO_q rfl rfl (Jq_fieldAddr rfl rfl fo27_1 rfl)) ?_
  refine DK_q (JO_q rfl rfl (Jq_load_agg rfl rfl rfl (by decide) ty25 (by decide) (Nat.le_of_ble_eq_true rfl) rfl)) ?_
  refine DK_c rfl rfl (Jd_call rfl fn27 rfl (qmin x1 (r1) hr1 (hfx1.mono (by omega)) y1 (s1) hs1 (hfy1.mono (by omega)))) ?_
  refine DK_c rfl rfl (Jd_call rfl fn25 rfl (imake_ok (qOf (mx r0 s0)) (mx r0 s0) (qOf_q _) (Br.use (by omega)) (qOf (mn r1 s1)) (mn r1 s1) (qOf_q _) (Br.use (by omega)) h)) ?_
  refine DK_q (JO_q rfl rfl (Jq_move rfl rfl)) ?_
  refine DK_q (JO_q rfl rfl (Jq_extract rfl rfl rfl)) ?_
  refine DK_q (JO_q rfl rfl (Jq_extract rfl rfl rfl)) ?_
  refine DK_s 3 rfl rfl rfl (Jd_alloc (i := 3) rfl tz27 rfl) ?_
  refine DK_s 3 rfl rfl rfl (Jd_store rfl rfl rfl rfl ty27 rfl (by decide) (Nat.le_of_ble_eq_true rfl) rfl) ?_
  refine DK_q (JO_q rfl rfl (Jq_assign rfl rfl)) ?_
  refine DK_nil ?_
  refine At_then ?_
  refine Tc_seq ?_
  refine Tc_seq ?_
  refine Tc_region ?_
  refine Tl_q (JO_q rfl rfl (Jq_move rfl rfl)) rfl ?_
  refine Tl_q (JO_q rfl rfl (Jq_neq rfl rfl rfl (b := false) (nF rfl))) rfl ?_
  refine Tl_end ?_
  refine At_then ?_
  refine Tc_f rfl ?_
  refine Tc_skipA ?_
  refine At_then ?_
  refine Tc_seq ?_
  refine Tc_region ?_
  refine Tl_q (JO_q rfl rfl (Jq_load_agg rfl rfl rfl (by decide) ty27 (by decide) (Nat.le_of_ble_eq_true rfl) rfl)) rfl ?_
  refine Tl_e (JO_e rfl rfl (Je_store rfl rfl rfl rfl ty27 rfl (by decide) (Nat.le_of_ble_eq_true rfl) rfl)) rfl rfl ?_
  refine Tl_q (JO_q rfl rfl (Jq_assign rfl rfl)) rfl ?_
  refine Tl_end ?_
  refine At_then ?_
  exact Tc_ret2 (fun _ _ h => h) rfl (⟨_, _, rfl, rfl, .inl ⟨ty27, Nat.le_of_ble_eq_true rfl, rfl⟩⟩) rfl rfl

set_option maxRecDepth 10000 in
theorem imeet_bad (x0 : Qr) (r0 : Rat) (hr0 : x0.q = r0) (hfx0 : Fit 10000000000 x0) (x1 : Qr) (r1 : Rat) (hr1 : x1.q = r1) (hfx1 : Fit 10000000000 x1) (y0 : Qr) (s0 : Rat) (hs0 : y0.q = s0) (hfy0 : Fit 10000000000 y0) (y1 : Qr) (s1 : Rat) (hs1 : y1.q = s1) (hfy1 : Fit 10000000000 y1) (h : mn r1 s1 < mx r0 s0) : Ctr Tryz.prog 10 [iV x0 x1, iV y0 y1] (R.tup [iV qZero qZero, V.one (Leaf.val (.int .i64 10))]) := by
  refine Ctr.of_body Tryz.func10 rfl Tryz.ntmps10 (Nat.le_of_ble_eq_true rfl) (fun w0 A0 => ?_)
  haveI ir0 : Br r0 10000000000 := Br.fitq hr0 hfx0
  haveI ir1 : Br r1 10000000000 := Br.fitq hr1 hfx1
  haveI is0 : Br s0 10000000000 := Br.fitq hs0 hfy0
  haveI is1 : Br s1 10000000000 := Br.fitq hs1 hfy1
  refine Tc_seq ?_
  refine Tc_region ?_
  refine Tl_e (JO_e rfl rfl (Je_box (n := 0) rfl rfl rfl)) rfl rfl ?_
  refine Tl_e (JO_e rfl rfl (Je_box (n := 1) rfl rfl rfl)) rfl rfl ?_
  refine Tl_e (JO_e rfl rfl (Je_alloc (n := 2) rfl tz27 rfl)) rfl rfl ?_
  refine Tl_q (JO_q rfl rfl (Jq_assign rfl rfl)) rfl ?_
  refine Tl_end ?_
  refine At_then ?_
  refine Tc_seq ?_
  refine Tc_drawK 1 [none, none, none, none, none, none, none, none, none, none, none, none, none, none, some 3, some 3, none] [3] follows (by kernel_rfl) ?_
  refine DK_q (JO_q rfl rfl (Jq_fieldAddr rfl rfl fo27_0 rfl)) ?_
  refine DK_q (JO_q rfl rfl (Jq_load_agg rfl rfl rfl (by decide) ty25 (by decide) (Nat.le_of_ble_eq_true rfl) rfl)) ?_
  refine DK_q (JO_q rfl rfl (Jq_fieldAddr rfl rfl fo27_0 rfl)) ?_
  refine DK_q (JO_q rfl rfl (Jq_load_agg rfl rfl rfl (by decide) ty25 (by decide) (Nat.le_of_ble_eq_true rfl) rfl)) ?_
  refine DK_c rfl rfl (Jd_call rfl fn26 rfl (qmax x0 (r0) hr0 (hfx0.mono (by omega)) y0 (s0) hs0 (hfy0.mono (by omega)))) ?_
  refine DK_q (JO_q rfl rfl (Jq_fieldAddr rfl rfl fo27_1 rfl)) ?_
  refine DK_q (JO_q rfl rfl (Jq_load_agg rfl rfl rfl (by decide) ty25 (by decide) (Nat.le_of_ble_eq_true rfl) rfl)) ?_
  refine DK_q (JO_q rfl rfl (Jq_fieldAddr rfl rfl fo27_1 rfl)) ?_
  refine DK_q (JO_q rfl rfl (Jq_load_agg rfl rfl rfl (by decide) ty25 (by decide) (Nat.le_of_ble_eq_true rfl) rfl)) ?_
  refine DK_c rfl rfl (Jd_call rfl fn27 rfl (qmin x1 (r1) hr1 (hfx1.mono (by omega)) y1 (s1) hs1 (hfy1.mono (by omega)))) ?_
  refine DK_c rfl rfl (Jd_call rfl fn25 rfl (imake_bad (qOf (mx r0 s0)) (mx r0 s0) (qOf_q _) (Br.use (by omega)) (qOf (mn r1 s1)) (mn r1 s1) (qOf_q _) (Br.use (by omega)) h)) ?_
  refine DK_q (JO_q rfl rfl (Jq_move rfl rfl)) ?_
  refine DK_q (JO_q rfl rfl (Jq_extract rfl rfl rfl)) ?_
  refine DK_q (JO_q rfl rfl (Jq_extract rfl rfl rfl)) ?_
  refine DK_s 3 rfl rfl rfl (Jd_alloc (i := 3) rfl tz27 rfl) ?_
  refine DK_s 3 rfl rfl rfl (Jd_store rfl rfl rfl rfl ty27 rfl (by decide) (Nat.le_of_ble_eq_true rfl) rfl) ?_
  refine DK_q (JO_q rfl rfl (Jq_assign rfl rfl)) ?_
  refine DK_nil ?_
  refine At_then ?_
  refine Tc_seq ?_
  refine Tc_seq ?_
  refine Tc_region ?_
  refine Tl_q (JO_q rfl rfl (Jq_move rfl rfl)) rfl ?_
  refine Tl_q (JO_q rfl rfl (Jq_neq rfl rfl rfl (b := true) (nT (by decide)))) rfl ?_
  refine Tl_end ?_
  refine At_then ?_
  refine Tc_t rfl ?_
  refine Tc_seq ?_
  refine Tc_region ?_
  refine Tl_q (JO_q rfl rfl (Jq_build rfl tz27 rfl pl27 rfl)) rfl ?_
  refine Tl_e (JO_e rfl rfl (Je_store rfl rfl rfl rfl ty27 rfl (by decide) (Nat.le_of_ble_eq_true rfl) rfl)) rfl rfl ?_
  refine Tl_q (JO_q rfl rfl (Jq_assign rfl rfl)) rfl ?_
  refine Tl_end ?_
  refine At_then ?_
  exact Tc_ret2 (fun _ _ h => h) rfl (⟨_, _, rfl, rfl, .inl ⟨ty27, Nat.le_of_ble_eq_true rfl, rfl⟩⟩) rfl rfl

set_option maxRecDepth 10000 in
theorem rivalid (x0 : Qr) (r0 : Rat) (hr0 : x0.q = r0) (hfx0 : Fit 100000000000 x0) (x1 : Qr) (r1 : Rat) (hr1 : x1.q = r1) (hfx1 : Fit 100000000000 x1) : Ctr Tryz.prog 16 [iV x0 x1] (R.one (V.one (Leaf.val (.bool (isC x0 && isC x1 && decide (cmpq r0 r1 ≤ 0)))))) := by
  refine Ctr.of_body Tryz.func16 rfl Tryz.ntmps16 (Nat.le_of_ble_eq_true rfl) (fun w0 A0 => ?_)
  haveI ir0 : Br r0 100000000000 := Br.fitq hr0 hfx0
  haveI ir1 : Br r1 100000000000 := Br.fitq hr1 hfx1
  refine Tc_seq ?_
  refine Tc_region ?_
  refine Tl_e (JO_e rfl rfl (Je_box (n := 0) rfl rfl rfl)) rfl rfl ?_
  refine Tl_q (JO_q rfl rfl (Jq_assign rfl rfl)) rfl ?_
  refine Tl_end ?_
  refine At_then ?_
  refine Tc_seq ?_
  refine Tc_region ?_
  refine Tl_q (JO_q rfl rfl (Jq_fieldAddr rfl rfl fo27_0 rfl)) rfl ?_
  refine Tl_q (JO_q rfl rfl (Jq_load_agg rfl rfl rfl (by decide) ty25 (by decide) (Nat.le_of_ble_eq_true rfl) rfl)) rfl ?_
  refine Tl_e (JO_e rfl rfl (Je_call rfl fn32 rfl (rqvalid x0 (r0) hr0 (hfx0.mono (by omega))))) rfl rfl ?_
  refine Tl_q (JO_q rfl rfl (Jq_move rfl rfl)) rfl ?_
  refine Tl_two (fun hb6 => ?_) (fun hb6 => ?_)
  · skip
    refine Tl_q (JO_skip rfl rfl rfl) rfl ?_
    refine Tl_q (JO_skip rfl rfl rfl) rfl ?_
    refine Tl_q (JO_skip rfl rfl rfl) rfl ?_
    refine Tl_q (JO_q rfl rfl (Jq_pick_f rfl rfl rfl)) rfl ?_
    refine Tl_q (JO_q rfl rfl (Jq_move rfl rfl)) rfl ?_
    refine Tl_q (JO_skip rfl rfl rfl) rfl ?_
    refine Tl_q (JO_skip rfl rfl rfl) rfl ?_
    refine Tl_q (JO_skip rfl rfl rfl) rfl ?_
    refine Tl_q (JO_skip rfl rfl rfl) rfl ?_
    refine Tl_q (JO_skip rfl rfl rfl) rfl ?_
    refine Tl_q (JO_skip rfl rfl rfl) rfl ?_
    refine Tl_q (JO_q rfl rfl (Jq_pick_f rfl rfl rfl)) rfl ?_
    refine Tl_q (JO_q rfl rfl (Jq_assign rfl rfl)) rfl ?_
    refine Tl_end ?_
    refine At_then ?_
    exact Tc_ret1 (fun _ _ h => h) rfl rfl (by simp [*])
  · skip
    refine Tl_q (JO_qg rfl rfl rfl rfl (Jq_fieldAddr rfl rfl fo27_1 rfl)) rfl ?_
    refine Tl_q (JO_qg rfl rfl rfl rfl (Jq_load_agg rfl rfl rfl (by decide) ty25 (by decide) (Nat.le_of_ble_eq_true rfl) rfl)) rfl ?_
    refine Tl_e (JO_eg rfl rfl rfl rfl (Je_call rfl fn32 rfl (rqvalid x1 (r1) hr1 (hfx1.mono (by omega))))) rfl rfl ?_
    refine Tl_q (JO_q rfl rfl (Jq_pick_t rfl rfl rfl)) rfl ?_
    refine Tl_q (JO_q rfl rfl (Jq_move rfl rfl)) rfl ?_
    refine Tl_two (fun hb11 => ?_) (fun hb11 => ?_)
    · skip
      refine Tl_q (JO_skip rfl rfl rfl) rfl ?_
      refine Tl_q (JO_skip rfl rfl rfl) rfl ?_
      refine Tl_q (JO_skip rfl rfl rfl) rfl ?_
      refine Tl_q (JO_skip rfl rfl rfl) rfl ?_
      refine Tl_q (JO_skip rfl rfl rfl) rfl ?_
      refine Tl_q (JO_skip rfl rfl rfl) rfl ?_
      refine Tl_q (JO_q rfl rfl (Jq_pick_f rfl rfl rfl)) rfl ?_
      refine Tl_q (JO_q rfl rfl (Jq_assign rfl rfl)) rfl ?_
      refine Tl_end ?_
      refine At_then ?_
      exact Tc_ret1 (fun _ _ h => h) rfl rfl (by simp [*])
    · skip
      refine Tl_q (JO_qg rfl rfl rfl rfl (Jq_fieldAddr rfl rfl fo27_0 rfl)) rfl ?_
      refine Tl_q (JO_qg rfl rfl rfl rfl (Jq_load_agg rfl rfl rfl (by decide) ty25 (by decide) (Nat.le_of_ble_eq_true rfl) rfl)) rfl ?_
      refine Tl_q (JO_qg rfl rfl rfl rfl (Jq_fieldAddr rfl rfl fo27_1 rfl)) rfl ?_
      refine Tl_q (JO_qg rfl rfl rfl rfl (Jq_load_agg rfl rfl rfl (by decide) ty25 (by decide) (Nat.le_of_ble_eq_true rfl) rfl)) rfl ?_
      refine Tl_e (JO_eg rfl rfl rfl rfl (Je_call rfl fn33 rfl (rqcmp x0 (r0) hr0 (hfx0.mono (by omega)) x1 (r1) hr1 (hfx1.mono (by omega))))) rfl rfl ?_
      refine Tl_q (JO_qg rfl rfl rfl rfl (Jq_leq rfl rfl rfl (b := _) (rfl))) rfl ?_
      refine Tl_q (JO_q rfl rfl (Jq_pick_t rfl rfl rfl)) rfl ?_
      refine Tl_q (JO_q rfl rfl (Jq_assign rfl rfl)) rfl ?_
      refine Tl_end ?_
      refine At_then ?_
      exact Tc_ret1 (fun _ _ h => h) rfl rfl (by simp [*])

set_option maxRecDepth 10000 in
theorem risame (x0 x1 y0 y1 : Qr) : Ctr Tryz.prog 8 [iV x0 x1, iV y0 y1] (R.one (V.one (Leaf.val (.bool (sameQ x0 y0 && sameQ x1 y1))))) := by
  refine Ctr.of_body Tryz.func8 rfl Tryz.ntmps8 (Nat.le_of_ble_eq_true rfl) (fun w0 A0 => ?_)
  refine Tc_seq ?_
  refine Tc_region ?_
  refine Tl_e (JO_e rfl rfl (Je_box (n := 0) rfl rfl rfl)) rfl rfl ?_
  refine Tl_e (JO_e rfl rfl (Je_box (n := 1) rfl rfl rfl)) rfl rfl ?_
  refine Tl_q (JO_q rfl rfl (Jq_assign rfl rfl)) rfl ?_
  refine Tl_end ?_
  refine At_then ?_
  refine Tc_seq ?_
  refine Tc_region ?_
  refine Tl_q (JO_q rfl rfl (Jq_fieldAddr rfl rfl fo27_0 rfl)) rfl ?_
  refine Tl_q (JO_q rfl rfl (Jq_load_agg rfl rfl rfl (by decide) ty25 (by decide) (Nat.le_of_ble_eq_true rfl) rfl)) rfl ?_
  refine Tl_q (JO_q rfl rfl (Jq_fieldAddr rfl rfl fo27_0 rfl)) rfl ?_
  refine Tl_q (JO_q rfl rfl (Jq_load_agg rfl rfl rfl (by decide) ty25 (by decide) (Nat.le_of_ble_eq_true rfl) rfl)) rfl ?_
  refine Tl_e (JO_e rfl rfl (Je_call rfl fn23 rfl (rqsame x0 y0))) rfl rfl ?_
  refine Tl_q (JO_q rfl rfl (Jq_move rfl rfl)) rfl ?_
  refine Tl_two (fun hb10 => ?_) (fun hb10 => ?_)
  · skip
    refine Tl_q (JO_skip rfl rfl rfl) rfl ?_
    refine Tl_q (JO_skip rfl rfl rfl) rfl ?_
    refine Tl_q (JO_skip rfl rfl rfl) rfl ?_
    refine Tl_q (JO_skip rfl rfl rfl) rfl ?_
    refine Tl_q (JO_skip rfl rfl rfl) rfl ?_
    refine Tl_q (JO_q rfl rfl (Jq_pick_f rfl rfl rfl)) rfl ?_
    refine Tl_q (JO_q rfl rfl (Jq_assign rfl rfl)) rfl ?_
    refine Tl_end ?_
    refine At_then ?_
    exact Tc_ret1 (fun _ _ h => h) rfl rfl (by simp [*])
  · skip
    refine Tl_q (JO_qg rfl rfl rfl rfl (Jq_fieldAddr rfl rfl fo27_1 rfl)) rfl ?_
    refine Tl_q (JO_qg rfl rfl rfl rfl (Jq_load_agg rfl rfl rfl (by decide) ty25 (by decide) (Nat.le_of_ble_eq_true rfl) rfl)) rfl ?_
    refine Tl_q (JO_qg rfl rfl rfl rfl (Jq_fieldAddr rfl rfl fo27_1 rfl)) rfl ?_
    refine Tl_q (JO_qg rfl rfl rfl rfl (Jq_load_agg rfl rfl rfl (by decide) ty25 (by decide) (Nat.le_of_ble_eq_true rfl) rfl)) rfl ?_
    refine Tl_e (JO_eg rfl rfl rfl rfl (Je_call rfl fn23 rfl (rqsame x1 y1))) rfl rfl ?_
    refine Tl_q (JO_q rfl rfl (Jq_pick_t rfl rfl rfl)) rfl ?_
    refine Tl_q (JO_q rfl rfl (Jq_assign rfl rfl)) rfl ?_
    refine Tl_end ?_
    refine At_then ?_
    exact Tc_ret1 (fun _ _ h => h) rfl rfl (by simp [*])

end Go.Proofs.YtpabkdpijcbkgaaGreatDoor
