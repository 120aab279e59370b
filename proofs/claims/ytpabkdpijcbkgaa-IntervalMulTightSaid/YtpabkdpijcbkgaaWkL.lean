/- Walks: the helpers of the laws of chapter 6. -/
import Derived.Test.YtpabkdpijcbkgaaWkK
import Derived.Test.YtpabkdpijcbkgaaFacts6
import Derived.Test.YtpabkdpijcbkgaaLaw6
namespace Go.Proofs.Ytpabkdpijcbkgaa
open Go Go.RowKit Rc


set_option maxRecDepth 10000 in
theorem l6of (lo hi : Int) (h1 : -9223372036854775808 ≤ lo) (h2 : lo ≤ 9223372036854775807) (h3 : -9223372036854775808 ≤ hi) (h4 : hi ≤ 9223372036854775807) : Ctr Try.prog 41 [V.one (Leaf.val (.int .i64 lo)), V.one (Leaf.val (.int .i64 hi))] (R.one (iV (qOf (((lo : Int) : Rat))) (qOf (((hi : Int) : Rat))))) := by
  refine Ctr.of_body Try.func41 rfl Try.ntmps41 (Nat.le_of_ble_eq_true rfl) (fun w0 A0 => ?_)
  refine Tc_seq ?_
  refine Tc_region ?_
  refine Tl_e (JO_e rfl rfl (Je_alloc (n := 0) rfl tz27 rfl)) rfl rfl ?_
  refine Tl_end ?_
  refine At_then ?_
  refine Tc_seq ?_
  refine Tc_region ?_
  refine Tl_q (JO_q rfl rfl (Jq_move rfl rfl)) rfl ?_
  refine Tl_e (JO_e rfl rfl (Je_call rfl fn62 rfl (rqof lo (by omega) (by omega)))) rfl rfl ?_
  refine Tl_q (JO_q rfl rfl (Jq_move rfl rfl)) rfl ?_
  refine Tl_e (JO_e rfl rfl (Je_call rfl fn62 rfl (rqof hi (by omega) (by omega)))) rfl rfl ?_
  refine Tl_q (JO_q rfl rfl (Jq_build rfl tz27 rfl pl27 rfl)) rfl ?_
  refine Tl_e (JO_e rfl rfl (Je_store rfl rfl rfl rfl ty27 rfl (by decide) (Nat.le_of_ble_eq_true rfl) rfl)) rfl rfl ?_
  refine Tl_end ?_
  refine At_then ?_
  exact Tc_ret1 (fun _ _ h => h) rfl (⟨_, _, rfl, rfl, .inl ⟨ty27, Nat.le_of_ble_eq_true rfl, rfl⟩⟩) rfl

set_option maxRecDepth 10000 in
theorem l6short (x : Qr) : Ctr Try.prog 27 [qV x] (R.one (V.one (Leaf.val (.bool (sh x))))) := by
  refine Ctr.of_body Try.func27 rfl Try.ntmps27 (Nat.le_of_ble_eq_true rfl) (fun w0 A0 => ?_)
  refine Tc_seq ?_
  refine Tc_region ?_
  refine Tl_e (JO_e rfl rfl (Je_box (n := 0) rfl rfl rfl)) rfl rfl ?_
  refine Tl_q (JO_q rfl rfl (Jq_assign rfl rfl)) rfl ?_
  refine Tl_end ?_
  refine At_then ?_
  refine Tc_seq ?_
  refine Tc_region ?_
  refine Tl_q (JO_q rfl rfl (Jq_fieldAddr rfl rfl fo25_1 rfl)) rfl ?_
  refine Tl_q (JO_q rfl rfl (Jq_load rfl rfl rfl (by decide) ty23 rfl)) rfl ?_
  refine Tl_q (JO_q rfl rfl (Jq_len rfl rfl un23)) rfl ?_
  refine Tl_q (JO_q rfl rfl (Jq_leq rfl rfl rfl (b := _) (rfl))) rfl ?_
  refine Tl_q (JO_q rfl rfl (Jq_move rfl rfl)) rfl ?_
  refine Tl_two (fun hb7 => ?_) (fun hb7 => ?_)
  · skip
    refine Tl_q (JO_skip rfl rfl rfl) rfl ?_
    refine Tl_q (JO_skip rfl rfl rfl) rfl ?_
    refine Tl_q (JO_skip rfl rfl rfl) rfl ?_
    refine Tl_q (JO_skip rfl rfl rfl) rfl ?_
    refine Tl_q (JO_q rfl rfl (Jq_pick_f rfl rfl rfl)) rfl ?_
    refine Tl_q (JO_q rfl rfl (Jq_assign rfl rfl)) rfl ?_
    refine Tl_end ?_
    refine At_then ?_
    exact Tc_ret1 (fun _ _ h => h) rfl rfl (by simp [sh, *])
  · skip
    refine Tl_q (JO_qg rfl rfl rfl rfl (Jq_fieldAddr rfl rfl fo25_2 rfl)) rfl ?_
    refine Tl_q (JO_qg rfl rfl rfl rfl (Jq_load rfl rfl rfl (by decide) ty23 rfl)) rfl ?_
    refine Tl_q (JO_qg rfl rfl rfl rfl (Jq_len rfl rfl un23)) rfl ?_
    refine Tl_q (JO_qg rfl rfl rfl rfl (Jq_leq rfl rfl rfl (b := _) (rfl))) rfl ?_
    refine Tl_q (JO_q rfl rfl (Jq_pick_t rfl rfl rfl)) rfl ?_
    refine Tl_q (JO_q rfl rfl (Jq_assign rfl rfl)) rfl ?_
    refine Tl_end ?_
    refine At_then ?_
    exact Tc_ret1 (fun _ _ h => h) rfl rfl (by simp [sh, *])

set_option maxRecDepth 10000 in
theorem l6small (x0 x1 : Qr) : Ctr Try.prog 10 [iV x0 x1] (R.one (V.one (Leaf.val (.bool (smI x0 x1))))) := by
  refine Ctr.of_body Try.func10 rfl Try.ntmps10 (Nat.le_of_ble_eq_true rfl) (fun w0 A0 => ?_)
  refine Tc_seq ?_
  refine Tc_region ?_
  refine Tl_e (JO_e rfl rfl (Je_box (n := 0) rfl rfl rfl)) rfl rfl ?_
  refine Tl_q (JO_q rfl rfl (Jq_assign rfl rfl)) rfl ?_
  refine Tl_end ?_
  refine At_then ?_
  refine Tc_seq ?_
  refine Tc_region ?_
  refine Tl_q (JO_q rfl rfl (Jq_fieldAddr rfl rfl fo27_0 rfl)) rfl ?_
  refine Tl_q (JO_q rfl rfl (Jq_load_agg rfl rfl rfl (by decide) ty25 (by decide) (Nat.le_of_ble_eq_true rfl) rfl)) rfl ?_
  refine Tl_e (JO_e rfl rfl (Je_call rfl fn27 rfl (l6short x0))) rfl rfl ?_
  refine Tl_q (JO_q rfl rfl (Jq_move rfl rfl)) rfl ?_
  refine Tl_two (fun hb6 => ?_) (fun hb6 => ?_)
  · skip
    refine Tl_q (JO_skip rfl rfl rfl) rfl ?_
    refine Tl_q (JO_skip rfl rfl rfl) rfl ?_
    refine Tl_q (JO_skip rfl rfl rfl) rfl ?_
    refine Tl_q (JO_q rfl rfl (Jq_pick_f rfl rfl rfl)) rfl ?_
    refine Tl_q (JO_q rfl rfl (Jq_move rfl rfl)) rfl ?_
    refine Tl_q (JO_skip rfl rfl rfl) rfl ?_
    refine Tl_q (JO_skip rfl rfl rfl) rfl ?_
    refine Tl_q (JO_q rfl rfl (Jq_pick_f rfl rfl rfl)) rfl ?_
    refine Tl_q (JO_q rfl rfl (Jq_assign rfl rfl)) rfl ?_
    refine Tl_end ?_
    refine At_then ?_
    exact Tc_ret1 (fun _ _ h => h) rfl rfl (by simp [smI, *])
  · skip
    refine Tl_q (JO_qg rfl rfl rfl rfl (Jq_fieldAddr rfl rfl fo27_1 rfl)) rfl ?_
    refine Tl_q (JO_qg rfl rfl rfl rfl (Jq_load_agg rfl rfl rfl (by decide) ty25 (by decide) (Nat.le_of_ble_eq_true rfl) rfl)) rfl ?_
    refine Tl_e (JO_eg rfl rfl rfl rfl (Je_call rfl fn27 rfl (l6short x1))) rfl rfl ?_
    refine Tl_q (JO_q rfl rfl (Jq_pick_t rfl rfl rfl)) rfl ?_
    refine Tl_q (JO_q rfl rfl (Jq_move rfl rfl)) rfl ?_
    refine Tl_two (fun hb11 => ?_) (fun hb11 => ?_)
    · skip
      refine Tl_q (JO_skip rfl rfl rfl) rfl ?_
      refine Tl_q (JO_skip rfl rfl rfl) rfl ?_
      refine Tl_q (JO_q rfl rfl (Jq_pick_f rfl rfl rfl)) rfl ?_
      refine Tl_q (JO_q rfl rfl (Jq_assign rfl rfl)) rfl ?_
      refine Tl_end ?_
      refine At_then ?_
      exact Tc_ret1 (fun _ _ h => h) rfl rfl (by simp [smI, *])
    · skip
      have hfx0 : Fit 2 x0 := sh_fit hb6
      have hfx1 : Fit 2 x1 := sh_fit hb11
      refine Tl_q (JO_qg rfl rfl rfl rfl (Jq_load_agg rfl rfl rfl (by decide) ty27 (by decide) (Nat.le_of_ble_eq_true rfl) rfl)) rfl ?_
      refine Tl_e (JO_eg rfl rfl rfl rfl (Je_call rfl fn31 rfl (rivalid x0 (x0.q) rfl (hfx0.mono (by omega)) x1 (x1.q) rfl (hfx1.mono (by omega))))) rfl rfl ?_
      refine Tl_q (JO_q rfl rfl (Jq_pick_t rfl rfl rfl)) rfl ?_
      refine Tl_q (JO_q rfl rfl (Jq_assign rfl rfl)) rfl ?_
      refine Tl_end ?_
      refine At_then ?_
      exact Tc_ret1 (fun _ _ h => h) rfl rfl (by simp [smI, *])

set_option maxRecDepth 10000 in
theorem l6at (x0 : Qr) (r0 : Rat) (hr0 : x0.q = r0) (hfx0 : Fit 100000000000 x0) (x1 : Qr) (r1 : Rat) (hr1 : x1.q = r1) (hfx1 : Fit 100000000000 x1) (n : Nat) (hn : n < 256) : Ctr Try.prog 16 [iV x0 x1, V.one (Leaf.val (.int .u8 n))] (R.one (qV (qOf (atp n r0 r1)))) := by
  refine Ctr.of_body Try.func16 rfl Try.ntmps16 (Nat.le_of_ble_eq_true rfl) (fun w0 A0 => ?_)
  haveI ir0 : Br r0 100000000000 := Br.fitq hr0 hfx0
  haveI ir1 : Br r1 100000000000 := Br.fitq hr1 hfx1
  refine Tc_seq ?_
  refine Tc_region ?_
  refine Tl_e (JO_e rfl rfl (Je_box (n := 0) rfl rfl rfl)) rfl rfl ?_
  refine Tl_e (JO_e rfl rfl (Je_alloc (n := 1) rfl tz25 rfl)) rfl rfl ?_
  refine Tl_end ?_
  refine At_then ?_
  refine Tc_seq ?_
  refine Tc_region ?_
  refine Tl_q (JO_q rfl rfl (Jq_move rfl rfl)) rfl ?_
  refine Tl_q (JO_q rfl rfl (Jq_convert rfl rfl un3 us5 (r := ((n % 256 : Nat) : Int)) (w64 (by omega) (by omega) (by omega)))) rfl ?_
  refine Tl_e (JO_e rfl rfl (Je_call rfl fn45 rfl (rqfrac ((n % 256 : Nat) : Int) 255 (by omega) (by omega) (by decide) (by decide) (by decide)))) rfl rfl ?_
  refine Tl_q (JO_q rfl rfl (Jq_move rfl rfl)) rfl ?_
  refine Tl_q (JO_q rfl rfl (Jq_extract rfl rfl rfl)) rfl ?_
  refine Tl_q (JO_q rfl rfl (Jq_extract rfl rfl rfl)) rfl ?_
  refine Tl_e (JO_e rfl rfl (Je_alloc (n := 2) rfl tz25 rfl)) rfl rfl ?_
  refine Tl_e (JO_e rfl rfl (Je_store rfl rfl rfl rfl ty25 rfl (by decide) (Nat.le_of_ble_eq_true rfl) rfl)) rfl rfl ?_
  refine Tl_q (JO_q rfl rfl (Jq_assign rfl rfl)) rfl ?_
  refine Tl_end ?_
  refine At_then ?_
  refine Tc_seq ?_
  refine Tc_drawK 0 [none, none, none, none, none, none, none, none, none, none, some 1] [1] follows (by kernel_rfl) ?_
  refine DK_q (JO_q rfl rfl (Jq_fieldAddr rfl rfl fo27_0 rfl)) ?_
  refine DK_q (JO_q rfl rfl (Jq_load_agg rfl rfl rfl (by decide) ty25 (by decide) (Nat.le_of_ble_eq_true rfl) rfl)) ?_
  refine DK_q (JO_q rfl rfl (Jq_load_agg rfl rfl rfl (by decide) ty25 (by decide) (Nat.le_of_ble_eq_true rfl) rfl)) ?_
  refine DK_q (JO_q rfl rfl (Jq_fieldAddr rfl rfl fo27_1 rfl)) ?_
  refine DK_q (JO_q rfl rfl (Jq_load_agg rfl rfl rfl (by decide) ty25 (by decide) (Nat.le_of_ble_eq_true rfl) rfl)) ?_
  refine DK_q (JO_q rfl rfl (Jq_fieldAddr rfl rfl fo27_0 rfl)) ?_
  refine DK_q (JO_q rfl rfl (Jq_load_agg rfl rfl rfl (by decide) ty25 (by decide) (Nat.le_of_ble_eq_true rfl) rfl)) ?_
  refine DK_c rfl rfl (Jd_call rfl fn46 rfl (rqsub x1 (r1) hr1 (hfx1.mono (by omega)) x0 (r0) hr0 (hfx0.mono (by omega)))) ?_
  refine DK_c rfl rfl (Jd_call rfl fn18 rfl (rqmul (qOf (((((n % 256 : Nat) : Int) : Int) : Rat) / ((255 : Int) : Rat))) (((((n % 256 : Nat) : Int) : Int) : Rat) / ((255 : Int) : Rat)) (qOf_q _) (Br.use (by omega)) (qOf ((r1) - (r0))) ((r1) - (r0)) (qOf_q _) (Br.use (by omega)))) ?_
  refine DK_c rfl rfl (Jd_call rfl fn39 rfl (rqadd x0 (r0) hr0 (hfx0.mono (by omega)) (qOf ((((((n % 256 : Nat) : Int) : Int) : Rat) / ((255 : Int) : Rat)) * ((r1) - (r0)))) ((((((n % 256 : Nat) : Int) : Int) : Rat) / ((255 : Int) : Rat)) * ((r1) - (r0))) (qOf_q _) (Br.use (by omega)))) ?_
  refine DK_s 1 rfl rfl rfl (Jd_store rfl rfl rfl rfl ty25 rfl (by decide) (Nat.le_of_ble_eq_true rfl) rfl) ?_
  refine DK_nil ?_
  refine At_then ?_
  exact Tc_ret1 (fun _ _ h => h) rfl (⟨_, _, rfl, rfl, .inl ⟨ty25, Nat.le_of_ble_eq_true rfl, rfl⟩⟩) rfl

set_option maxRecDepth 10000 in
theorem l6awake  : Ctr Try.prog 9 [] (R.one (V.one (Leaf.val (.bool (true))))) := by
  refine Ctr.of_body Try.func9 rfl Try.ntmps9 (Nat.le_of_ble_eq_true rfl) (fun w0 A0 => ?_)
  haveI : Br (((-6) : Int) : Rat) 1 := Br.int (by decide)
  haveI : Br (((-5) : Int) : Rat) 1 := Br.int (by decide)
  haveI : Br (((-4) : Int) : Rat) 1 := Br.int (by decide)
  haveI : Br (((-3) : Int) : Rat) 1 := Br.int (by decide)
  haveI : Br (((-2) : Int) : Rat) 1 := Br.int (by decide)
  haveI : Br (((-1) : Int) : Rat) 1 := Br.int (by decide)
  haveI : Br ((0 : Int) : Rat) 1 := Br.int (by decide)
  haveI : Br ((1 : Int) : Rat) 1 := Br.int (by decide)
  haveI : Br ((2 : Int) : Rat) 1 := Br.int (by decide)
  haveI : Br ((3 : Int) : Rat) 1 := Br.int (by decide)
  refine Tc_seq ?_
  refine Tc_region ?_
  refine Tl_q (JO_q rfl rfl (Jq_assign rfl rfl)) rfl ?_
  refine Tl_end ?_
  refine At_then ?_
  refine Tc_seq ?_
  refine Tc_region ?_
  refine Tl_e (JO_e rfl rfl (Je_call rfl fn41 rfl (l6of 0 1 (by decide) (by decide) (by decide) (by decide)))) rfl rfl ?_
  refine Tl_e (JO_e rfl rfl (Je_call rfl fn41 rfl (l6of 1 2 (by decide) (by decide) (by decide) (by decide)))) rfl rfl ?_
  refine Tl_e (JO_e rfl rfl (Je_call rfl fn22 rfl (imeet_ok (qOf (((0 : Int) : Rat))) (((0 : Int) : Rat)) (qOf_q _) (Br.use (by omega)) (qOf (((1 : Int) : Rat))) (((1 : Int) : Rat)) (qOf_q _) (Br.use (by omega)) (qOf (((1 : Int) : Rat))) (((1 : Int) : Rat)) (qOf_q _) (Br.use (by omega)) (qOf (((2 : Int) : Rat))) (((2 : Int) : Rat)) (qOf_q _) (Br.use (by omega)) (by decide +kernel)))) rfl rfl ?_
  refine Tl_q (JO_q rfl rfl (Jq_move rfl rfl)) rfl ?_
  refine Tl_q (JO_q rfl rfl (Jq_extract rfl rfl rfl)) rfl ?_
  refine Tl_q (JO_q rfl rfl (Jq_extract rfl rfl rfl)) rfl ?_
  refine Tl_e (JO_e rfl rfl (Je_alloc (n := 0) rfl tz27 rfl)) rfl rfl ?_
  refine Tl_e (JO_e rfl rfl (Je_store rfl rfl rfl rfl ty27 rfl (by decide) (Nat.le_of_ble_eq_true rfl) rfl)) rfl rfl ?_
  refine Tl_q (JO_q rfl rfl (Jq_assign rfl rfl)) rfl ?_
  refine Tl_end ?_
  refine At_then ?_
  refine Tc_seq ?_
  refine Tc_region ?_
  refine Tl_e (JO_e rfl rfl (Je_call rfl fn41 rfl (l6of 0 1 (by decide) (by decide) (by decide) (by decide)))) rfl rfl ?_
  refine Tl_e (JO_e rfl rfl (Je_call rfl fn41 rfl (l6of 2 3 (by decide) (by decide) (by decide) (by decide)))) rfl rfl ?_
  refine Tl_e (JO_e rfl rfl (Je_call rfl fn22 rfl (imeet_bad (qOf (((0 : Int) : Rat))) (((0 : Int) : Rat)) (qOf_q _) (Br.use (by omega)) (qOf (((1 : Int) : Rat))) (((1 : Int) : Rat)) (qOf_q _) (Br.use (by omega)) (qOf (((2 : Int) : Rat))) (((2 : Int) : Rat)) (qOf_q _) (Br.use (by omega)) (qOf (((3 : Int) : Rat))) (((3 : Int) : Rat)) (qOf_q _) (Br.use (by omega)) (by decide +kernel)))) rfl rfl ?_
  refine Tl_q (JO_q rfl rfl (Jq_move rfl rfl)) rfl ?_
  refine Tl_q (JO_q rfl rfl (Jq_extract rfl rfl rfl)) rfl ?_
  refine Tl_q (JO_q rfl rfl (Jq_extract rfl rfl rfl)) rfl ?_
  refine Tl_e (JO_e rfl rfl (Je_alloc (n := 1) rfl tz27 rfl)) rfl rfl ?_
  refine Tl_e (JO_e rfl rfl (Je_store rfl rfl rfl rfl ty27 rfl (by decide) (Nat.le_of_ble_eq_true rfl) rfl)) rfl rfl ?_
  refine Tl_q (JO_q rfl rfl (Jq_assign rfl rfl)) rfl ?_
  refine Tl_end ?_
  refine At_then ?_
  refine Tc_seq ?_
  refine Tc_drawK 0 [none, none, none, none, none, none, none, none, none, none, none, none, none, none, none, none, none, none, none, none, none, none, none, none, none, none, none, none, none, none, none, none, none, none, none, none] [] follows (by kernel_rfl) ?_
  refine DK_q (JO_q rfl rfl (Jq_move rfl rfl)) ?_
  refine DK_q (JO_q rfl rfl (Jq_eql rfl rfl rfl (b := true) (rfl))) ?_
  refine DK_q (JO_q rfl rfl (Jq_move rfl rfl)) ?_
  refine DK_q (JO_qg rfl rfl rfl rfl (Jq_move rfl rfl)) ?_
  refine DK_q (JO_qg rfl rfl rfl rfl (Jq_eql rfl rfl rfl (b := true) (rfl))) ?_
  refine DK_q (JO_q rfl rfl (Jq_pick_t rfl rfl rfl)) ?_
  refine DK_q (JO_q rfl rfl (Jq_move rfl rfl)) ?_
  refine DK_q (JO_qg rfl rfl rfl rfl (Jq_load_agg rfl rfl rfl (by decide) ty27 (by decide) (Nat.le_of_ble_eq_true rfl) rfl)) ?_
  refine DK_cg rfl rfl rfl rfl (Jd_call rfl fn41 rfl (l6of 1 1 (by decide) (by decide) (by decide) (by decide))) ?_
  refine DK_cg rfl rfl rfl rfl (Jd_call rfl fn13 rfl (risame (qOf (mx ((0 : Int) : Rat) ((1 : Int) : Rat))) (qOf (mn ((1 : Int) : Rat) ((2 : Int) : Rat))) (qOf (((1 : Int) : Rat))) (qOf (((1 : Int) : Rat))))) ?_
  refine DK_is true (sm (by decide +kernel) (by decide +kernel)) ?_
  refine DK_q (JO_q rfl rfl (Jq_pick_t rfl rfl rfl)) ?_
  refine DK_q (JO_q rfl rfl (Jq_move rfl rfl)) ?_
  refine DK_cg rfl rfl rfl rfl (Jd_call rfl fn41 rfl (l6of 1 2 (by decide) (by decide) (by decide) (by decide))) ?_
  refine DK_cg rfl rfl rfl rfl (Jd_call rfl fn41 rfl (l6of (-3) 1 (by decide) (by decide) (by decide) (by decide))) ?_
  refine DK_cg rfl rfl rfl rfl (Jd_call rfl fn11 rfl (imul (qOf (((1 : Int) : Rat))) (((1 : Int) : Rat)) (qOf_q _) (Br.use (by omega)) (qOf (((2 : Int) : Rat))) (((2 : Int) : Rat)) (qOf_q _) (Br.use (by omega)) (qOf ((((-3) : Int) : Rat))) ((((-3) : Int) : Rat)) (qOf_q _) (Br.use (by omega)) (qOf (((1 : Int) : Rat))) (((1 : Int) : Rat)) (qOf_q _) (Br.use (by omega)))) ?_
  refine DK_cg rfl rfl rfl rfl (Jd_call rfl fn41 rfl (l6of (-6) 2 (by decide) (by decide) (by decide) (by decide))) ?_
  refine DK_cg rfl rfl rfl rfl (Jd_call rfl fn13 rfl (risame (qOf (mn (mn (mn (((1 : Int) : Rat) * (((-3) : Int) : Rat)) (((1 : Int) : Rat) * ((1 : Int) : Rat))) (((2 : Int) : Rat) * (((-3) : Int) : Rat))) (((2 : Int) : Rat) * ((1 : Int) : Rat)))) (qOf (mx (mx (mx (((1 : Int) : Rat) * (((-3) : Int) : Rat)) (((1 : Int) : Rat) * ((1 : Int) : Rat))) (((2 : Int) : Rat) * (((-3) : Int) : Rat))) (((2 : Int) : Rat) * ((1 : Int) : Rat)))) (qOf ((((-6) : Int) : Rat))) (qOf (((2 : Int) : Rat))))) ?_
  refine DK_is true (sm (by decide +kernel) (by decide +kernel)) ?_
  refine DK_q (JO_q rfl rfl (Jq_pick_t rfl rfl rfl)) ?_
  refine DK_q (JO_q rfl rfl (Jq_move rfl rfl)) ?_
  refine DK_cg rfl rfl rfl rfl (Jd_call rfl fn41 rfl (l6of (-1) 2 (by decide) (by decide) (by decide) (by decide))) ?_
  refine DK_cg rfl rfl rfl rfl (Jd_call rfl fn12 rfl (irelu (qOf ((((-1) : Int) : Rat))) ((((-1) : Int) : Rat)) (qOf_q _) (Br.use (by omega)) (qOf (((2 : Int) : Rat))) (((2 : Int) : Rat)) (qOf_q _) (Br.use (by omega)))) ?_
  refine DK_cg rfl rfl rfl rfl (Jd_call rfl fn41 rfl (l6of 0 2 (by decide) (by decide) (by decide) (by decide))) ?_
  refine DK_cg rfl rfl rfl rfl (Jd_call rfl fn13 rfl (risame (qOf (mx 0 (((-1) : Int) : Rat))) (qOf (mx 0 ((2 : Int) : Rat))) (qOf (((0 : Int) : Rat))) (qOf (((2 : Int) : Rat))))) ?_
  refine DK_is true (sm (by decide +kernel) (by decide +kernel)) ?_
  refine DK_q (JO_q rfl rfl (Jq_pick_t rfl rfl rfl)) ?_
  refine DK_q (JO_q rfl rfl (Jq_move rfl rfl)) ?_
  refine DK_cg rfl rfl rfl rfl (Jd_call rfl fn41 rfl (l6of 0 1 (by decide) (by decide) (by decide) (by decide))) ?_
  refine DK_q (JO_qg rfl rfl rfl rfl (Jq_build rfl tz25 rfl pl25 rfl)) ?_
  refine DK_cg rfl rfl rfl rfl (Jd_call rfl fn17 rfl (icontains (qOf (((0 : Int) : Rat))) (((0 : Int) : Rat)) (qOf_q _) (Br.use (by omega)) (qOf (((1 : Int) : Rat))) (((1 : Int) : Rat)) (qOf_q _) (Br.use (by omega)) qZero (0) qZero_q qZero_fit)) ?_
  refine DK_is true (ct (by decide +kernel) (by decide +kernel)) ?_
  refine DK_q (JO_q rfl rfl (Jq_pick_t rfl rfl rfl)) ?_
  refine DK_q (JO_q rfl rfl (Jq_move rfl rfl)) ?_
  refine DK_cg rfl rfl rfl rfl (Jd_call rfl fn41 rfl (l6of 1 2 (by decide) (by decide) (by decide) (by decide))) ?_
  refine DK_q (JO_qg rfl rfl rfl rfl (Jq_build rfl tz25 rfl pl25 rfl)) ?_
  refine DK_cg rfl rfl rfl rfl (Jd_call rfl fn17 rfl (icontains (qOf (((1 : Int) : Rat))) (((1 : Int) : Rat)) (qOf_q _) (Br.use (by omega)) (qOf (((2 : Int) : Rat))) (((2 : Int) : Rat)) (qOf_q _) (Br.use (by omega)) qZero (0) qZero_q qZero_fit)) ?_
  refine DK_is false (ct_ne (by decide +kernel)) ?_
  refine DK_q (JO_qg rfl rfl rfl rfl (Jq_not rfl rfl (c := true) rfl)) ?_
  refine DK_q (JO_q rfl rfl (Jq_pick_t rfl rfl rfl)) ?_
  refine DK_q (JO_q rfl rfl (Jq_assign rfl rfl)) ?_
  refine DK_nil ?_
  refine At_then ?_
  exact Tc_ret1 (fun _ _ h => h) rfl rfl rfl

end Go.Proofs.Ytpabkdpijcbkgaa
