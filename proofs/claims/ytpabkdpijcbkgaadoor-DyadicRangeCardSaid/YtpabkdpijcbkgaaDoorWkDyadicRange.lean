/- Walk: a law of chapter 5. -/
import Derived.Test.YtpabkdpijcbkgaaDoorWkP
import Derived.Test.YtpabkdpijcbkgaaDoorLaw5
import Derived.Test.YtpabkdpijcbkgaaDoorFactsB
set_option linter.unusedSimpArgs false
set_option linter.unusedVariables false
namespace Go.Proofs.YtpabkdpijcbkgaaDoor
open Go Go.RowKit Rc


theorem zero_of {a : Dy} (hx : nrm a.neg a.mag a.exp = a) (h : a.mag = 0) : a = Dy.zero := by rw [← hx, h, nrm_zero]
theorem add_zero_self : addD Dy.zero Dy.zero = Dy.zero ∧ addOk Dy.zero Dy.zero = true := by
  have h : addZ Dy.zero Dy.zero = 0 := by decide
  unfold addD addOk; rw [h]; exact ⟨rfl, rfl⟩
theorem add_self {a : Dy} (h : a.mag ≠ 0) : wexp a a = a.exp ∧ addZ a a = sgn a.neg a.mag + sgn a.neg (a.mag * 2 ^ (0 : Int).toNat * 2 ^ (0 : Int).toNat) := by
  have hw : wexp a a = a.exp := by unfold wexp; rw [if_neg h, if_neg h]; omega
  refine ⟨hw, ?_⟩
  unfold addZ wint; rw [hw, Int.sub_self]; simp

set_option maxRecDepth 10000 in
theorem rdadd (a : Dy) (ha : Dfit 1000000 a) (hx : nrm a.neg a.mag a.exp = a) : Ctr Tryd.prog 40 [dV a, dV a] (R.tup [dV (addD a a), V.one (Leaf.val (.int .i64 (eOf (addOk a a))))]) := by
  refine Ctr.of_body Tryd.func40 rfl Tryd.ntmps40 (Nat.le_of_ble_eq_true rfl) (fun w0 A0 => ?_)
  haveI ia : Bd a 1000000 := ⟨ha⟩
  have h1 := ha.lo; have h2 := ha.hi
  refine Tc_seq ?_
  refine Tc_region ?_
  refine Tl_e (JO_e rfl rfl (Je_box (n := 0) rfl rfl rfl)) rfl rfl ?_
  refine Tl_e (JO_e rfl rfl (Je_box (n := 1) rfl rfl rfl)) rfl rfl ?_
  refine Tl_e (JO_e rfl rfl (Je_alloc (n := 2) rfl tz29 rfl)) rfl rfl ?_
  refine Tl_q (JO_q rfl rfl (Jq_assign rfl rfl)) rfl ?_
  refine Tl_end ?_
  refine At_then ?_
  refine Tc_seq ?_
  refine Tc_seq ?_
  refine Tc_region ?_
  refine Tl_q (JO_q rfl rfl (Jq_fieldAddr rfl rfl fo29_1 rfl)) rfl ?_
  refine Tl_q (JO_q rfl rfl (Jq_load rfl rfl rfl (by decide) ty23 rfl)) rfl ?_
  refine Tl_q (JO_q rfl rfl (Jq_len rfl rfl un23)) rfl ?_
  by_cases hz : a.mag = 0
  · skip
    refine Tl_q (JO_q rfl rfl (Jq_eql rfl rfl rfl (b := true) (eT (by rw [hz, limbs_zero]; rfl)))) rfl ?_
    refine Tl_end ?_
    refine At_then ?_
    refine Tc_t rfl ?_
    refine Tc_seq ?_
    refine Tc_region ?_
    refine Tl_q (JO_q rfl rfl (Jq_load_agg rfl rfl rfl (by decide) ty29 (by decide) (Nat.le_of_ble_eq_true rfl) rfl)) rfl ?_
    refine Tl_e (JO_e rfl rfl (Je_store rfl rfl rfl rfl ty29 rfl (by decide) (Nat.le_of_ble_eq_true rfl) rfl)) rfl rfl ?_
    refine Tl_q (JO_q rfl rfl (Jq_assign rfl rfl)) rfl ?_
    refine Tl_end ?_
    refine At_then ?_
    exact Tc_ret2 (fun _ _ h => h) rfl (⟨_, _, rfl, rfl, .inl ⟨ty29, Nat.le_of_ble_eq_true rfl, rfl⟩⟩) rfl (by obtain rfl := zero_of hx hz; rw [add_zero_self.1, add_zero_self.2] <;> rfl)
  · skip
    refine Tl_q (JO_q rfl rfl (Jq_eql rfl rfl rfl (b := false) (eF (by have := limbs_len_pos.2 hz; omega)))) rfl ?_
    refine Tl_end ?_
    refine At_then ?_
    refine Tc_f rfl ?_
    refine Tc_skipA ?_
    refine At_then ?_
    refine Tc_seq ?_
    refine Tc_seq ?_
    refine Tc_region ?_
    refine Tl_q (JO_q rfl rfl (Jq_fieldAddr rfl rfl fo29_1 rfl)) rfl ?_
    refine Tl_q (JO_q rfl rfl (Jq_load rfl rfl rfl (by decide) ty23 rfl)) rfl ?_
    refine Tl_q (JO_q rfl rfl (Jq_len rfl rfl un23)) rfl ?_
    refine Tl_q (JO_q rfl rfl (Jq_eql rfl rfl rfl (b := false) (eF (by have := limbs_len_pos.2 hz; omega)))) rfl ?_
    refine Tl_end ?_
    refine At_then ?_
    refine Tc_f rfl ?_
    refine Tc_skipA ?_
    refine At_then ?_
    refine Tc_seq ?_
    refine Tc_seq ?_
    refine Tc_region ?_
    refine Tl_q (JO_q rfl rfl (Jq_fieldAddr rfl rfl fo29_2 rfl)) rfl ?_
    refine Tl_q (JO_q rfl rfl (Jq_load rfl rfl rfl (by decide) ty3 rfl)) rfl ?_
    refine Tl_q (JO_q rfl rfl (Jq_fieldAddr rfl rfl fo29_2 rfl)) rfl ?_
    refine Tl_q (JO_q rfl rfl (Jq_load rfl rfl rfl (by decide) ty3 rfl)) rfl ?_
    refine Tl_q (JO_q rfl rfl (Jq_gtr rfl rfl rfl (b := false) (dF (by omega)))) rfl ?_
    refine Tl_end ?_
    refine At_then ?_
    refine Tc_f rfl ?_
    refine Tc_skipA ?_
    refine At_then ?_
    refine Tc_seq ?_
    refine Tc_region ?_
    refine Tl_q (JO_q rfl rfl (Jq_fieldAddr rfl rfl fo29_2 rfl)) rfl ?_
    refine Tl_q (JO_q rfl rfl (Jq_load rfl rfl rfl (by decide) ty3 rfl)) rfl ?_
    refine Tl_q (JO_q rfl rfl (Jq_fieldAddr rfl rfl fo29_2 rfl)) rfl ?_
    refine Tl_q (JO_q rfl rfl (Jq_load rfl rfl rfl (by decide) ty3 rfl)) rfl ?_
    refine Tl_q (JO_q rfl rfl (Jq_sub rfl rfl rfl (r := 0) (w64 (by omega) (by omega) (by omega)))) rfl ?_
    refine Tl_q (JO_q rfl rfl (Jq_assign rfl rfl)) rfl ?_
    refine Tl_end ?_
    refine At_then ?_
    refine Tc_seq ?_
    haveI j1 : Bn (a.mag * 2 ^ (0 : Int).toNat) (1000000 + 1) := Bn.shift 1 inferInstance (by decide)
    haveI j2 : Bn (a.mag * 2 ^ (0 : Int).toNat * 2 ^ (0 : Int).toNat) (1000000 + 1 + 1) := Bn.shift 1 j1 (by decide)
    refine Tc_region ?_
    refine Tl_q (JO_q rfl rfl (Jq_fieldAddr rfl rfl fo29_1 rfl)) rfl ?_
    refine Tl_q (JO_q rfl rfl (Jq_load rfl rfl rfl (by decide) ty23 rfl)) rfl ?_
    refine Tl_q (JO_q rfl rfl (Jq_move rfl rfl)) rfl ?_
    refine Tl_q (JO_q rfl rfl (Jq_min rfl rfl rfl (r := 0) (by split <;> omega))) rfl ?_
    refine Tl_e (JO_e rfl rfl (Je_call rfl fn25 rfl (rShlZ (limbs a.mag) 0 (by decide) (by decide) (small_limbs _) (Bn.use (by omega)) a.mag (val_limbs _)))) rfl rfl ?_
    refine Tl_q (JO_q rfl rfl (Jq_move rfl rfl)) rfl ?_
    refine Tl_q (JO_q rfl rfl (Jq_extract rfl rfl rfl)) rfl ?_
    refine Tl_q (JO_q rfl rfl (Jq_extract rfl rfl rfl)) rfl ?_
    refine Tl_q (JO_q rfl rfl (Jq_assign rfl rfl)) rfl ?_
    refine Tl_q (JO_q rfl rfl (Jq_assign rfl rfl)) rfl ?_
    refine Tl_end ?_
    refine At_then ?_
    refine Tc_seq ?_
    refine Tc_region ?_
    refine Tl_q (JO_q rfl rfl (Jq_move rfl rfl)) rfl ?_
    refine Tl_q (JO_q rfl rfl (Jq_move rfl rfl)) rfl ?_
    refine Tl_q (JO_q rfl rfl (Jq_sub rfl rfl rfl (r := -1048576) (w64 (by omega) (by omega) (by omega)))) rfl ?_
    refine Tl_q (JO_q rfl rfl (Jq_max rfl rfl rfl (r := 0) (by split <;> omega))) rfl ?_
    refine Tl_e (JO_e rfl rfl (Je_call rfl fn25 rfl (rShlZ (limbs (a.mag * 2 ^ (0 : Int).toNat)) 0 (by decide) (by decide) (small_limbs _) (Bn.use (by omega)) (a.mag * 2 ^ (0 : Int).toNat) (val_limbs _)))) rfl rfl ?_
    refine Tl_q (JO_q rfl rfl (Jq_move rfl rfl)) rfl ?_
    refine Tl_q (JO_q rfl rfl (Jq_extract rfl rfl rfl)) rfl ?_
    refine Tl_q (JO_q rfl rfl (Jq_extract rfl rfl rfl)) rfl ?_
    refine Tl_q (JO_q rfl rfl (Jq_assign rfl rfl)) rfl ?_
    refine Tl_end ?_
    refine At_then ?_
    refine Tc_seq ?_
    refine Tc_region ?_
    refine Tl_q (JO_q rfl rfl (Jq_fieldAddr rfl rfl fo29_0 rfl)) rfl ?_
    refine Tl_q (JO_q rfl rfl (Jq_load rfl rfl rfl (by decide) ty4 rfl)) rfl ?_
    refine Tl_q (JO_q rfl rfl (Jq_fieldAddr rfl rfl fo29_1 rfl)) rfl ?_
    refine Tl_q (JO_q rfl rfl (Jq_load rfl rfl rfl (by decide) ty23 rfl)) rfl ?_
    refine Tl_q (JO_q rfl rfl (Jq_build rfl tz65 rfl pl65 rfl)) rfl ?_
    refine Tl_q (JO_q rfl rfl (Jq_fieldAddr rfl rfl fo29_0 rfl)) rfl ?_
    refine Tl_q (JO_q rfl rfl (Jq_load rfl rfl rfl (by decide) ty4 rfl)) rfl ?_
    refine Tl_q (JO_q rfl rfl (Jq_move rfl rfl)) rfl ?_
    refine Tl_q (JO_q rfl rfl (Jq_build rfl tz65 rfl pl65 rfl)) rfl ?_
    refine Tl_e (JO_e rfl rfl (Je_call rfl fn69 rfl (rzadd (Zr.mk a.neg (limbs (a.mag)) (small_limbs _)) (sgn a.neg (a.mag)) (zr_eq (val_limbs _)) (Bn.use (by omega)) (Zr.mk a.neg (limbs (a.mag * 2 ^ (0 : Int).toNat * 2 ^ (0 : Int).toNat)) (small_limbs _)) (sgn a.neg (a.mag * 2 ^ (0 : Int).toNat * 2 ^ (0 : Int).toNat)) (zr_eq (val_limbs _)) (Bn.use (by omega))))) rfl rfl ?_
    refine Tl_e (JO_e rfl rfl (Je_alloc (n := 3) rfl tz65 rfl)) rfl rfl ?_
    refine Tl_e (JO_e rfl rfl (Je_store rfl rfl rfl rfl ty65 rfl (by decide) (Nat.le_of_ble_eq_true rfl) rfl)) rfl rfl ?_
    refine Tl_end ?_
    refine At_then ?_
    refine Tc_seq ?_
    refine Tc_region ?_
    refine Tl_q (JO_q rfl rfl (Jq_fieldAddr rfl rfl fo65_0 rfl)) rfl ?_
    refine Tl_q (JO_q rfl rfl (Jq_load rfl rfl rfl (by decide) ty4 rfl)) rfl ?_
    refine Tl_q (JO_q rfl rfl (Jq_fieldAddr rfl rfl fo65_1 rfl)) rfl ?_
    refine Tl_q (JO_q rfl rfl (Jq_load rfl rfl rfl (by decide) ty23 rfl)) rfl ?_
    refine Tl_q (JO_q rfl rfl (Jq_fieldAddr rfl rfl fo29_2 rfl)) rfl ?_
    refine Tl_q (JO_q rfl rfl (Jq_load rfl rfl rfl (by decide) ty3 rfl)) rfl ?_
    refine Tl_e (JO_e rfl rfl (Je_call rfl fn49 rfl (dcanon (decide ((sgn a.neg (a.mag)) + (sgn a.neg (a.mag * 2 ^ (0 : Int).toNat * 2 ^ (0 : Int).toNat)) < 0)) (limbs (Int.natAbs ((sgn a.neg (a.mag)) + (sgn a.neg (a.mag * 2 ^ (0 : Int).toNat * 2 ^ (0 : Int).toNat))))) a.exp (small_limbs _) (Bz.use (z := (sgn a.neg (a.mag)) + (sgn a.neg (a.mag * 2 ^ (0 : Int).toNat * 2 ^ (0 : Int).toNat))) (by omega)) (by omega) (by omega) (Int.natAbs ((sgn a.neg (a.mag)) + (sgn a.neg (a.mag * 2 ^ (0 : Int).toNat * 2 ^ (0 : Int).toNat)))) (val_limbs _)))) rfl rfl ?_
    refine Tl_q (JO_q rfl rfl (Jq_move rfl rfl)) rfl ?_
    refine Tl_q (JO_q rfl rfl (Jq_extract rfl rfl rfl)) rfl ?_
    refine Tl_q (JO_q rfl rfl (Jq_extract rfl rfl rfl)) rfl ?_
    refine Tl_e (JO_e rfl rfl (Je_alloc (n := 4) rfl tz29 rfl)) rfl rfl ?_
    refine Tl_e (JO_e rfl rfl (Je_store rfl rfl rfl rfl ty29 rfl (by decide) (Nat.le_of_ble_eq_true rfl) rfl)) rfl rfl ?_
    refine Tl_q (JO_q rfl rfl (Jq_assign rfl rfl)) rfl ?_
    refine Tl_end ?_
    refine At_then ?_
    refine Tc_seq ?_
    refine Tc_seq ?_
    refine Tc_region ?_
    refine Tl_q (JO_q rfl rfl (Jq_move rfl rfl)) rfl ?_
    refine Tl_q (JO_q rfl rfl (Jq_not rfl rfl (c := _) rfl)) rfl ?_
    refine Tl_end ?_
    refine At_then ?_
    refine Tc_cond rfl (fun hc71 => ?_) (fun hc71 => ?_)
    · skip
      refine Tc_seq ?_
      refine Tc_region ?_
      refine Tl_q (JO_q rfl rfl (Jq_build rfl tz29 rfl pl29 rfl)) rfl ?_
      refine Tl_e (JO_e rfl rfl (Je_store rfl rfl rfl rfl ty29 rfl (by decide) (Nat.le_of_ble_eq_true rfl) rfl)) rfl rfl ?_
      refine Tl_q (JO_q rfl rfl (Jq_assign rfl rfl)) rfl ?_
      refine Tl_end ?_
      refine At_then ?_
      exact Tc_ret2 (fun _ _ h => h) rfl (⟨_, _, rfl, rfl, .inl ⟨ty29, Nat.le_of_ble_eq_true rfl, rfl⟩⟩) rfl (by have hs := add_self hz; unfold addD addOk; rw [hs.1, hs.2]; have h : nok ((sgn a.neg (a.mag) + sgn a.neg (a.mag * 2 ^ (0 : Int).toNat * 2 ^ (0 : Int).toNat))).natAbs a.exp = false := (by simpa using hc71); rw [h, nrm_no h, dV_zero] <;> rfl)
    · skip
      refine Tc_skipA ?_
      refine At_then ?_
      refine Tc_seq ?_
      refine Tc_region ?_
      refine Tl_q (JO_q rfl rfl (Jq_load_agg rfl rfl rfl (by decide) ty29 (by decide) (Nat.le_of_ble_eq_true rfl) rfl)) rfl ?_
      refine Tl_e (JO_e rfl rfl (Je_store rfl rfl rfl rfl ty29 rfl (by decide) (Nat.le_of_ble_eq_true rfl) rfl)) rfl rfl ?_
      refine Tl_q (JO_q rfl rfl (Jq_assign rfl rfl)) rfl ?_
      refine Tl_end ?_
      refine At_then ?_
      exact Tc_ret2 (fun _ _ h => h) rfl (⟨_, _, rfl, rfl, .inl ⟨ty29, Nat.le_of_ble_eq_true rfl, rfl⟩⟩) rfl (by have hs := add_self hz; unfold addD addOk; rw [hs.1, hs.2]; have h : nok ((sgn a.neg (a.mag) + sgn a.neg (a.mag * 2 ^ (0 : Int).toNat * 2 ^ (0 : Int).toNat))).natAbs a.exp = true := (by simpa using hc71); rw [h] <;> rfl)

set_option maxRecDepth 10000 in
set_option maxHeartbeats 2000000 in
theorem law_range_b (s : Bool) (l : List Nat) (e : Int) (hs : Small l) (t : Bool) (m : List Nat) (f : Int) (hm : Small m) (hN : ¬ (l.length ≤ 2 ∧ m.length ≤ 2 ∧ isD s l e = true ∧ isD t m f = true)) : Ctr Tryd.prog 9 [V.agg [Leaf.val (.bool s), natL l, Leaf.val (.int .i64 e)], V.agg [Leaf.val (.bool t), natL m, Leaf.val (.int .i64 f)]] (R.one (V.one (Leaf.val (.bool (true))))) := by
  refine Ctr.of_body Tryd.func9 rfl Tryd.ntmps9 (Nat.le_of_ble_eq_true rfl) (fun w0 A0 => ?_)
  refine Tc_seq ?_
  refine Tc_region ?_
  refine Tl_e (JO_e rfl rfl (Je_box (n := 0) rfl rfl rfl)) rfl rfl ?_
  refine Tl_e (JO_e rfl rfl (Je_box (n := 1) rfl rfl rfl)) rfl rfl ?_
  refine Tl_q (JO_q rfl rfl (Jq_assign rfl rfl)) rfl ?_
  refine Tl_end ?_
  refine At_then ?_
  refine Tc_seq ?_
  refine Tc_seq ?_
  refine Tc_region ?_
  refine Tl_e (JO_e rfl rfl (Je_call rfl fn10 rfl (l5awake))) rfl rfl ?_
  refine Tl_q (JO_q rfl rfl (Jq_not rfl rfl (c := false) rfl)) rfl ?_
  refine Tl_end ?_
  refine At_then ?_
  refine Tc_f rfl ?_
  refine Tc_skipA ?_
  refine At_then ?_
  refine Tc_seq ?_
  refine Tc_seq ?_
  by_cases v1 : isD s l e = true
  · skip
    by_cases v2 : isD t m f = true
    · skip
      refine Tc_region ?_
      refine Tl_q (JO_q rfl rfl (Jq_fieldAddr rfl rfl fo29_1 rfl)) rfl ?_
      refine Tl_q (JO_q rfl rfl (Jq_load rfl rfl rfl (by decide) ty23 rfl)) rfl ?_
      refine Tl_q (JO_q rfl rfl (Jq_len rfl rfl un23)) rfl ?_
      by_cases h1 : 2 < l.length
      · skip
        refine Tl_q (JO_q rfl rfl (Jq_gtr rfl rfl rfl (b := true) (dT (by omega)))) rfl ?_
        refine Tl_q (JO_q rfl rfl (Jq_move rfl rfl)) rfl ?_
        refine Tl_q (JO_skip rfl rfl rfl) rfl ?_
        refine Tl_q (JO_skip rfl rfl rfl) rfl ?_
        refine Tl_q (JO_skip rfl rfl rfl) rfl ?_
        refine Tl_q (JO_skip rfl rfl rfl) rfl ?_
        refine Tl_q (JO_q rfl rfl (Jq_pick_t rfl rfl rfl)) rfl ?_
        refine Tl_q (JO_q rfl rfl (Jq_move rfl rfl)) rfl ?_
        refine Tl_q (JO_skip rfl rfl rfl) rfl ?_
        refine Tl_q (JO_skip rfl rfl rfl) rfl ?_
        refine Tl_q (JO_skip rfl rfl rfl) rfl ?_
        refine Tl_q (JO_q rfl rfl (Jq_pick_t rfl rfl rfl)) rfl ?_
        refine Tl_q (JO_q rfl rfl (Jq_move rfl rfl)) rfl ?_
        refine Tl_q (JO_skip rfl rfl rfl) rfl ?_
        refine Tl_q (JO_skip rfl rfl rfl) rfl ?_
        refine Tl_q (JO_skip rfl rfl rfl) rfl ?_
        refine Tl_q (JO_q rfl rfl (Jq_pick_t rfl rfl rfl)) rfl ?_
        refine Tl_end ?_
        refine At_then ?_
        refine Tc_t rfl ?_
        refine Tc_seq ?_
        refine Tc_region ?_
        refine Tl_q (JO_q rfl rfl (Jq_assign rfl rfl)) rfl ?_
        refine Tl_end ?_
        refine At_then ?_
        exact Tc_ret1 (fun _ _ h => h) rfl rfl rfl
      · skip
        refine Tl_q (JO_q rfl rfl (Jq_gtr rfl rfl rfl (b := false) (dF (by omega)))) rfl ?_
        refine Tl_q (JO_q rfl rfl (Jq_move rfl rfl)) rfl ?_
        refine Tl_q (JO_qg rfl rfl rfl rfl (Jq_fieldAddr rfl rfl fo29_1 rfl)) rfl ?_
        refine Tl_q (JO_qg rfl rfl rfl rfl (Jq_load rfl rfl rfl (by decide) ty23 rfl)) rfl ?_
        refine Tl_q (JO_qg rfl rfl rfl rfl (Jq_len rfl rfl un23)) rfl ?_
        by_cases h2 : 2 < m.length
        · skip
          refine Tl_q (JO_qg rfl rfl rfl rfl (Jq_gtr rfl rfl rfl (b := true) (dT (by omega)))) rfl ?_
          refine Tl_q (JO_q rfl rfl (Jq_pick_f rfl rfl rfl)) rfl ?_
          refine Tl_q (JO_q rfl rfl (Jq_move rfl rfl)) rfl ?_
          refine Tl_q (JO_skip rfl rfl rfl) rfl ?_
          refine Tl_q (JO_skip rfl rfl rfl) rfl ?_
          refine Tl_q (JO_skip rfl rfl rfl) rfl ?_
          refine Tl_q (JO_q rfl rfl (Jq_pick_t rfl rfl rfl)) rfl ?_
          refine Tl_q (JO_q rfl rfl (Jq_move rfl rfl)) rfl ?_
          refine Tl_q (JO_skip rfl rfl rfl) rfl ?_
          refine Tl_q (JO_skip rfl rfl rfl) rfl ?_
          refine Tl_q (JO_skip rfl rfl rfl) rfl ?_
          refine Tl_q (JO_q rfl rfl (Jq_pick_t rfl rfl rfl)) rfl ?_
          refine Tl_end ?_
          refine At_then ?_
          refine Tc_t rfl ?_
          refine Tc_seq ?_
          refine Tc_region ?_
          refine Tl_q (JO_q rfl rfl (Jq_assign rfl rfl)) rfl ?_
          refine Tl_end ?_
          refine At_then ?_
          exact Tc_ret1 (fun _ _ h => h) rfl rfl rfl
        · skip
          refine Tl_q (JO_qg rfl rfl rfl rfl (Jq_gtr rfl rfl rfl (b := false) (dF (by omega)))) rfl ?_
          refine Tl_q (JO_q rfl rfl (Jq_pick_f rfl rfl rfl)) rfl ?_
          refine Tl_q (JO_q rfl rfl (Jq_move rfl rfl)) rfl ?_
          refine Tl_q (JO_qg rfl rfl rfl rfl (Jq_load_agg rfl rfl rfl (by decide) ty29 (by decide) (Nat.le_of_ble_eq_true rfl) rfl)) rfl ?_
          refine Tl_e (JO_eg rfl rfl rfl rfl (Je_call rfl fn19 rfl (rdvalid s l e hs))) rfl rfl ?_
          refine Tl_is true (v1) ?_
          refine Tl_q (JO_qg rfl rfl rfl rfl (Jq_not rfl rfl (c := false) rfl)) rfl ?_
          refine Tl_q (JO_q rfl rfl (Jq_pick_f rfl rfl rfl)) rfl ?_
          refine Tl_q (JO_q rfl rfl (Jq_move rfl rfl)) rfl ?_
          refine Tl_q (JO_qg rfl rfl rfl rfl (Jq_load_agg rfl rfl rfl (by decide) ty29 (by decide) (Nat.le_of_ble_eq_true rfl) rfl)) rfl ?_
          refine Tl_e (JO_eg rfl rfl rfl rfl (Je_call rfl fn19 rfl (rdvalid t m f hm))) rfl rfl ?_
          refine Tl_is true (v2) ?_
          refine Tl_q (JO_qg rfl rfl rfl rfl (Jq_not rfl rfl (c := false) rfl)) rfl ?_
          refine Tl_q (JO_q rfl rfl (Jq_pick_f rfl rfl rfl)) rfl ?_
          refine Tl_end ?_
          refine At_then ?_
          refine Tc_f rfl ?_
          refine Tc_skipA ?_
          refine At_then ?_
          refine Tc_seq ?_
          exact absurd ⟨Nat.not_lt.1 h1, Nat.not_lt.1 h2, v1, v2⟩ hN
    · skip
      refine Tc_norm [(2, some (D.ptr 0 0)), (3, some (D.ptr 1 0))] [some ⟨29, [Leaf.val (.bool s), natL l, Leaf.val (.int .i64 e)], none, none⟩, some ⟨29, [Leaf.val (.bool t), natL m, Leaf.val (.int .i64 f)], none, none⟩] ⟨rfl, rfl, trivial⟩ rfl ?_
      refine Tc_region ?_
      refine Tl_q (JO_q rfl rfl (Jq_fieldAddr rfl rfl fo29_1 rfl)) rfl ?_
      refine Tl_q (JO_q rfl rfl (Jq_load rfl rfl rfl (by decide) ty23 rfl)) rfl ?_
      refine Tl_q (JO_q rfl rfl (Jq_len rfl rfl un23)) rfl ?_
      by_cases h1 : 2 < l.length
      · skip
        refine Tl_q (JO_q rfl rfl (Jq_gtr rfl rfl rfl (b := true) (dT (by omega)))) rfl ?_
        refine Tl_q (JO_q rfl rfl (Jq_move rfl rfl)) rfl ?_
        refine Tl_q (JO_skip rfl rfl rfl) rfl ?_
        refine Tl_q (JO_skip rfl rfl rfl) rfl ?_
        refine Tl_q (JO_skip rfl rfl rfl) rfl ?_
        refine Tl_q (JO_skip rfl rfl rfl) rfl ?_
        refine Tl_q (JO_q rfl rfl (Jq_pick_t rfl rfl rfl)) rfl ?_
        refine Tl_q (JO_q rfl rfl (Jq_move rfl rfl)) rfl ?_
        refine Tl_q (JO_skip rfl rfl rfl) rfl ?_
        refine Tl_q (JO_skip rfl rfl rfl) rfl ?_
        refine Tl_q (JO_skip rfl rfl rfl) rfl ?_
        refine Tl_q (JO_q rfl rfl (Jq_pick_t rfl rfl rfl)) rfl ?_
        refine Tl_q (JO_q rfl rfl (Jq_move rfl rfl)) rfl ?_
        refine Tl_q (JO_skip rfl rfl rfl) rfl ?_
        refine Tl_q (JO_skip rfl rfl rfl) rfl ?_
        refine Tl_q (JO_skip rfl rfl rfl) rfl ?_
        refine Tl_q (JO_q rfl rfl (Jq_pick_t rfl rfl rfl)) rfl ?_
        refine Tl_end ?_
        refine At_then ?_
        refine Tc_t rfl ?_
        refine Tc_seq ?_
        refine Tc_region ?_
        refine Tl_q (JO_q rfl rfl (Jq_assign rfl rfl)) rfl ?_
        refine Tl_end ?_
        refine At_then ?_
        exact Tc_ret1 (fun _ _ h => h) rfl rfl rfl
      · skip
        refine Tl_q (JO_q rfl rfl (Jq_gtr rfl rfl rfl (b := false) (dF (by omega)))) rfl ?_
        refine Tl_q (JO_q rfl rfl (Jq_move rfl rfl)) rfl ?_
        refine Tl_q (JO_qg rfl rfl rfl rfl (Jq_fieldAddr rfl rfl fo29_1 rfl)) rfl ?_
        refine Tl_q (JO_qg rfl rfl rfl rfl (Jq_load rfl rfl rfl (by decide) ty23 rfl)) rfl ?_
        refine Tl_q (JO_qg rfl rfl rfl rfl (Jq_len rfl rfl un23)) rfl ?_
        by_cases h2 : 2 < m.length
        · skip
          refine Tl_q (JO_qg rfl rfl rfl rfl (Jq_gtr rfl rfl rfl (b := true) (dT (by omega)))) rfl ?_
          refine Tl_q (JO_q rfl rfl (Jq_pick_f rfl rfl rfl)) rfl ?_
          refine Tl_q (JO_q rfl rfl (Jq_move rfl rfl)) rfl ?_
          refine Tl_q (JO_skip rfl rfl rfl) rfl ?_
          refine Tl_q (JO_skip rfl rfl rfl) rfl ?_
          refine Tl_q (JO_skip rfl rfl rfl) rfl ?_
          refine Tl_q (JO_q rfl rfl (Jq_pick_t rfl rfl rfl)) rfl ?_
          refine Tl_q (JO_q rfl rfl (Jq_move rfl rfl)) rfl ?_
          refine Tl_q (JO_skip rfl rfl rfl) rfl ?_
          refine Tl_q (JO_skip rfl rfl rfl) rfl ?_
          refine Tl_q (JO_skip rfl rfl rfl) rfl ?_
          refine Tl_q (JO_q rfl rfl (Jq_pick_t rfl rfl rfl)) rfl ?_
          refine Tl_end ?_
          refine At_then ?_
          refine Tc_t rfl ?_
          refine Tc_seq ?_
          refine Tc_region ?_
          refine Tl_q (JO_q rfl rfl (Jq_assign rfl rfl)) rfl ?_
          refine Tl_end ?_
          refine At_then ?_
          exact Tc_ret1 (fun _ _ h => h) rfl rfl rfl
        · skip
          refine Tl_q (JO_qg rfl rfl rfl rfl (Jq_gtr rfl rfl rfl (b := false) (dF (by omega)))) rfl ?_
          refine Tl_q (JO_q rfl rfl (Jq_pick_f rfl rfl rfl)) rfl ?_
          refine Tl_q (JO_q rfl rfl (Jq_move rfl rfl)) rfl ?_
          refine Tl_q (JO_qg rfl rfl rfl rfl (Jq_load_agg rfl rfl rfl (by decide) ty29 (by decide) (Nat.le_of_ble_eq_true rfl) rfl)) rfl ?_
          refine Tl_e (JO_eg rfl rfl rfl rfl (Je_call rfl fn19 rfl (rdvalid s l e hs))) rfl rfl ?_
          refine Tl_is true (v1) ?_
          refine Tl_q (JO_qg rfl rfl rfl rfl (Jq_not rfl rfl (c := false) rfl)) rfl ?_
          refine Tl_q (JO_q rfl rfl (Jq_pick_f rfl rfl rfl)) rfl ?_
          refine Tl_q (JO_q rfl rfl (Jq_move rfl rfl)) rfl ?_
          refine Tl_q (JO_qg rfl rfl rfl rfl (Jq_load_agg rfl rfl rfl (by decide) ty29 (by decide) (Nat.le_of_ble_eq_true rfl) rfl)) rfl ?_
          refine Tl_e (JO_eg rfl rfl rfl rfl (Je_call rfl fn19 rfl (rdvalid t m f hm))) rfl rfl ?_
          refine Tl_is false ((by simpa using v2)) ?_
          refine Tl_q (JO_qg rfl rfl rfl rfl (Jq_not rfl rfl (c := true) rfl)) rfl ?_
          refine Tl_q (JO_q rfl rfl (Jq_pick_f rfl rfl rfl)) rfl ?_
          refine Tl_end ?_
          refine At_then ?_
          refine Tc_t rfl ?_
          refine Tc_seq ?_
          refine Tc_region ?_
          refine Tl_q (JO_q rfl rfl (Jq_assign rfl rfl)) rfl ?_
          refine Tl_end ?_
          refine At_then ?_
          exact Tc_ret1 (fun _ _ h => h) rfl rfl rfl
  · skip
    refine Tc_norm [(2, some (D.ptr 0 0)), (3, some (D.ptr 1 0))] [some ⟨29, [Leaf.val (.bool s), natL l, Leaf.val (.int .i64 e)], none, none⟩, some ⟨29, [Leaf.val (.bool t), natL m, Leaf.val (.int .i64 f)], none, none⟩] ⟨rfl, rfl, trivial⟩ rfl ?_
    refine Tc_region ?_
    refine Tl_q (JO_q rfl rfl (Jq_fieldAddr rfl rfl fo29_1 rfl)) rfl ?_
    refine Tl_q (JO_q rfl rfl (Jq_load rfl rfl rfl (by decide) ty23 rfl)) rfl ?_
    refine Tl_q (JO_q rfl rfl (Jq_len rfl rfl un23)) rfl ?_
    by_cases h1 : 2 < l.length
    · skip
      refine Tl_q (JO_q rfl rfl (Jq_gtr rfl rfl rfl (b := true) (dT (by omega)))) rfl ?_
      refine Tl_q (JO_q rfl rfl (Jq_move rfl rfl)) rfl ?_
      refine Tl_q (JO_skip rfl rfl rfl) rfl ?_
      refine Tl_q (JO_skip rfl rfl rfl) rfl ?_
      refine Tl_q (JO_skip rfl rfl rfl) rfl ?_
      refine Tl_q (JO_skip rfl rfl rfl) rfl ?_
      refine Tl_q (JO_q rfl rfl (Jq_pick_t rfl rfl rfl)) rfl ?_
      refine Tl_q (JO_q rfl rfl (Jq_move rfl rfl)) rfl ?_
      refine Tl_q (JO_skip rfl rfl rfl) rfl ?_
      refine Tl_q (JO_skip rfl rfl rfl) rfl ?_
      refine Tl_q (JO_skip rfl rfl rfl) rfl ?_
      refine Tl_q (JO_q rfl rfl (Jq_pick_t rfl rfl rfl)) rfl ?_
      refine Tl_q (JO_q rfl rfl (Jq_move rfl rfl)) rfl ?_
      refine Tl_q (JO_skip rfl rfl rfl) rfl ?_
      refine Tl_q (JO_skip rfl rfl rfl) rfl ?_
      refine Tl_q (JO_skip rfl rfl rfl) rfl ?_
      refine Tl_q (JO_q rfl rfl (Jq_pick_t rfl rfl rfl)) rfl ?_
      refine Tl_end ?_
      refine At_then ?_
      refine Tc_t rfl ?_
      refine Tc_seq ?_
      refine Tc_region ?_
      refine Tl_q (JO_q rfl rfl (Jq_assign rfl rfl)) rfl ?_
      refine Tl_end ?_
      refine At_then ?_
      exact Tc_ret1 (fun _ _ h => h) rfl rfl rfl
    · skip
      refine Tl_q (JO_q rfl rfl (Jq_gtr rfl rfl rfl (b := false) (dF (by omega)))) rfl ?_
      refine Tl_q (JO_q rfl rfl (Jq_move rfl rfl)) rfl ?_
      refine Tl_q (JO_qg rfl rfl rfl rfl (Jq_fieldAddr rfl rfl fo29_1 rfl)) rfl ?_
      refine Tl_q (JO_qg rfl rfl rfl rfl (Jq_load rfl rfl rfl (by decide) ty23 rfl)) rfl ?_
      refine Tl_q (JO_qg rfl rfl rfl rfl (Jq_len rfl rfl un23)) rfl ?_
      by_cases h2 : 2 < m.length
      · skip
        refine Tl_q (JO_qg rfl rfl rfl rfl (Jq_gtr rfl rfl rfl (b := true) (dT (by omega)))) rfl ?_
        refine Tl_q (JO_q rfl rfl (Jq_pick_f rfl rfl rfl)) rfl ?_
        refine Tl_q (JO_q rfl rfl (Jq_move rfl rfl)) rfl ?_
        refine Tl_q (JO_skip rfl rfl rfl) rfl ?_
        refine Tl_q (JO_skip rfl rfl rfl) rfl ?_
        refine Tl_q (JO_skip rfl rfl rfl) rfl ?_
        refine Tl_q (JO_q rfl rfl (Jq_pick_t rfl rfl rfl)) rfl ?_
        refine Tl_q (JO_q rfl rfl (Jq_move rfl rfl)) rfl ?_
        refine Tl_q (JO_skip rfl rfl rfl) rfl ?_
        refine Tl_q (JO_skip rfl rfl rfl) rfl ?_
        refine Tl_q (JO_skip rfl rfl rfl) rfl ?_
        refine Tl_q (JO_q rfl rfl (Jq_pick_t rfl rfl rfl)) rfl ?_
        refine Tl_end ?_
        refine At_then ?_
        refine Tc_t rfl ?_
        refine Tc_seq ?_
        refine Tc_region ?_
        refine Tl_q (JO_q rfl rfl (Jq_assign rfl rfl)) rfl ?_
        refine Tl_end ?_
        refine At_then ?_
        exact Tc_ret1 (fun _ _ h => h) rfl rfl rfl
      · skip
        refine Tl_q (JO_qg rfl rfl rfl rfl (Jq_gtr rfl rfl rfl (b := false) (dF (by omega)))) rfl ?_
        refine Tl_q (JO_q rfl rfl (Jq_pick_f rfl rfl rfl)) rfl ?_
        refine Tl_q (JO_q rfl rfl (Jq_move rfl rfl)) rfl ?_
        refine Tl_q (JO_qg rfl rfl rfl rfl (Jq_load_agg rfl rfl rfl (by decide) ty29 (by decide) (Nat.le_of_ble_eq_true rfl) rfl)) rfl ?_
        refine Tl_e (JO_eg rfl rfl rfl rfl (Je_call rfl fn19 rfl (rdvalid s l e hs))) rfl rfl ?_
        refine Tl_is false ((by simpa using v1)) ?_
        refine Tl_q (JO_qg rfl rfl rfl rfl (Jq_not rfl rfl (c := true) rfl)) rfl ?_
        refine Tl_q (JO_q rfl rfl (Jq_pick_f rfl rfl rfl)) rfl ?_
        refine Tl_q (JO_q rfl rfl (Jq_move rfl rfl)) rfl ?_
        refine Tl_q (JO_skip rfl rfl rfl) rfl ?_
        refine Tl_q (JO_skip rfl rfl rfl) rfl ?_
        refine Tl_q (JO_skip rfl rfl rfl) rfl ?_
        refine Tl_q (JO_q rfl rfl (Jq_pick_t rfl rfl rfl)) rfl ?_
        refine Tl_end ?_
        refine At_then ?_
        refine Tc_t rfl ?_
        refine Tc_seq ?_
        refine Tc_region ?_
        refine Tl_q (JO_q rfl rfl (Jq_assign rfl rfl)) rfl ?_
        refine Tl_end ?_
        refine At_then ?_
        exact Tc_ret1 (fun _ _ h => h) rfl rfl rfl

set_option maxRecDepth 10000 in
set_option maxHeartbeats 2000000 in
theorem law_range_s (a b : Dy) (h1 : (limbs a.mag).length ≤ 2) (h2 : (limbs b.mag).length ≤ 2) (v1 : isD a.neg (limbs a.mag) a.exp = true) (v2 : isD b.neg (limbs b.mag) b.exp = true) : Ctr Tryd.prog 9 [dV a, dV b] (R.one (V.one (Leaf.val (.bool (true))))) := by
  refine Ctr.of_body Tryd.func9 rfl Tryd.ntmps9 (Nat.le_of_ble_eq_true rfl) (fun w0 A0 => ?_)
  have c1 := isD_canon (small_limbs a.mag) v1
  have c2 := isD_canon (small_limbs b.mag) v2
  rw [val_limbs] at c1 c2
  have hx : nrm a.neg a.mag a.exp = a := c1.2.2.2.1
  haveI ia : Bd a 2 := ⟨⟨h1, c1.2.1, c1.2.2.1⟩⟩
  haveI ib : Bd b 2 := ⟨⟨h2, c2.2.1, c2.2.2.1⟩⟩
  refine Tc_seq ?_
  refine Tc_region ?_
  refine Tl_e (JO_e rfl rfl (Je_box (n := 0) rfl rfl rfl)) rfl rfl ?_
  refine Tl_e (JO_e rfl rfl (Je_box (n := 1) rfl rfl rfl)) rfl rfl ?_
  refine Tl_q (JO_q rfl rfl (Jq_assign rfl rfl)) rfl ?_
  refine Tl_end ?_
  refine At_then ?_
  refine Tc_seq ?_
  refine Tc_seq ?_
  refine Tc_region ?_
  refine Tl_e (JO_e rfl rfl (Je_call rfl fn10 rfl (l5awake))) rfl rfl ?_
  refine Tl_q (JO_q rfl rfl (Jq_not rfl rfl (c := false) rfl)) rfl ?_
  refine Tl_end ?_
  refine At_then ?_
  refine Tc_f rfl ?_
  refine Tc_skipA ?_
  refine At_then ?_
  refine Tc_seq ?_
  refine Tc_seq ?_
  refine Tc_region ?_
  refine Tl_q (JO_q rfl rfl (Jq_fieldAddr rfl rfl fo29_1 rfl)) rfl ?_
  refine Tl_q (JO_q rfl rfl (Jq_load rfl rfl rfl (by decide) ty23 rfl)) rfl ?_
  refine Tl_q (JO_q rfl rfl (Jq_len rfl rfl un23)) rfl ?_
  refine Tl_q (JO_q rfl rfl (Jq_gtr rfl rfl rfl (b := false) (dF (by omega)))) rfl ?_
  refine Tl_q (JO_q rfl rfl (Jq_move rfl rfl)) rfl ?_
  refine Tl_q (JO_qg rfl rfl rfl rfl (Jq_fieldAddr rfl rfl fo29_1 rfl)) rfl ?_
  refine Tl_q (JO_qg rfl rfl rfl rfl (Jq_load rfl rfl rfl (by decide) ty23 rfl)) rfl ?_
  refine Tl_q (JO_qg rfl rfl rfl rfl (Jq_len rfl rfl un23)) rfl ?_
  refine Tl_q (JO_qg rfl rfl rfl rfl (Jq_gtr rfl rfl rfl (b := false) (dF (by omega)))) rfl ?_
  refine Tl_q (JO_q rfl rfl (Jq_pick_f rfl rfl rfl)) rfl ?_
  refine Tl_q (JO_q rfl rfl (Jq_move rfl rfl)) rfl ?_
  refine Tl_q (JO_qg rfl rfl rfl rfl (Jq_load_agg rfl rfl rfl (by decide) ty29 (by decide) (Nat.le_of_ble_eq_true rfl) rfl)) rfl ?_
  refine Tl_e (JO_eg rfl rfl rfl rfl (Je_call rfl fn19 rfl (rdvalid a.neg (limbs (a.mag)) a.exp (small_limbs _)))) rfl rfl ?_
  refine Tl_is true (v1) ?_
  refine Tl_q (JO_qg rfl rfl rfl rfl (Jq_not rfl rfl (c := false) rfl)) rfl ?_
  refine Tl_q (JO_q rfl rfl (Jq_pick_f rfl rfl rfl)) rfl ?_
  refine Tl_q (JO_q rfl rfl (Jq_move rfl rfl)) rfl ?_
  refine Tl_q (JO_qg rfl rfl rfl rfl (Jq_load_agg rfl rfl rfl (by decide) ty29 (by decide) (Nat.le_of_ble_eq_true rfl) rfl)) rfl ?_
  refine Tl_e (JO_eg rfl rfl rfl rfl (Je_call rfl fn19 rfl (rdvalid b.neg (limbs (b.mag)) b.exp (small_limbs _)))) rfl rfl ?_
  refine Tl_is true (v2) ?_
  refine Tl_q (JO_qg rfl rfl rfl rfl (Jq_not rfl rfl (c := false) rfl)) rfl ?_
  refine Tl_q (JO_q rfl rfl (Jq_pick_f rfl rfl rfl)) rfl ?_
  refine Tl_end ?_
  refine At_then ?_
  refine Tc_f rfl ?_
  refine Tc_skipA ?_
  refine At_then ?_
  refine Tc_seq ?_
  refine Tc_norm [(2, some (D.ptr 0 0)), (3, some (D.ptr 1 0))] [some ⟨29, [Leaf.val (.bool a.neg), natL (limbs (a.mag)), Leaf.val (.int .i64 a.exp)], none, none⟩, some ⟨29, [Leaf.val (.bool b.neg), natL (limbs (b.mag)), Leaf.val (.int .i64 b.exp)], none, none⟩] ⟨rfl, rfl, trivial⟩ rfl ?_
  refine Tc_region ?_
  refine Tl_q (JO_q rfl rfl (Jq_load_agg rfl rfl rfl (by decide) ty29 (by decide) (Nat.le_of_ble_eq_true rfl) rfl)) rfl ?_
  refine Tl_q (JO_q rfl rfl (Jq_load_agg rfl rfl rfl (by decide) ty29 (by decide) (Nat.le_of_ble_eq_true rfl) rfl)) rfl ?_
  refine Tl_e (JO_e rfl rfl (Je_call rfl fn36 rfl (dmul a b (Bd.use (by omega)) (Bd.use (by omega))))) rfl rfl ?_
  refine Tl_q (JO_q rfl rfl (Jq_move rfl rfl)) rfl ?_
  refine Tl_q (JO_q rfl rfl (Jq_extract rfl rfl rfl)) rfl ?_
  refine Tl_q (JO_q rfl rfl (Jq_extract rfl rfl rfl)) rfl ?_
  refine Tl_e (JO_e rfl rfl (Je_alloc (n := 2) rfl tz29 rfl)) rfl rfl ?_
  refine Tl_e (JO_e rfl rfl (Je_store rfl rfl rfl rfl ty29 rfl (by decide) (Nat.le_of_ble_eq_true rfl) rfl)) rfl rfl ?_
  refine Tl_q (JO_q rfl rfl (Jq_assign rfl rfl)) rfl ?_
  refine Tl_end ?_
  refine At_then ?_
  refine Tc_seq ?_
  refine Tc_norm [(2, some (D.ptr 0 0)), (3, some (D.ptr 1 0)), (5, some (D.ptr 2 0)), (6, some (D.val (.int .i64 (eOf (mulOk a b)))))] [some ⟨29, [Leaf.val (.bool a.neg), natL (limbs (a.mag)), Leaf.val (.int .i64 a.exp)], none, none⟩, some ⟨29, [Leaf.val (.bool b.neg), natL (limbs (b.mag)), Leaf.val (.int .i64 b.exp)], none, none⟩, some ⟨29, [Leaf.val (.bool ((mulD a b).neg)), natL (limbs ((mulD a b).mag)), Leaf.val (.int .i64 ((mulD a b).exp))], none, none⟩] ⟨rfl, rfl, rfl, rfl, trivial⟩ rfl ?_
  refine Tc_region ?_
  refine Tl_q (JO_q rfl rfl (Jq_load_agg rfl rfl rfl (by decide) ty29 (by decide) (Nat.le_of_ble_eq_true rfl) rfl)) rfl ?_
  refine Tl_q (JO_q rfl rfl (Jq_load_agg rfl rfl rfl (by decide) ty29 (by decide) (Nat.le_of_ble_eq_true rfl) rfl)) rfl ?_
  refine Tl_e (JO_e rfl rfl (Je_call rfl fn39 rfl (rdmul a b (Bd.use (by omega)) (Bd.use (by omega))))) rfl rfl ?_
  refine Tl_q (JO_q rfl rfl (Jq_move rfl rfl)) rfl ?_
  refine Tl_q (JO_q rfl rfl (Jq_extract rfl rfl rfl)) rfl ?_
  refine Tl_q (JO_q rfl rfl (Jq_extract rfl rfl rfl)) rfl ?_
  refine Tl_e (JO_e rfl rfl (Je_alloc (n := 3) rfl tz29 rfl)) rfl rfl ?_
  refine Tl_e (JO_e rfl rfl (Je_store rfl rfl rfl rfl ty29 rfl (by decide) (Nat.le_of_ble_eq_true rfl) rfl)) rfl rfl ?_
  refine Tl_q (JO_q rfl rfl (Jq_assign rfl rfl)) rfl ?_
  refine Tl_end ?_
  refine At_then ?_
  refine Tc_seq ?_
  refine Tc_free 1 ?_
  refine Tc_norm [(2, some (D.ptr 0 0)), (5, some (D.ptr 2 0)), (6, some (D.val (.int .i64 (eOf (mulOk a b))))), (7, some (D.ptr 3 0)), (8, some (D.val (.int .i64 (eOf (mulOk a b)))))] [some ⟨29, [Leaf.val (.bool a.neg), natL (limbs (a.mag)), Leaf.val (.int .i64 a.exp)], none, none⟩, none, some ⟨29, [Leaf.val (.bool ((mulD a b).neg)), natL (limbs ((mulD a b).mag)), Leaf.val (.int .i64 ((mulD a b).exp))], none, none⟩, some ⟨29, [Leaf.val (.bool ((mulD a b).neg)), natL (limbs ((mulD a b).mag)), Leaf.val (.int .i64 ((mulD a b).exp))], none, none⟩] ⟨rfl, rfl, rfl, rfl, rfl, trivial⟩ rfl ?_
  refine Tc_region ?_
  refine Tl_q (JO_q rfl rfl (Jq_load_agg rfl rfl rfl (by decide) ty29 (by decide) (Nat.le_of_ble_eq_true rfl) rfl)) rfl ?_
  refine Tl_q (JO_q rfl rfl (Jq_load_agg rfl rfl rfl (by decide) ty29 (by decide) (Nat.le_of_ble_eq_true rfl) rfl)) rfl ?_
  refine Tl_e (JO_e rfl rfl (Je_call rfl fn35 rfl (dadd a a (Bd.use (by omega)) (Bd.use (by omega))))) rfl rfl ?_
  refine Tl_q (JO_q rfl rfl (Jq_move rfl rfl)) rfl ?_
  refine Tl_q (JO_q rfl rfl (Jq_extract rfl rfl rfl)) rfl ?_
  refine Tl_q (JO_q rfl rfl (Jq_extract rfl rfl rfl)) rfl ?_
  refine Tl_e (JO_e rfl rfl (Je_alloc (n := 4) rfl tz29 rfl)) rfl rfl ?_
  refine Tl_e (JO_e rfl rfl (Je_store rfl rfl rfl rfl ty29 rfl (by decide) (Nat.le_of_ble_eq_true rfl) rfl)) rfl rfl ?_
  refine Tl_q (JO_q rfl rfl (Jq_assign rfl rfl)) rfl ?_
  refine Tl_end ?_
  refine At_then ?_
  refine Tc_seq ?_
  refine Tc_norm [(2, some (D.ptr 0 0)), (5, some (D.ptr 2 0)), (6, some (D.val (.int .i64 (eOf (mulOk a b))))), (7, some (D.ptr 3 0)), (8, some (D.val (.int .i64 (eOf (mulOk a b))))), (9, some (D.ptr 4 0)), (10, some (D.val (.int .i64 (eOf (addOk a a)))))] [some ⟨29, [Leaf.val (.bool a.neg), natL (limbs (a.mag)), Leaf.val (.int .i64 a.exp)], none, none⟩, none, some ⟨29, [Leaf.val (.bool ((mulD a b).neg)), natL (limbs ((mulD a b).mag)), Leaf.val (.int .i64 ((mulD a b).exp))], none, none⟩, some ⟨29, [Leaf.val (.bool ((mulD a b).neg)), natL (limbs ((mulD a b).mag)), Leaf.val (.int .i64 ((mulD a b).exp))], none, none⟩, some ⟨29, [Leaf.val (.bool ((addD a a).neg)), natL (limbs ((addD a a).mag)), Leaf.val (.int .i64 ((addD a a).exp))], none, none⟩] ⟨rfl, rfl, rfl, rfl, rfl, rfl, rfl, trivial⟩ rfl ?_
  refine Tc_region ?_
  refine Tl_q (JO_q rfl rfl (Jq_load_agg rfl rfl rfl (by decide) ty29 (by decide) (Nat.le_of_ble_eq_true rfl) rfl)) rfl ?_
  refine Tl_q (JO_q rfl rfl (Jq_load_agg rfl rfl rfl (by decide) ty29 (by decide) (Nat.le_of_ble_eq_true rfl) rfl)) rfl ?_
  refine Tl_e (JO_e rfl rfl (Je_call rfl fn40 rfl (rdadd a (Bd.use (by omega)) hx))) rfl rfl ?_
  refine Tl_q (JO_q rfl rfl (Jq_move rfl rfl)) rfl ?_
  refine Tl_q (JO_q rfl rfl (Jq_extract rfl rfl rfl)) rfl ?_
  refine Tl_q (JO_q rfl rfl (Jq_extract rfl rfl rfl)) rfl ?_
  refine Tl_e (JO_e rfl rfl (Je_alloc (n := 5) rfl tz29 rfl)) rfl rfl ?_
  refine Tl_e (JO_e rfl rfl (Je_store rfl rfl rfl rfl ty29 rfl (by decide) (Nat.le_of_ble_eq_true rfl) rfl)) rfl rfl ?_
  refine Tl_q (JO_q rfl rfl (Jq_assign rfl rfl)) rfl ?_
  refine Tl_end ?_
  refine At_then ?_
  refine Tc_seq ?_
  refine Tc_free 0 ?_
  refine Tc_norm [(5, some (D.ptr 2 0)), (6, some (D.val (.int .i64 (eOf (mulOk a b))))), (7, some (D.ptr 3 0)), (8, some (D.val (.int .i64 (eOf (mulOk a b))))), (9, some (D.ptr 4 0)), (10, some (D.val (.int .i64 (eOf (addOk a a))))), (11, some (D.ptr 5 0)), (12, some (D.val (.int .i64 (eOf (addOk a a)))))] [none, none, some ⟨29, [Leaf.val (.bool ((mulD a b).neg)), natL (limbs ((mulD a b).mag)), Leaf.val (.int .i64 ((mulD a b).exp))], none, none⟩, some ⟨29, [Leaf.val (.bool ((mulD a b).neg)), natL (limbs ((mulD a b).mag)), Leaf.val (.int .i64 ((mulD a b).exp))], none, none⟩, some ⟨29, [Leaf.val (.bool ((addD a a).neg)), natL (limbs ((addD a a).mag)), Leaf.val (.int .i64 ((addD a a).exp))], none, none⟩, some ⟨29, [Leaf.val (.bool ((addD a a).neg)), natL (limbs ((addD a a).mag)), Leaf.val (.int .i64 ((addD a a).exp))], none, none⟩] ⟨rfl, rfl, rfl, rfl, rfl, rfl, rfl, rfl, trivial⟩ rfl ?_
  refine Tc_region ?_
  refine Tl_q (JO_q rfl rfl (Jq_move rfl rfl)) rfl ?_
  refine Tl_q (JO_q rfl rfl (Jq_move rfl rfl)) rfl ?_
  refine Tl_q (JO_q rfl rfl (Jq_eql rfl rfl rfl (b := _) (rfl))) rfl ?_
  refine Tl_is true (by simp) ?_
  refine Tl_q (JO_q rfl rfl (Jq_move rfl rfl)) rfl ?_
  refine Tl_q (JO_qg rfl rfl rfl rfl (Jq_move rfl rfl)) rfl ?_
  refine Tl_q (JO_qg rfl rfl rfl rfl (Jq_move rfl rfl)) rfl ?_
  refine Tl_q (JO_qg rfl rfl rfl rfl (Jq_eql rfl rfl rfl (b := _) (rfl))) rfl ?_
  refine Tl_is true (by simp) ?_
  refine Tl_q (JO_q rfl rfl (Jq_pick_t rfl rfl rfl)) rfl ?_
  refine Tl_q (JO_q rfl rfl (Jq_move rfl rfl)) rfl ?_
  refine Tl_q (JO_qg rfl rfl rfl rfl (Jq_load_agg rfl rfl rfl (by decide) ty29 (by decide) (Nat.le_of_ble_eq_true rfl) rfl)) rfl ?_
  refine Tl_q (JO_qg rfl rfl rfl rfl (Jq_load_agg rfl rfl rfl (by decide) ty29 (by decide) (Nat.le_of_ble_eq_true rfl) rfl)) rfl ?_
  refine Tl_e (JO_eg rfl rfl rfl rfl (Je_call rfl fn17 rfl (dsame ((mulD a b).neg) (limbs ((mulD a b).mag)) ((mulD a b).exp) ((mulD a b).neg) (limbs ((mulD a b).mag)) ((mulD a b).exp)))) rfl rfl ?_
  refine Tl_is true (sameR_refl _ _ _) ?_
  refine Tl_q (JO_q rfl rfl (Jq_pick_t rfl rfl rfl)) rfl ?_
  refine Tl_q (JO_q rfl rfl (Jq_move rfl rfl)) rfl ?_
  refine Tl_q (JO_qg rfl rfl rfl rfl (Jq_load_agg rfl rfl rfl (by decide) ty29 (by decide) (Nat.le_of_ble_eq_true rfl) rfl)) rfl ?_
  refine Tl_q (JO_qg rfl rfl rfl rfl (Jq_load_agg rfl rfl rfl (by decide) ty29 (by decide) (Nat.le_of_ble_eq_true rfl) rfl)) rfl ?_
  refine Tl_e (JO_eg rfl rfl rfl rfl (Je_call rfl fn17 rfl (dsame ((addD a a).neg) (limbs ((addD a a).mag)) ((addD a a).exp) ((addD a a).neg) (limbs ((addD a a).mag)) ((addD a a).exp)))) rfl rfl ?_
  refine Tl_is true (sameR_refl _ _ _) ?_
  refine Tl_q (JO_q rfl rfl (Jq_pick_t rfl rfl rfl)) rfl ?_
  refine Tl_q (JO_q rfl rfl (Jq_assign rfl rfl)) rfl ?_
  refine Tl_end ?_
  refine At_then ?_
  exact Tc_ret1 (fun _ _ h => h) rfl rfl rfl

theorem law_range (s : Bool) (l : List Nat) (e : Int) (hs : Small l) (t : Bool) (m : List Nat) (f : Int) (hm : Small m) : Ctr Tryd.prog 9 [V.agg [Leaf.val (.bool s), natL l, Leaf.val (.int .i64 e)], V.agg [Leaf.val (.bool t), natL m, Leaf.val (.int .i64 f)]] (R.one (V.one (Leaf.val (.bool (true))))) := by
  by_cases hN : l.length ≤ 2 ∧ m.length ≤ 2 ∧ isD s l e = true ∧ isD t m f = true
  · obtain ⟨h1, h2, v1, v2⟩ := hN
    have hc := (isD_canon hs v1).1
    have hd := (isD_canon hm v2).1
    have h := law_range_s ⟨s, val l, e⟩ ⟨t, val m, f⟩ (by show (limbs (val l)).length ≤ 2; rw [← hc]; exact h1) (by show (limbs (val m)).length ≤ 2; rw [← hd]; exact h2) (by show isD s (limbs (val l)) e = true; rw [← hc]; exact v1) (by show isD t (limbs (val m)) f = true; rw [← hd]; exact v2)
    have e2 : dV ⟨s, val l, e⟩ = V.agg [Leaf.val (.bool s), natL l, Leaf.val (.int .i64 e)] := by show V.agg [Leaf.val (.bool s), natL (limbs (val l)), Leaf.val (.int .i64 e)] = _; rw [← hc]
    have e3 : dV ⟨t, val m, f⟩ = V.agg [Leaf.val (.bool t), natL m, Leaf.val (.int .i64 f)] := by show V.agg [Leaf.val (.bool t), natL (limbs (val m)), Leaf.val (.int .i64 f)] = _; rw [← hd]
    rwa [e2, e3] at h
  · exact law_range_b s l e hs t m f hm hN

end Go.Proofs.YtpabkdpijcbkgaaDoor
