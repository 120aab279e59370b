/- Walks: dyadic comparison, sums, products; the helpers of their laws. -/
import Derived.Test.YtpabkdpijcbkgaaDoorWkO
import Derived.Test.YtpabkdpijcbkgaaDoorFacts
import Derived.KernelRfl
set_option linter.unusedSimpArgs false
set_option linter.unusedVariables false
namespace Go.Proofs.YtpabkdpijcbkgaaDoor
open Go Go.RowKit Rc


set_option maxRecDepth 10000 in
theorem dwhole (a b : Dy) (ha : Dfit 1000000 a) (hb : Dfit 1000000 b) : Ctr Tryd.prog 64 [dV a, dV b] (R.tup [zV (zOf (wint a (wexp a b))), zV (zOf (wint b (wexp a b))), V.one (Leaf.val (.int .i64 (wexp a b)))]) := by
  refine Ctr.of_body Tryd.func64 rfl Tryd.ntmps64 (Nat.le_of_ble_eq_true rfl) (fun w0 A0 => ?_)
  haveI ia : Bd a 1000000 := ⟨ha⟩
  haveI ib : Bd b 1000000 := ⟨hb⟩
  have h1 := ha.lo; have h2 := ha.hi; have h3 := hb.lo; have h4 := hb.hi
  refine Tc_seq ?_
  refine Tc_region ?_
  refine Tl_e (JO_e rfl rfl (Je_box (n := 0) rfl rfl rfl)) rfl rfl ?_
  refine Tl_e (JO_e rfl rfl (Je_box (n := 1) rfl rfl rfl)) rfl rfl ?_
  refine Tl_e (JO_e rfl rfl (Je_alloc (n := 2) rfl tz65 rfl)) rfl rfl ?_
  refine Tl_e (JO_e rfl rfl (Je_alloc (n := 3) rfl tz65 rfl)) rfl rfl ?_
  refine Tl_q (JO_q rfl rfl (Jq_assign rfl rfl)) rfl ?_
  refine Tl_end ?_
  refine At_then ?_
  refine Tc_seq ?_
  refine Tc_region ?_
  refine Tl_q (JO_q rfl rfl (Jq_fieldAddr rfl rfl fo29_2 rfl)) rfl ?_
  refine Tl_q (JO_q rfl rfl (Jq_load rfl rfl rfl (by decide) ty3 rfl)) rfl ?_
  refine Tl_q (JO_q rfl rfl (Jq_fieldAddr rfl rfl fo29_2 rfl)) rfl ?_
  refine Tl_q (JO_q rfl rfl (Jq_load rfl rfl rfl (by decide) ty3 rfl)) rfl ?_
  refine Tl_q (JO_q rfl rfl (Jq_min rfl rfl rfl (r := min a.exp b.exp) (by split <;> omega))) rfl ?_
  refine Tl_q (JO_q rfl rfl (Jq_assign rfl rfl)) rfl ?_
  refine Tl_end ?_
  refine At_then ?_
  refine Tc_seq ?_
  refine Tc_seq ?_
  refine Tc_region ?_
  refine Tl_q (JO_q rfl rfl (Jq_fieldAddr rfl rfl fo29_1 rfl)) rfl ?_
  refine Tl_q (JO_q rfl rfl (Jq_load rfl rfl rfl (by decide) ty23 rfl)) rfl ?_
  refine Tl_q (JO_q rfl rfl (Jq_len rfl rfl un23)) rfl ?_
  by_cases ha0 : a.mag = 0
  · skip
    refine Tl_q (JO_q rfl rfl (Jq_eql rfl rfl rfl (b := true) (eT (by rw [ha0, limbs_zero]; rfl)))) rfl ?_
    refine Tl_end ?_
    refine At_then ?_
    refine Tc_t rfl ?_
    refine Tc_region ?_
    refine Tl_q (JO_q rfl rfl (Jq_fieldAddr rfl rfl fo29_2 rfl)) rfl ?_
    refine Tl_q (JO_q rfl rfl (Jq_load rfl rfl rfl (by decide) ty3 rfl)) rfl ?_
    refine Tl_q (JO_q rfl rfl (Jq_assign rfl rfl)) rfl ?_
    refine Tl_end ?_
    refine At_then ?_
    refine Tc_seq ?_
    refine Tc_seq ?_
    refine Tc_region ?_
    refine Tl_q (JO_q rfl rfl (Jq_fieldAddr rfl rfl fo29_1 rfl)) rfl ?_
    refine Tl_q (JO_q rfl rfl (Jq_load rfl rfl rfl (by decide) ty23 rfl)) rfl ?_
    refine Tl_q (JO_q rfl rfl (Jq_len rfl rfl un23)) rfl ?_
    by_cases hb0 : b.mag = 0
    · skip
      refine Tl_q (JO_q rfl rfl (Jq_eql rfl rfl rfl (b := true) (eT (by rw [hb0, limbs_zero]; rfl)))) rfl ?_
      refine Tl_end ?_
      refine At_then ?_
      refine Tc_t rfl ?_
      refine Tc_region ?_
      refine Tl_q (JO_q rfl rfl (Jq_fieldAddr rfl rfl fo29_2 rfl)) rfl ?_
      refine Tl_q (JO_q rfl rfl (Jq_load rfl rfl rfl (by decide) ty3 rfl)) rfl ?_
      refine Tl_q (JO_q rfl rfl (Jq_assign rfl rfl)) rfl ?_
      refine Tl_end ?_
      refine At_then ?_
      refine Tc_seq ?_
      have hw : wexp a b = a.exp := by unfold wexp; simp only [*, if_true, if_false]
      haveI j1 : Bn (a.mag * 2 ^ (a.exp - a.exp).toNat) (1000000 + 65537) := Bn.shift 65537 inferInstance (by omega)
      haveI j2 : Bn (b.mag * 2 ^ (b.exp - a.exp).toNat) (1000000 + 65537) := Bn.shift 65537 inferInstance (by omega)
      refine Tc_drawK 0 [none, none, none, none, none, none, none, none, none, none, none, none, none, none, none, none, none, none, none, none, none, some 2, some 3, none] [2, 3] follows (by kernel_rfl) ?_
      refine DK_q (JO_q rfl rfl (Jq_fieldAddr rfl rfl fo29_0 rfl)) ?_
      refine DK_q (JO_q rfl rfl (Jq_load rfl rfl rfl (by decide) ty4 rfl)) ?_
      refine DK_q (JO_q rfl rfl (Jq_fieldAddr rfl rfl fo29_1 rfl)) ?_
      refine DK_q (JO_q rfl rfl (Jq_load rfl rfl rfl (by decide) ty23 rfl)) ?_
      refine DK_q (JO_q rfl rfl (Jq_fieldAddr rfl rfl fo29_2 rfl)) ?_
      refine DK_q (JO_q rfl rfl (Jq_load rfl rfl rfl (by decide) ty3 rfl)) ?_
      refine DK_q (JO_q rfl rfl (Jq_move rfl rfl)) ?_
      refine DK_q (JO_q rfl rfl (Jq_sub rfl rfl rfl (r := a.exp - a.exp) (w64 (by omega) (by omega) (by omega)))) ?_
      refine DK_c rfl rfl (Jd_call rfl fn61 rfl (dshl_spec a.mag (a.exp - a.exp) (by omega) (Bn.use (by omega)))) ?_
      refine DK_c rfl rfl (Jd_call rfl fn92 rfl (zmake a.neg (limbs (a.mag * 2 ^ (a.exp - a.exp).toNat)) (small_limbs _) (Bn.use (by omega)) (a.mag * 2 ^ (a.exp - a.exp).toNat) (val_limbs _))) ?_
      refine DK_q (JO_q rfl rfl (Jq_fieldAddr rfl rfl fo29_0 rfl)) ?_
      refine DK_q (JO_q rfl rfl (Jq_load rfl rfl rfl (by decide) ty4 rfl)) ?_
      refine DK_q (JO_q rfl rfl (Jq_fieldAddr rfl rfl fo29_1 rfl)) ?_
      refine DK_q (JO_q rfl rfl (Jq_load rfl rfl rfl (by decide) ty23 rfl)) ?_
      refine DK_q (JO_q rfl rfl (Jq_fieldAddr rfl rfl fo29_2 rfl)) ?_
      refine DK_q (JO_q rfl rfl (Jq_load rfl rfl rfl (by decide) ty3 rfl)) ?_
      refine DK_q (JO_q rfl rfl (Jq_move rfl rfl)) ?_
      refine DK_q (JO_q rfl rfl (Jq_sub rfl rfl rfl (r := b.exp - a.exp) (w64 (by omega) (by omega) (by omega)))) ?_
      refine DK_c rfl rfl (Jd_call rfl fn61 rfl (dshl_spec b.mag (b.exp - a.exp) (by omega) (Bn.use (by omega)))) ?_
      refine DK_c rfl rfl (Jd_call rfl fn92 rfl (zmake b.neg (limbs (b.mag * 2 ^ (b.exp - a.exp).toNat)) (small_limbs _) (Bn.use (by omega)) (b.mag * 2 ^ (b.exp - a.exp).toNat) (val_limbs _))) ?_
      refine DK_q (JO_q rfl rfl (Jq_move rfl rfl)) ?_
      refine DK_s 2 rfl rfl rfl (Jd_store rfl rfl rfl rfl ty65 rfl (by decide) (Nat.le_of_ble_eq_true rfl) rfl) ?_
      refine DK_s 3 rfl rfl rfl (Jd_store rfl rfl rfl rfl ty65 rfl (by decide) (Nat.le_of_ble_eq_true rfl) rfl) ?_
      refine DK_q (JO_q rfl rfl (Jq_assign rfl rfl)) ?_
      refine DK_nil ?_
      refine At_then ?_
      exact Tc_ret3 (fun _ _ h => h) rfl (⟨_, _, rfl, rfl, .inl ⟨ty65, Nat.le_of_ble_eq_true rfl, rfl⟩⟩) (⟨_, _, rfl, rfl, .inl ⟨ty65, Nat.le_of_ble_eq_true rfl, rfl⟩⟩) rfl (by rw [hw] <;> rfl)
    · skip
      refine Tl_q (JO_q rfl rfl (Jq_eql rfl rfl rfl (b := false) (eF (by have := limbs_len_pos.2 hb0; omega)))) rfl ?_
      refine Tl_end ?_
      refine At_then ?_
      refine Tc_f rfl ?_
      refine Tc_skipA ?_
      refine At_then ?_
      refine Tc_seq ?_
      have hw : wexp a b = b.exp := by unfold wexp; simp only [*, if_true, if_false]
      haveI j1 : Bn (a.mag * 2 ^ (a.exp - b.exp).toNat) (1000000 + 65537) := Bn.shift 65537 inferInstance (by omega)
      haveI j2 : Bn (b.mag * 2 ^ (b.exp - b.exp).toNat) (1000000 + 65537) := Bn.shift 65537 inferInstance (by omega)
      refine Tc_drawK 0 [none, none, none, none, none, none, none, none, none, none, none, none, none, none, none, none, none, none, none, none, none, some 2, some 3, none] [2, 3] follows (by kernel_rfl) ?_
      refine DK_q (JO_q rfl rfl (Jq_fieldAddr rfl rfl fo29_0 rfl)) ?_
      refine DK_q (JO_q rfl rfl (Jq_load rfl rfl rfl (by decide) ty4 rfl)) ?_
      refine DK_q (JO_q rfl rfl (Jq_fieldAddr rfl rfl fo29_1 rfl)) ?_
      refine DK_q (JO_q rfl rfl (Jq_load rfl rfl rfl (by decide) ty23 rfl)) ?_
      refine DK_q (JO_q rfl rfl (Jq_fieldAddr rfl rfl fo29_2 rfl)) ?_
      refine DK_q (JO_q rfl rfl (Jq_load rfl rfl rfl (by decide) ty3 rfl)) ?_
      refine DK_q (JO_q rfl rfl (Jq_move rfl rfl)) ?_
      refine DK_q (JO_q rfl rfl (Jq_sub rfl rfl rfl (r := a.exp - b.exp) (w64 (by omega) (by omega) (by omega)))) ?_
      refine DK_c rfl rfl (Jd_call rfl fn61 rfl (dshl_spec a.mag (a.exp - b.exp) (by omega) (Bn.use (by omega)))) ?_
      refine DK_c rfl rfl (Jd_call rfl fn92 rfl (zmake a.neg (limbs (a.mag * 2 ^ (a.exp - b.exp).toNat)) (small_limbs _) (Bn.use (by omega)) (a.mag * 2 ^ (a.exp - b.exp).toNat) (val_limbs _))) ?_
      refine DK_q (JO_q rfl rfl (Jq_fieldAddr rfl rfl fo29_0 rfl)) ?_
      refine DK_q (JO_q rfl rfl (Jq_load rfl rfl rfl (by decide) ty4 rfl)) ?_
      refine DK_q (JO_q rfl rfl (Jq_fieldAddr rfl rfl fo29_1 rfl)) ?_
      refine DK_q (JO_q rfl rfl (Jq_load rfl rfl rfl (by decide) ty23 rfl)) ?_
      refine DK_q (JO_q rfl rfl (Jq_fieldAddr rfl rfl fo29_2 rfl)) ?_
      refine DK_q (JO_q rfl rfl (Jq_load rfl rfl rfl (by decide) ty3 rfl)) ?_
      refine DK_q (JO_q rfl rfl (Jq_move rfl rfl)) ?_
      refine DK_q (JO_q rfl rfl (Jq_sub rfl rfl rfl (r := b.exp - b.exp) (w64 (by omega) (by omega) (by omega)))) ?_
      refine DK_c rfl rfl (Jd_call rfl fn61 rfl (dshl_spec b.mag (b.exp - b.exp) (by omega) (Bn.use (by omega)))) ?_
      refine DK_c rfl rfl (Jd_call rfl fn92 rfl (zmake b.neg (limbs (b.mag * 2 ^ (b.exp - b.exp).toNat)) (small_limbs _) (Bn.use (by omega)) (b.mag * 2 ^ (b.exp - b.exp).toNat) (val_limbs _))) ?_
      refine DK_q (JO_q rfl rfl (Jq_move rfl rfl)) ?_
      refine DK_s 2 rfl rfl rfl (Jd_store rfl rfl rfl rfl ty65 rfl (by decide) (Nat.le_of_ble_eq_true rfl) rfl) ?_
      refine DK_s 3 rfl rfl rfl (Jd_store rfl rfl rfl rfl ty65 rfl (by decide) (Nat.le_of_ble_eq_true rfl) rfl) ?_
      refine DK_q (JO_q rfl rfl (Jq_assign rfl rfl)) ?_
      refine DK_nil ?_
      refine At_then ?_
      exact Tc_ret3 (fun _ _ h => h) rfl (⟨_, _, rfl, rfl, .inl ⟨ty65, Nat.le_of_ble_eq_true rfl, rfl⟩⟩) (⟨_, _, rfl, rfl, .inl ⟨ty65, Nat.le_of_ble_eq_true rfl, rfl⟩⟩) rfl (by rw [hw] <;> rfl)
  · skip
    refine Tl_q (JO_q rfl rfl (Jq_eql rfl rfl rfl (b := false) (eF (by have := limbs_len_pos.2 ha0; omega)))) rfl ?_
    refine Tl_end ?_
    refine At_then ?_
    refine Tc_f rfl ?_
    refine Tc_skipA ?_
    refine At_then ?_
    refine Tc_seq ?_
    refine Tc_seq ?_
    refine Tc_region ?_
    refine Tl_q (JO_q rfl rfl (Jq_fieldAddr rfl rfl fo29_1 rfl)) rfl ?_
    refine Tl_q (JO_q rfl rfl (Jq_load rfl rfl rfl (by decide) ty23 rfl)) rfl ?_
    refine Tl_q (JO_q rfl rfl (Jq_len rfl rfl un23)) rfl ?_
    by_cases hb0 : b.mag = 0
    · skip
      refine Tl_q (JO_q rfl rfl (Jq_eql rfl rfl rfl (b := true) (eT (by rw [hb0, limbs_zero]; rfl)))) rfl ?_
      refine Tl_end ?_
      refine At_then ?_
      refine Tc_t rfl ?_
      refine Tc_region ?_
      refine Tl_q (JO_q rfl rfl (Jq_fieldAddr rfl rfl fo29_2 rfl)) rfl ?_
      refine Tl_q (JO_q rfl rfl (Jq_load rfl rfl rfl (by decide) ty3 rfl)) rfl ?_
      refine Tl_q (JO_q rfl rfl (Jq_assign rfl rfl)) rfl ?_
      refine Tl_end ?_
      refine At_then ?_
      refine Tc_seq ?_
      have hw : wexp a b = a.exp := by unfold wexp; simp only [*, if_true, if_false]
      haveI j1 : Bn (a.mag * 2 ^ (a.exp - a.exp).toNat) (1000000 + 65537) := Bn.shift 65537 inferInstance (by omega)
      haveI j2 : Bn (b.mag * 2 ^ (b.exp - a.exp).toNat) (1000000 + 65537) := Bn.shift 65537 inferInstance (by omega)
      refine Tc_drawK 0 [none, none, none, none, none, none, none, none, none, none, none, none, none, none, none, none, none, none, none, none, none, some 2, some 3, none] [2, 3] follows (by kernel_rfl) ?_
      refine DK_q (JO_q rfl rfl (Jq_fieldAddr rfl rfl fo29_0 rfl)) ?_
      refine DK_q (JO_q rfl rfl (Jq_load rfl rfl rfl (by decide) ty4 rfl)) ?_
      refine DK_q (JO_q rfl rfl (Jq_fieldAddr rfl rfl fo29_1 rfl)) ?_
      refine DK_q (JO_q rfl rfl (Jq_load rfl rfl rfl (by decide) ty23 rfl)) ?_
      refine DK_q (JO_q rfl rfl (Jq_fieldAddr rfl rfl fo29_2 rfl)) ?_
      refine DK_q (JO_q rfl rfl (Jq_load rfl rfl rfl (by decide) ty3 rfl)) ?_
      refine DK_q (JO_q rfl rfl (Jq_move rfl rfl)) ?_
      refine DK_q (JO_q rfl rfl (Jq_sub rfl rfl rfl (r := a.exp - a.exp) (w64 (by omega) (by omega) (by omega)))) ?_
      refine DK_c rfl rfl (Jd_call rfl fn61 rfl (dshl_spec a.mag (a.exp - a.exp) (by omega) (Bn.use (by omega)))) ?_
      refine DK_c rfl rfl (Jd_call rfl fn92 rfl (zmake a.neg (limbs (a.mag * 2 ^ (a.exp - a.exp).toNat)) (small_limbs _) (Bn.use (by omega)) (a.mag * 2 ^ (a.exp - a.exp).toNat) (val_limbs _))) ?_
      refine DK_q (JO_q rfl rfl (Jq_fieldAddr rfl rfl fo29_0 rfl)) ?_
      refine DK_q (JO_q rfl rfl (Jq_load rfl rfl rfl (by decide) ty4 rfl)) ?_
      refine DK_q (JO_q rfl rfl (Jq_fieldAddr rfl rfl fo29_1 rfl)) ?_
      refine DK_q (JO_q rfl rfl (Jq_load rfl rfl rfl (by decide) ty23 rfl)) ?_
      refine DK_q (JO_q rfl rfl (Jq_fieldAddr rfl rfl fo29_2 rfl)) ?_
      refine DK_q (JO_q rfl rfl (Jq_load rfl rfl rfl (by decide) ty3 rfl)) ?_
      refine DK_q (JO_q rfl rfl (Jq_move rfl rfl)) ?_
      refine DK_q (JO_q rfl rfl (Jq_sub rfl rfl rfl (r := b.exp - a.exp) (w64 (by omega) (by omega) (by omega)))) ?_
      refine DK_c rfl rfl (Jd_call rfl fn61 rfl (dshl_spec b.mag (b.exp - a.exp) (by omega) (Bn.use (by omega)))) ?_
      refine DK_c rfl rfl (Jd_call rfl fn92 rfl (zmake b.neg (limbs (b.mag * 2 ^ (b.exp - a.exp).toNat)) (small_limbs _) (Bn.use (by omega)) (b.mag * 2 ^ (b.exp - a.exp).toNat) (val_limbs _))) ?_
      refine DK_q (JO_q rfl rfl (Jq_move rfl rfl)) ?_
      refine DK_s 2 rfl rfl rfl (Jd_store rfl rfl rfl rfl ty65 rfl (by decide) (Nat.le_of_ble_eq_true rfl) rfl) ?_
      refine DK_s 3 rfl rfl rfl (Jd_store rfl rfl rfl rfl ty65 rfl (by decide) (Nat.le_of_ble_eq_true rfl) rfl) ?_
      refine DK_q (JO_q rfl rfl (Jq_assign rfl rfl)) ?_
      refine DK_nil ?_
      refine At_then ?_
      exact Tc_ret3 (fun _ _ h => h) rfl (⟨_, _, rfl, rfl, .inl ⟨ty65, Nat.le_of_ble_eq_true rfl, rfl⟩⟩) (⟨_, _, rfl, rfl, .inl ⟨ty65, Nat.le_of_ble_eq_true rfl, rfl⟩⟩) rfl (by rw [hw] <;> rfl)
    · skip
      refine Tl_q (JO_q rfl rfl (Jq_eql rfl rfl rfl (b := false) (eF (by have := limbs_len_pos.2 hb0; omega)))) rfl ?_
      refine Tl_end ?_
      refine At_then ?_
      refine Tc_f rfl ?_
      refine Tc_skipA ?_
      refine At_then ?_
      refine Tc_seq ?_
      have hw : wexp a b = min a.exp b.exp := by unfold wexp; simp only [*, if_true, if_false]
      haveI j1 : Bn (a.mag * 2 ^ (a.exp - min a.exp b.exp).toNat) (1000000 + 65537) := Bn.shift 65537 inferInstance (by omega)
      haveI j2 : Bn (b.mag * 2 ^ (b.exp - min a.exp b.exp).toNat) (1000000 + 65537) := Bn.shift 65537 inferInstance (by omega)
      refine Tc_drawK 0 [none, none, none, none, none, none, none, none, none, none, none, none, none, none, none, none, none, none, none, none, none, some 2, some 3, none] [2, 3] follows (by kernel_rfl) ?_
      refine DK_q (JO_q rfl rfl (Jq_fieldAddr rfl rfl fo29_0 rfl)) ?_
      refine DK_q (JO_q rfl rfl (Jq_load rfl rfl rfl (by decide) ty4 rfl)) ?_
      refine DK_q (JO_q rfl rfl (Jq_fieldAddr rfl rfl fo29_1 rfl)) ?_
      refine DK_q (JO_q rfl rfl (Jq_load rfl rfl rfl (by decide) ty23 rfl)) ?_
      refine DK_q (JO_q rfl rfl (Jq_fieldAddr rfl rfl fo29_2 rfl)) ?_
      refine DK_q (JO_q rfl rfl (Jq_load rfl rfl rfl (by decide) ty3 rfl)) ?_
      refine DK_q (JO_q rfl rfl (Jq_move rfl rfl)) ?_
      refine DK_q (JO_q rfl rfl (Jq_sub rfl rfl rfl (r := a.exp - min a.exp b.exp) (w64 (by omega) (by omega) (by omega)))) ?_
      refine DK_c rfl rfl (Jd_call rfl fn61 rfl (dshl_spec a.mag (a.exp - min a.exp b.exp) (by omega) (Bn.use (by omega)))) ?_
      refine DK_c rfl rfl (Jd_call rfl fn92 rfl (zmake a.neg (limbs (a.mag * 2 ^ (a.exp - min a.exp b.exp).toNat)) (small_limbs _) (Bn.use (by omega)) (a.mag * 2 ^ (a.exp - min a.exp b.exp).toNat) (val_limbs _))) ?_
      refine DK_q (JO_q rfl rfl (Jq_fieldAddr rfl rfl fo29_0 rfl)) ?_
      refine DK_q (JO_q rfl rfl (Jq_load rfl rfl rfl (by decide) ty4 rfl)) ?_
      refine DK_q (JO_q rfl rfl (Jq_fieldAddr rfl rfl fo29_1 rfl)) ?_
      refine DK_q (JO_q rfl rfl (Jq_load rfl rfl rfl (by decide) ty23 rfl)) ?_
      refine DK_q (JO_q rfl rfl (Jq_fieldAddr rfl rfl fo29_2 rfl)) ?_
      refine DK_q (JO_q rfl rfl (Jq_load rfl rfl rfl (by decide) ty3 rfl)) ?_
      refine DK_q (JO_q rfl rfl (Jq_move rfl rfl)) ?_
      refine DK_q (JO_q rfl rfl (Jq_sub rfl rfl rfl (r := b.exp - min a.exp b.exp) (w64 (by omega) (by omega) (by omega)))) ?_
      refine DK_c rfl rfl (Jd_call rfl fn61 rfl (dshl_spec b.mag (b.exp - min a.exp b.exp) (by omega) (Bn.use (by omega)))) ?_
      refine DK_c rfl rfl (Jd_call rfl fn92 rfl (zmake b.neg (limbs (b.mag * 2 ^ (b.exp - min a.exp b.exp).toNat)) (small_limbs _) (Bn.use (by omega)) (b.mag * 2 ^ (b.exp - min a.exp b.exp).toNat) (val_limbs _))) ?_
      refine DK_q (JO_q rfl rfl (Jq_move rfl rfl)) ?_
      refine DK_s 2 rfl rfl rfl (Jd_store rfl rfl rfl rfl ty65 rfl (by decide) (Nat.le_of_ble_eq_true rfl) rfl) ?_
      refine DK_s 3 rfl rfl rfl (Jd_store rfl rfl rfl rfl ty65 rfl (by decide) (Nat.le_of_ble_eq_true rfl) rfl) ?_
      refine DK_q (JO_q rfl rfl (Jq_assign rfl rfl)) ?_
      refine DK_nil ?_
      refine At_then ?_
      exact Tc_ret3 (fun _ _ h => h) rfl (⟨_, _, rfl, rfl, .inl ⟨ty65, Nat.le_of_ble_eq_true rfl, rfl⟩⟩) (⟨_, _, rfl, rfl, .inl ⟨ty65, Nat.le_of_ble_eq_true rfl, rfl⟩⟩) rfl (by rw [hw] <;> rfl)

set_option maxRecDepth 10000 in
theorem dcmp (a b : Dy) (ha : Dfit 1000000 a) (hb : Dfit 1000000 b) : Ctr Tryd.prog 37 [dV a, dV b] (R.one (V.one (Leaf.val (.int .i64 (cmpz (wint a (wexp a b)) (wint b (wexp a b))))))) := by
  refine Ctr.of_body Tryd.func37 rfl Tryd.ntmps37 (Nat.le_of_ble_eq_true rfl) (fun w0 A0 => ?_)
  haveI ia : Bd a 1000000 := ⟨ha⟩
  haveI ib : Bd b 1000000 := ⟨hb⟩
  have h1 := ha.lo; have h2 := ha.hi; have h3 := hb.lo; have h4 := hb.hi
  have hw := wexp_b ia ib
  haveI w1 := Bz.wint (a := a) (w := wexp a b) 65537 ia (by omega)
  haveI w2 := Bz.wint (a := b) (w := wexp a b) 65537 ib (by omega)
  refine Tc_seq ?_
  refine Tc_region ?_
  refine Tl_e (JO_e rfl rfl (Je_box (n := 0) rfl rfl rfl)) rfl rfl ?_
  refine Tl_e (JO_e rfl rfl (Je_box (n := 1) rfl rfl rfl)) rfl rfl ?_
  refine Tl_q (JO_q rfl rfl (Jq_assign rfl rfl)) rfl ?_
  refine Tl_end ?_
  refine At_then ?_
  refine Tc_seq ?_
  refine Tc_region ?_
  refine Tl_q (JO_q rfl rfl (Jq_load_agg rfl rfl rfl (by decide) ty29 (by decide) (Nat.le_of_ble_eq_true rfl) rfl)) rfl ?_
  refine Tl_q (JO_q rfl rfl (Jq_load_agg rfl rfl rfl (by decide) ty29 (by decide) (Nat.le_of_ble_eq_true rfl) rfl)) rfl ?_
  refine Tl_e (JO_e rfl rfl (Je_call rfl fn64 rfl (dwhole a b (Bd.use (by omega)) (Bd.use (by omega))))) rfl rfl ?_
  refine Tl_q (JO_q rfl rfl (Jq_move rfl rfl)) rfl ?_
  refine Tl_q (JO_q rfl rfl (Jq_extract rfl rfl rfl)) rfl ?_
  refine Tl_q (JO_q rfl rfl (Jq_extract rfl rfl rfl)) rfl ?_
  refine Tl_q (JO_q rfl rfl (Jq_extract rfl rfl rfl)) rfl ?_
  refine Tl_e (JO_e rfl rfl (Je_alloc (n := 2) rfl tz65 rfl)) rfl rfl ?_
  refine Tl_e (JO_e rfl rfl (Je_alloc (n := 3) rfl tz65 rfl)) rfl rfl ?_
  refine Tl_e (JO_e rfl rfl (Je_store rfl rfl rfl rfl ty65 rfl (by decide) (Nat.le_of_ble_eq_true rfl) rfl)) rfl rfl ?_
  refine Tl_e (JO_e rfl rfl (Je_store rfl rfl rfl rfl ty65 rfl (by decide) (Nat.le_of_ble_eq_true rfl) rfl)) rfl rfl ?_
  refine Tl_q (JO_q rfl rfl (Jq_assign rfl rfl)) rfl ?_
  refine Tl_end ?_
  refine At_then ?_
  refine Tc_seq ?_
  refine Tc_region ?_
  refine Tl_q (JO_q rfl rfl (Jq_load_agg rfl rfl rfl (by decide) ty65 (by decide) (Nat.le_of_ble_eq_true rfl) rfl)) rfl ?_
  refine Tl_q (JO_q rfl rfl (Jq_load_agg rfl rfl rfl (by decide) ty65 (by decide) (Nat.le_of_ble_eq_true rfl) rfl)) rfl ?_
  refine Tl_e (JO_e rfl rfl (Je_call rfl fn68 rfl (zcmp (zOf (wint a (wexp a b))) (wint a (wexp a b)) (zOf_z _) (Bz.use (by omega)) (zOf (wint b (wexp a b))) (wint b (wexp a b)) (zOf_z _) (Bz.use (by omega))))) rfl rfl ?_
  refine Tl_q (JO_q rfl rfl (Jq_assign rfl rfl)) rfl ?_
  refine Tl_end ?_
  refine At_then ?_
  exact Tc_ret1 (fun _ _ h => h) rfl rfl rfl

set_option maxRecDepth 10000 in
theorem dresult (s : Bool) (l : List Nat) (e : Int) (hs : Small l) (hl : l.length ≤ 100000000000) (he1 : -1000000000000000 ≤ e) (he2 : e ≤ 1000000000000000) (n : Nat) (hn : val l = n) : Ctr Tryd.prog 66 [V.one (Leaf.val (.bool s)), V.one (natL l), V.one (Leaf.val (.int .i64 e))] (R.tup [dV (nrm s n e), V.one (Leaf.val (.int .i64 (eOf (nok n e))))]) := by
  refine Ctr.of_body Tryd.func66 rfl Tryd.ntmps66 (Nat.le_of_ble_eq_true rfl) (fun w0 A0 => ?_)
  haveI i0 : Bn n 100000000000 := by subst hn; exact Bn.val hs hl
  refine Tc_seq ?_
  refine Tc_region ?_
  refine Tl_e (JO_e rfl rfl (Je_alloc (n := 0) rfl tz29 rfl)) rfl rfl ?_
  refine Tl_q (JO_q rfl rfl (Jq_assign rfl rfl)) rfl ?_
  refine Tl_end ?_
  refine At_then ?_
  refine Tc_seq ?_
  refine Tc_region ?_
  refine Tl_q (JO_q rfl rfl (Jq_move rfl rfl)) rfl ?_
  refine Tl_q (JO_q rfl rfl (Jq_move rfl rfl)) rfl ?_
  refine Tl_q (JO_q rfl rfl (Jq_move rfl rfl)) rfl ?_
  refine Tl_e (JO_e rfl rfl (Je_call rfl fn58 rfl (dnormal s l e hs (Nat.le_trans hl (by omega)) (by omega) (by omega) (n) hn))) rfl rfl ?_
  refine Tl_q (JO_q rfl rfl (Jq_move rfl rfl)) rfl ?_
  refine Tl_q (JO_q rfl rfl (Jq_extract rfl rfl rfl)) rfl ?_
  refine Tl_q (JO_q rfl rfl (Jq_extract rfl rfl rfl)) rfl ?_
  refine Tl_e (JO_e rfl rfl (Je_alloc (n := 1) rfl tz29 rfl)) rfl rfl ?_
  refine Tl_e (JO_e rfl rfl (Je_store rfl rfl rfl rfl ty29 rfl (by decide) (Nat.le_of_ble_eq_true rfl) rfl)) rfl rfl ?_
  refine Tl_q (JO_q rfl rfl (Jq_assign rfl rfl)) rfl ?_
  refine Tl_end ?_
  refine At_then ?_
  refine Tc_seq ?_
  refine Tc_seq ?_
  refine Tc_region ?_
  refine Tl_q (JO_q rfl rfl (Jq_move rfl rfl)) rfl ?_
  refine Tl_q (JO_q rfl rfl (Jq_not rfl rfl (c := _) rfl)) rfl ?_
  refine Tl_end ?_
  refine At_then ?_
  refine Tc_cond rfl (fun hc18 => ?_) (fun hc18 => ?_)
  · skip
    refine Tc_seq ?_
    refine Tc_region ?_
    refine Tl_q (JO_q rfl rfl (Jq_build rfl tz29 rfl pl29 rfl)) rfl ?_
    refine Tl_e (JO_e rfl rfl (Je_store rfl rfl rfl rfl ty29 rfl (by decide) (Nat.le_of_ble_eq_true rfl) rfl)) rfl rfl ?_
    refine Tl_q (JO_q rfl rfl (Jq_assign rfl rfl)) rfl ?_
    refine Tl_end ?_
    refine At_then ?_
    exact Tc_ret2 (fun _ _ h => h) rfl (⟨_, _, rfl, rfl, .inl ⟨ty29, Nat.le_of_ble_eq_true rfl, rfl⟩⟩) rfl (by have h : nok n e = false := (by simpa using hc18); rw [h, nrm_no h, dV_zero] <;> rfl)
  · skip
    refine Tc_skipA ?_
    refine At_then ?_
    refine Tc_seq ?_
    refine Tc_region ?_
    refine Tl_q (JO_q rfl rfl (Jq_load_agg rfl rfl rfl (by decide) ty29 (by decide) (Nat.le_of_ble_eq_true rfl) rfl)) rfl ?_
    refine Tl_e (JO_e rfl rfl (Je_store rfl rfl rfl rfl ty29 rfl (by decide) (Nat.le_of_ble_eq_true rfl) rfl)) rfl rfl ?_
    refine Tl_q (JO_q rfl rfl (Jq_assign rfl rfl)) rfl ?_
    refine Tl_end ?_
    refine At_then ?_
    exact Tc_ret2 (fun _ _ h => h) rfl (⟨_, _, rfl, rfl, .inl ⟨ty29, Nat.le_of_ble_eq_true rfl, rfl⟩⟩) rfl (by have h : nok n e = true := (by simpa using hc18); rw [h] <;> rfl)

set_option maxRecDepth 10000 in
theorem dadd (a b : Dy) (ha : Dfit 1000000 a) (hb : Dfit 1000000 b) : Ctr Tryd.prog 35 [dV a, dV b] (R.tup [dV (addD a b), V.one (Leaf.val (.int .i64 (eOf (addOk a b))))]) := by
  refine Ctr.of_body Tryd.func35 rfl Tryd.ntmps35 (Nat.le_of_ble_eq_true rfl) (fun w0 A0 => ?_)
  haveI ia : Bd a 1000000 := ⟨ha⟩
  haveI ib : Bd b 1000000 := ⟨hb⟩
  have h1 := ha.lo; have h2 := ha.hi; have h3 := hb.lo; have h4 := hb.hi
  have hw := wexp_b ia ib
  haveI w1 := Bz.wint (a := a) (w := wexp a b) 65537 ia (by omega)
  haveI w2 := Bz.wint (a := b) (w := wexp a b) 65537 ib (by omega)
  refine Tc_seq ?_
  refine Tc_region ?_
  refine Tl_e (JO_e rfl rfl (Je_box (n := 0) rfl rfl rfl)) rfl rfl ?_
  refine Tl_e (JO_e rfl rfl (Je_box (n := 1) rfl rfl rfl)) rfl rfl ?_
  refine Tl_e (JO_e rfl rfl (Je_alloc (n := 2) rfl tz29 rfl)) rfl rfl ?_
  refine Tl_q (JO_q rfl rfl (Jq_assign rfl rfl)) rfl ?_
  refine Tl_end ?_
  refine At_then ?_
  refine Tc_seq ?_
  refine Tc_region ?_
  refine Tl_q (JO_q rfl rfl (Jq_load_agg rfl rfl rfl (by decide) ty29 (by decide) (Nat.le_of_ble_eq_true rfl) rfl)) rfl ?_
  refine Tl_q (JO_q rfl rfl (Jq_load_agg rfl rfl rfl (by decide) ty29 (by decide) (Nat.le_of_ble_eq_true rfl) rfl)) rfl ?_
  refine Tl_e (JO_e rfl rfl (Je_call rfl fn64 rfl (dwhole a b (Bd.use (by omega)) (Bd.use (by omega))))) rfl rfl ?_
  refine Tl_q (JO_q rfl rfl (Jq_move rfl rfl)) rfl ?_
  refine Tl_q (JO_q rfl rfl (Jq_extract rfl rfl rfl)) rfl ?_
  refine Tl_q (JO_q rfl rfl (Jq_extract rfl rfl rfl)) rfl ?_
  refine Tl_q (JO_q rfl rfl (Jq_extract rfl rfl rfl)) rfl ?_
  refine Tl_e (JO_e rfl rfl (Je_alloc (n := 3) rfl tz65 rfl)) rfl rfl ?_
  refine Tl_e (JO_e rfl rfl (Je_alloc (n := 4) rfl tz65 rfl)) rfl rfl ?_
  refine Tl_e (JO_e rfl rfl (Je_store rfl rfl rfl rfl ty65 rfl (by decide) (Nat.le_of_ble_eq_true rfl) rfl)) rfl rfl ?_
  refine Tl_e (JO_e rfl rfl (Je_store rfl rfl rfl rfl ty65 rfl (by decide) (Nat.le_of_ble_eq_true rfl) rfl)) rfl rfl ?_
  refine Tl_q (JO_q rfl rfl (Jq_assign rfl rfl)) rfl ?_
  refine Tl_end ?_
  refine At_then ?_
  refine Tc_seq ?_
  refine Tc_region ?_
  refine Tl_q (JO_q rfl rfl (Jq_load_agg rfl rfl rfl (by decide) ty65 (by decide) (Nat.le_of_ble_eq_true rfl) rfl)) rfl ?_
  refine Tl_q (JO_q rfl rfl (Jq_load_agg rfl rfl rfl (by decide) ty65 (by decide) (Nat.le_of_ble_eq_true rfl) rfl)) rfl ?_
  refine Tl_e (JO_e rfl rfl (Je_call rfl fn65 rfl (zadd (zOf (wint a (wexp a b))) (wint a (wexp a b)) (zOf_z _) (Bz.use (by omega)) (zOf (wint b (wexp a b))) (wint b (wexp a b)) (zOf_z _) (Bz.use (by omega))))) rfl rfl ?_
  refine Tl_e (JO_e rfl rfl (Je_alloc (n := 5) rfl tz65 rfl)) rfl rfl ?_
  refine Tl_e (JO_e rfl rfl (Je_store rfl rfl rfl rfl ty65 rfl (by decide) (Nat.le_of_ble_eq_true rfl) rfl)) rfl rfl ?_
  refine Tl_end ?_
  refine At_then ?_
  refine Tc_seq ?_
  refine Tc_region ?_
  refine Tl_q (JO_q rfl rfl (Jq_fieldAddr rfl rfl fo65_0 rfl)) rfl ?_
  refine Tl_q (JO_q rfl rfl (Jq_load rfl rfl rfl (by decide) ty4 rfl)) rfl ?_
  refine Tl_q (JO_q rfl rfl (Jq_fieldAddr rfl rfl fo65_1 rfl)) rfl ?_
  refine Tl_q (JO_q rfl rfl (Jq_load rfl rfl rfl (by decide) ty23 rfl)) rfl ?_
  refine Tl_q (JO_q rfl rfl (Jq_move rfl rfl)) rfl ?_
  refine Tl_e (JO_e rfl rfl (Je_call rfl fn66 rfl (dresult (decide ((wint a (wexp a b)) + (wint b (wexp a b)) < 0)) (limbs (Int.natAbs ((wint a (wexp a b)) + (wint b (wexp a b))))) (wexp a b) (small_limbs _) (Bz.use (z := (wint a (wexp a b)) + (wint b (wexp a b))) (by omega)) (by omega) (by omega) (Int.natAbs ((wint a (wexp a b)) + (wint b (wexp a b)))) (val_limbs _)))) rfl rfl ?_
  refine Tl_q (JO_q rfl rfl (Jq_extract rfl rfl rfl)) rfl ?_
  refine Tl_q (JO_q rfl rfl (Jq_extract rfl rfl rfl)) rfl ?_
  refine Tl_e (JO_e rfl rfl (Je_store rfl rfl rfl rfl ty29 rfl (by decide) (Nat.le_of_ble_eq_true rfl) rfl)) rfl rfl ?_
  refine Tl_q (JO_q rfl rfl (Jq_assign rfl rfl)) rfl ?_
  refine Tl_end ?_
  refine At_then ?_
  exact Tc_ret2 (fun _ _ h => h) rfl (⟨_, _, rfl, rfl, .inl ⟨ty29, Nat.le_of_ble_eq_true rfl, rfl⟩⟩) rfl rfl

set_option maxRecDepth 10000 in
theorem dmul (a b : Dy) (ha : Dfit 1000000 a) (hb : Dfit 1000000 b) : Ctr Tryd.prog 36 [dV a, dV b] (R.tup [dV (mulD a b), V.one (Leaf.val (.int .i64 (eOf (mulOk a b))))]) := by
  refine Ctr.of_body Tryd.func36 rfl Tryd.ntmps36 (Nat.le_of_ble_eq_true rfl) (fun w0 A0 => ?_)
  haveI ia : Bd a 1000000 := ⟨ha⟩
  haveI ib : Bd b 1000000 := ⟨hb⟩
  have h1 := ha.lo; have h2 := ha.hi; have h3 := hb.lo; have h4 := hb.hi
  refine Tc_seq ?_
  refine Tc_region ?_
  refine Tl_e (JO_e rfl rfl (Je_box (n := 0) rfl rfl rfl)) rfl rfl ?_
  refine Tl_e (JO_e rfl rfl (Je_box (n := 1) rfl rfl rfl)) rfl rfl ?_
  refine Tl_e (JO_e rfl rfl (Je_alloc (n := 2) rfl tz29 rfl)) rfl rfl ?_
  refine Tl_q (JO_q rfl rfl (Jq_assign rfl rfl)) rfl ?_
  refine Tl_end ?_
  refine At_then ?_
  refine Tc_seq ?_
  refine Tc_drawK 0 [none, none, none, none, none, none, none, none, none, none, none, none, none, none, none, none, none, none, some 2, none] [2] follows (by kernel_rfl) ?_
  refine DK_q (JO_q rfl rfl (Jq_fieldAddr rfl rfl fo29_0 rfl)) ?_
  refine DK_q (JO_q rfl rfl (Jq_load rfl rfl rfl (by decide) ty4 rfl)) ?_
  refine DK_q (JO_q rfl rfl (Jq_fieldAddr rfl rfl fo29_0 rfl)) ?_
  refine DK_q (JO_q rfl rfl (Jq_load rfl rfl rfl (by decide) ty4 rfl)) ?_
  refine DK_q (JO_q rfl rfl (Jq_neq_bool rfl rfl rfl un4 (d := _) (rfl))) ?_
  refine DK_q (JO_q rfl rfl (Jq_fieldAddr rfl rfl fo29_1 rfl)) ?_
  refine DK_q (JO_q rfl rfl (Jq_load rfl rfl rfl (by decide) ty23 rfl)) ?_
  refine DK_q (JO_q rfl rfl (Jq_fieldAddr rfl rfl fo29_1 rfl)) ?_
  refine DK_q (JO_q rfl rfl (Jq_load rfl rfl rfl (by decide) ty23 rfl)) ?_
  refine DK_c rfl rfl (Jd_call rfl fn67 rfl (mul_w (limbs (a.mag)) (small_limbs _) (Bn.use (by omega)) (limbs (b.mag)) (small_limbs _) (Bn.use (by omega)) (a.mag) (val_limbs _) (b.mag) (val_limbs _))) ?_
  refine DK_q (JO_q rfl rfl (Jq_fieldAddr rfl rfl fo29_2 rfl)) ?_
  refine DK_q (JO_q rfl rfl (Jq_load rfl rfl rfl (by decide) ty3 rfl)) ?_
  refine DK_q (JO_q rfl rfl (Jq_fieldAddr rfl rfl fo29_2 rfl)) ?_
  refine DK_q (JO_q rfl rfl (Jq_load rfl rfl rfl (by decide) ty3 rfl)) ?_
  refine DK_q (JO_q rfl rfl (Jq_add rfl rfl rfl (r := a.exp + b.exp) (w64 (by omega) (by omega) (by omega)))) ?_
  refine DK_c rfl rfl (Jd_call rfl fn66 rfl (dresult (a.neg != b.neg) (limbs ((a.mag) * (b.mag))) (a.exp + b.exp) (small_limbs _) (Bn.use (by omega)) (by omega) (by omega) ((a.mag) * (b.mag)) (val_limbs _))) ?_
  refine DK_q (JO_q rfl rfl (Jq_extract rfl rfl rfl)) ?_
  refine DK_q (JO_q rfl rfl (Jq_extract rfl rfl rfl)) ?_
  refine DK_s 2 rfl rfl rfl (Jd_store rfl rfl rfl rfl ty29 rfl (by decide) (Nat.le_of_ble_eq_true rfl) rfl) ?_
  refine DK_q (JO_q rfl rfl (Jq_assign rfl rfl)) ?_
  refine DK_nil ?_
  refine At_then ?_
  exact Tc_ret2 (fun _ _ h => h) rfl (⟨_, _, rfl, rfl, .inl ⟨ty29, Nat.le_of_ble_eq_true rfl, rfl⟩⟩) rfl rfl

set_option maxRecDepth 10000 in
theorem rdmul (a b : Dy) (ha : Dfit 1000000 a) (hb : Dfit 1000000 b) : Ctr Tryd.prog 39 [dV a, dV b] (R.tup [dV (mulD a b), V.one (Leaf.val (.int .i64 (eOf (mulOk a b))))]) := by
  refine Ctr.of_body Tryd.func39 rfl Tryd.ntmps39 (Nat.le_of_ble_eq_true rfl) (fun w0 A0 => ?_)
  haveI ia : Bd a 1000000 := ⟨ha⟩
  haveI ib : Bd b 1000000 := ⟨hb⟩
  have h1 := ha.lo; have h2 := ha.hi; have h3 := hb.lo; have h4 := hb.hi
  refine Tc_seq ?_
  refine Tc_region ?_
  refine Tl_e (JO_e rfl rfl (Je_box (n := 0) rfl rfl rfl)) rfl rfl ?_
  refine Tl_e (JO_e rfl rfl (Je_box (n := 1) rfl rfl rfl)) rfl rfl ?_
  refine Tl_e (JO_e rfl rfl (Je_alloc (n := 2) rfl tz29 rfl)) rfl rfl ?_
  refine Tl_q (JO_q rfl rfl (Jq_assign rfl rfl)) rfl ?_
  refine Tl_end ?_
  refine At_then ?_
  refine Tc_seq ?_
  refine Tc_drawK 1 [none, none, none, none, none, none, none, none, none, none, none, none, none, none, none, none, none, none, none, some 3, some 3, none] [3] follows (by kernel_rfl) ?_
  refine DK_q (JO_q rfl rfl (Jq_fieldAddr rfl rfl fo29_0 rfl)) ?_
  refine DK_q (JO_q rfl rfl (Jq_load rfl rfl rfl (by decide) ty4 rfl)) ?_
  refine DK_q (JO_q rfl rfl (Jq_fieldAddr rfl rfl fo29_0 rfl)) ?_
  refine DK_q (JO_q rfl rfl (Jq_load rfl rfl rfl (by decide) ty4 rfl)) ?_
  refine DK_q (JO_q rfl rfl (Jq_neq_bool rfl rfl rfl un4 (d := _) (rfl))) ?_
  refine DK_q (JO_q rfl rfl (Jq_fieldAddr rfl rfl fo29_1 rfl)) ?_
  refine DK_q (JO_q rfl rfl (Jq_load rfl rfl rfl (by decide) ty23 rfl)) ?_
  refine DK_q (JO_q rfl rfl (Jq_fieldAddr rfl rfl fo29_1 rfl)) ?_
  refine DK_q (JO_q rfl rfl (Jq_load rfl rfl rfl (by decide) ty23 rfl)) ?_
  refine DK_c rfl rfl (Jd_call rfl fn53 rfl (rmul_w (limbs (a.mag)) (limbs (b.mag)) (small_limbs _) (small_limbs _) (Bn.use (by omega)) (Bn.use (by omega)) (a.mag) (b.mag) (val_limbs _) (val_limbs _))) ?_
  refine DK_q (JO_q rfl rfl (Jq_fieldAddr rfl rfl fo29_2 rfl)) ?_
  refine DK_q (JO_q rfl rfl (Jq_load rfl rfl rfl (by decide) ty3 rfl)) ?_
  refine DK_q (JO_q rfl rfl (Jq_fieldAddr rfl rfl fo29_2 rfl)) ?_
  refine DK_q (JO_q rfl rfl (Jq_load rfl rfl rfl (by decide) ty3 rfl)) ?_
  refine DK_q (JO_q rfl rfl (Jq_add rfl rfl rfl (r := a.exp + b.exp) (w64 (by omega) (by omega) (by omega)))) ?_
  refine DK_c rfl rfl (Jd_call rfl fn49 rfl (dcanon (a.neg != b.neg) (limbs ((a.mag) * (b.mag))) (a.exp + b.exp) (small_limbs _) (Bn.use (by omega)) (by omega) (by omega) ((a.mag) * (b.mag)) (val_limbs _))) ?_
  refine DK_q (JO_q rfl rfl (Jq_move rfl rfl)) ?_
  refine DK_q (JO_q rfl rfl (Jq_extract rfl rfl rfl)) ?_
  refine DK_q (JO_q rfl rfl (Jq_extract rfl rfl rfl)) ?_
  refine DK_s 3 rfl rfl rfl (Jd_alloc (i := 3) rfl tz29 rfl) ?_
  refine DK_s 3 rfl rfl rfl (Jd_store rfl rfl rfl rfl ty29 rfl (by decide) (Nat.le_of_ble_eq_true rfl) rfl) ?_
  refine DK_q (JO_q rfl rfl (Jq_assign rfl rfl)) ?_
  refine DK_nil ?_
  refine At_then ?_
  refine Tc_seq ?_
  refine Tc_seq ?_
  refine Tc_region ?_
  refine Tl_q (JO_q rfl rfl (Jq_move rfl rfl)) rfl ?_
  refine Tl_q (JO_q rfl rfl (Jq_not rfl rfl (c := _) rfl)) rfl ?_
  refine Tl_end ?_
  refine At_then ?_
  refine Tc_cond rfl (fun hc28 => ?_) (fun hc28 => ?_)
  · skip
    refine Tc_seq ?_
    refine Tc_region ?_
    refine Tl_q (JO_q rfl rfl (Jq_build rfl tz29 rfl pl29 rfl)) rfl ?_
    refine Tl_e (JO_e rfl rfl (Je_store rfl rfl rfl rfl ty29 rfl (by decide) (Nat.le_of_ble_eq_true rfl) rfl)) rfl rfl ?_
    refine Tl_q (JO_q rfl rfl (Jq_assign rfl rfl)) rfl ?_
    refine Tl_end ?_
    refine At_then ?_
    exact Tc_ret2 (fun _ _ h => h) rfl (⟨_, _, rfl, rfl, .inl ⟨ty29, Nat.le_of_ble_eq_true rfl, rfl⟩⟩) rfl (by have h : nok (a.mag * b.mag) (a.exp + b.exp) = false := (by simpa using hc28); unfold mulD mulOk; rw [h, nrm_no h, dV_zero] <;> rfl)
  · skip
    refine Tc_skipA ?_
    refine At_then ?_
    refine Tc_seq ?_
    refine Tc_region ?_
    refine Tl_q (JO_q rfl rfl (Jq_load_agg rfl rfl rfl (by decide) ty29 (by decide) (Nat.le_of_ble_eq_true rfl) rfl)) rfl ?_
    refine Tl_e (JO_e rfl rfl (Je_store rfl rfl rfl rfl ty29 rfl (by decide) (Nat.le_of_ble_eq_true rfl) rfl)) rfl rfl ?_
    refine Tl_q (JO_q rfl rfl (Jq_assign rfl rfl)) rfl ?_
    refine Tl_end ?_
    refine At_then ?_
    exact Tc_ret2 (fun _ _ h => h) rfl (⟨_, _, rfl, rfl, .inl ⟨ty29, Nat.le_of_ble_eq_true rfl, rfl⟩⟩) rfl (by have h : nok (a.mag * b.mag) (a.exp + b.exp) = true := (by simpa using hc28); unfold mulD mulOk; rw [h] <;> rfl)

set_option maxRecDepth 10000 in
theorem rdcmp (a b : Dy) (ha : Dfit 1000000 a) (hb : Dfit 1000000 b) : Ctr Tryd.prog 28 [dV a, dV b] (R.one (V.one (Leaf.val (.int .i64 (cmpq (dq a) (dq b)))))) := by
  refine Ctr.of_body Tryd.func28 rfl Tryd.ntmps28 (Nat.le_of_ble_eq_true rfl) (fun w0 A0 => ?_)
  haveI ia : Bd a 1000000 := ⟨ha⟩
  haveI ib : Bd b 1000000 := ⟨hb⟩
  have h1 := ha.lo; have h2 := ha.hi; have h3 := hb.lo; have h4 := hb.hi
  refine Tc_seq ?_
  refine Tc_region ?_
  refine Tl_e (JO_e rfl rfl (Je_box (n := 0) rfl rfl rfl)) rfl rfl ?_
  refine Tl_e (JO_e rfl rfl (Je_box (n := 1) rfl rfl rfl)) rfl rfl ?_
  refine Tl_q (JO_q rfl rfl (Jq_assign rfl rfl)) rfl ?_
  refine Tl_end ?_
  refine At_then ?_
  refine Tc_seq ?_
  refine Tc_drawK 0 [none, none, none, none, none, none] [] follows (by kernel_rfl) ?_
  refine DK_q (JO_q rfl rfl (Jq_load_agg rfl rfl rfl (by decide) ty29 (by decide) (Nat.le_of_ble_eq_true rfl) rfl)) ?_
  refine DK_c rfl rfl (Jd_call rfl fn21 rfl (rdrat a (Bd.use (by omega)))) ?_
  refine DK_q (JO_q rfl rfl (Jq_load_agg rfl rfl rfl (by decide) ty29 (by decide) (Nat.le_of_ble_eq_true rfl) rfl)) ?_
  refine DK_c rfl rfl (Jd_call rfl fn21 rfl (rdrat b (Bd.use (by omega)))) ?_
  refine DK_c rfl rfl (Jd_call rfl fn22 rfl (rqcmp (qOf (dq a)) (dq a) (qOf_q _) (Br.use (by omega)) (qOf (dq b)) (dq b) (qOf_q _) (Br.use (by omega)))) ?_
  refine DK_q (JO_q rfl rfl (Jq_assign rfl rfl)) ?_
  refine DK_nil ?_
  refine At_then ?_
  exact Tc_ret1 (fun _ _ h => h) rfl rfl rfl

set_option maxRecDepth 10000 in
theorem dneg (d : Dy) (hd : Dfit 1000000 d) : Ctr Tryd.prog 34 [dV d] (R.one (dV (negD d))) := by
  refine Ctr.of_body Tryd.func34 rfl Tryd.ntmps34 (Nat.le_of_ble_eq_true rfl) (fun w0 A0 => ?_)
  haveI id : Bd d 1000000 := ⟨hd⟩
  refine Tc_seq ?_
  refine Tc_region ?_
  refine Tl_e (JO_e rfl rfl (Je_box (n := 0) rfl rfl rfl)) rfl rfl ?_
  refine Tl_e (JO_e rfl rfl (Je_alloc (n := 1) rfl tz29 rfl)) rfl rfl ?_
  refine Tl_end ?_
  refine At_then ?_
  refine Tc_seq ?_
  refine Tc_drawK 0 [none, none, none, none, none, none, none, none, none, none, none, none, none, none, none, some 1] [1] follows (by kernel_rfl) ?_
  refine DK_q (JO_q rfl rfl (Jq_fieldAddr rfl rfl fo29_0 rfl)) ?_
  refine DK_q (JO_q rfl rfl (Jq_load rfl rfl rfl (by decide) ty4 rfl)) ?_
  refine DK_q (JO_q rfl rfl (Jq_not rfl rfl (c := _) rfl)) ?_
  refine DK_q (JO_q rfl rfl (Jq_move rfl rfl)) ?_
  refine DK_two (fun hb6 => ?_) (fun hb6 => ?_)
  · skip
    refine DK_skip rfl rfl rfl ?_
    refine DK_skip rfl rfl rfl ?_
    refine DK_skip rfl rfl rfl ?_
    refine DK_skip rfl rfl rfl ?_
    refine DK_q (JO_q rfl rfl (Jq_pick_f rfl rfl rfl)) ?_
    refine DK_q (JO_q rfl rfl (Jq_fieldAddr rfl rfl fo29_1 rfl)) ?_
    refine DK_q (JO_q rfl rfl (Jq_load rfl rfl rfl (by decide) ty23 rfl)) ?_
    refine DK_c rfl rfl (Jd_call rfl fn63 rfl (make_w (limbs (d.mag)) (small_limbs _) (Bn.use (by omega)) (d.mag) (val_limbs _))) ?_
    refine DK_q (JO_q rfl rfl (Jq_fieldAddr rfl rfl fo29_2 rfl)) ?_
    refine DK_q (JO_q rfl rfl (Jq_load rfl rfl rfl (by decide) ty3 rfl)) ?_
    refine DK_q (JO_q rfl rfl (Jq_build rfl tz29 rfl pl29 rfl)) ?_
    refine DK_s 1 rfl rfl rfl (Jd_store rfl rfl rfl rfl ty29 rfl (by decide) (Nat.le_of_ble_eq_true rfl) rfl) ?_
    refine DK_nil ?_
    refine At_then ?_
    exact Tc_ret1 (fun _ _ h => h) rfl (⟨_, _, rfl, rfl, .inl ⟨ty29, Nat.le_of_ble_eq_true rfl, rfl⟩⟩) (by unfold negD; rw [hb6] <;> rfl)
  · skip
    refine DK_q (JO_qg rfl rfl rfl rfl (Jq_fieldAddr rfl rfl fo29_1 rfl)) ?_
    refine DK_q (JO_qg rfl rfl rfl rfl (Jq_load rfl rfl rfl (by decide) ty23 rfl)) ?_
    refine DK_q (JO_qg rfl rfl rfl rfl (Jq_len rfl rfl un23)) ?_
    refine DK_q (JO_qg rfl rfl rfl rfl (Jq_gtr rfl rfl rfl (b := _) (rfl))) ?_
    refine DK_q (JO_q rfl rfl (Jq_pick_t rfl rfl rfl)) ?_
    refine DK_q (JO_q rfl rfl (Jq_fieldAddr rfl rfl fo29_1 rfl)) ?_
    refine DK_q (JO_q rfl rfl (Jq_load rfl rfl rfl (by decide) ty23 rfl)) ?_
    refine DK_c rfl rfl (Jd_call rfl fn63 rfl (make_w (limbs (d.mag)) (small_limbs _) (Bn.use (by omega)) (d.mag) (val_limbs _))) ?_
    refine DK_q (JO_q rfl rfl (Jq_fieldAddr rfl rfl fo29_2 rfl)) ?_
    refine DK_q (JO_q rfl rfl (Jq_load rfl rfl rfl (by decide) ty3 rfl)) ?_
    refine DK_q (JO_q rfl rfl (Jq_build rfl tz29 rfl pl29 rfl)) ?_
    refine DK_s 1 rfl rfl rfl (Jd_store rfl rfl rfl rfl ty29 rfl (by decide) (Nat.le_of_ble_eq_true rfl) rfl) ?_
    refine DK_nil ?_
    refine At_then ?_
    exact Tc_ret1 (fun _ _ h => h) rfl (⟨_, _, rfl, rfl, .inl ⟨ty29, Nat.le_of_ble_eq_true rfl, rfl⟩⟩) (by unfold negD; rw [hb6] <;> rfl)

set_option maxRecDepth 10000 in
theorem rdneg (d : Dy) (hd : Dfit 1000000 d) : Ctr Tryd.prog 18 [dV d] (R.one (dV (negD d))) := by
  refine Ctr.of_body Tryd.func18 rfl Tryd.ntmps18 (Nat.le_of_ble_eq_true rfl) (fun w0 A0 => ?_)
  haveI id : Bd d 1000000 := ⟨hd⟩
  refine Tc_seq ?_
  refine Tc_region ?_
  refine Tl_e (JO_e rfl rfl (Je_box (n := 0) rfl rfl rfl)) rfl rfl ?_
  refine Tl_e (JO_e rfl rfl (Je_alloc (n := 1) rfl tz29 rfl)) rfl rfl ?_
  refine Tl_end ?_
  refine At_then ?_
  refine Tc_seq ?_
  refine Tc_region ?_
  refine Tl_q (JO_q rfl rfl (Jq_fieldAddr rfl rfl fo29_0 rfl)) rfl ?_
  refine Tl_q (JO_q rfl rfl (Jq_load rfl rfl rfl (by decide) ty4 rfl)) rfl ?_
  refine Tl_q (JO_q rfl rfl (Jq_not rfl rfl (c := _) rfl)) rfl ?_
  refine Tl_q (JO_q rfl rfl (Jq_move rfl rfl)) rfl ?_
  refine Tl_two (fun hb6 => ?_) (fun hb6 => ?_)
  · skip
    refine Tl_q (JO_skip rfl rfl rfl) rfl ?_
    refine Tl_q (JO_skip rfl rfl rfl) rfl ?_
    refine Tl_q (JO_skip rfl rfl rfl) rfl ?_
    refine Tl_q (JO_skip rfl rfl rfl) rfl ?_
    refine Tl_q (JO_q rfl rfl (Jq_pick_f rfl rfl rfl)) rfl ?_
    refine Tl_q (JO_q rfl rfl (Jq_fieldAddr rfl rfl fo29_0 rfl)) rfl ?_
    refine Tl_e (JO_e rfl rfl (Je_store rfl rfl rfl rfl ty4 rfl (by decide) (Nat.le_of_ble_eq_true rfl) rfl)) rfl rfl ?_
    refine Tl_end ?_
    refine At_then ?_
    refine Tc_seq ?_
    refine Tc_region ?_
    refine Tl_q (JO_q rfl rfl (Jq_load_agg rfl rfl rfl (by decide) ty29 (by decide) (Nat.le_of_ble_eq_true rfl) rfl)) rfl ?_
    refine Tl_e (JO_e rfl rfl (Je_store rfl rfl rfl rfl ty29 rfl (by decide) (Nat.le_of_ble_eq_true rfl) rfl)) rfl rfl ?_
    refine Tl_end ?_
    refine At_then ?_
    exact Tc_ret1 (fun _ _ h => h) rfl (⟨_, _, rfl, rfl, .inl ⟨ty29, Nat.le_of_ble_eq_true rfl, rfl⟩⟩) (by unfold negD; rw [hb6] <;> rfl)
  · skip
    refine Tl_q (JO_qg rfl rfl rfl rfl (Jq_fieldAddr rfl rfl fo29_1 rfl)) rfl ?_
    refine Tl_q (JO_qg rfl rfl rfl rfl (Jq_load rfl rfl rfl (by decide) ty23 rfl)) rfl ?_
    refine Tl_q (JO_qg rfl rfl rfl rfl (Jq_len rfl rfl un23)) rfl ?_
    refine Tl_q (JO_qg rfl rfl rfl rfl (Jq_gtr rfl rfl rfl (b := _) (rfl))) rfl ?_
    refine Tl_q (JO_q rfl rfl (Jq_pick_t rfl rfl rfl)) rfl ?_
    refine Tl_q (JO_q rfl rfl (Jq_fieldAddr rfl rfl fo29_0 rfl)) rfl ?_
    refine Tl_e (JO_e rfl rfl (Je_store rfl rfl rfl rfl ty4 rfl (by decide) (Nat.le_of_ble_eq_true rfl) rfl)) rfl rfl ?_
    refine Tl_end ?_
    refine At_then ?_
    refine Tc_seq ?_
    refine Tc_region ?_
    refine Tl_q (JO_q rfl rfl (Jq_load_agg rfl rfl rfl (by decide) ty29 (by decide) (Nat.le_of_ble_eq_true rfl) rfl)) rfl ?_
    refine Tl_e (JO_e rfl rfl (Je_store rfl rfl rfl rfl ty29 rfl (by decide) (Nat.le_of_ble_eq_true rfl) rfl)) rfl rfl ?_
    refine Tl_end ?_
    refine At_then ?_
    exact Tc_ret1 (fun _ _ h => h) rfl (⟨_, _, rfl, rfl, .inl ⟨ty29, Nat.le_of_ble_eq_true rfl, rfl⟩⟩) (by unfold negD; rw [hb6] <;> rfl)

set_option maxRecDepth 10000 in
theorem l5frac (z w : Int) (h1 : -9223372036854775808 ≤ z) (h2 : z ≤ 9223372036854775807) (h3 : -9223372036854775808 ≤ w) (h4 : w ≤ 9223372036854775807) (h5 : w ≠ 0) : Ctr Tryd.prog 41 [V.one (Leaf.val (.int .i64 z)), V.one (Leaf.val (.int .i64 w))] (R.one (qV (qOf ((z : Rat) / (w : Rat))))) := by
  refine Ctr.of_body Tryd.func41 rfl Tryd.ntmps41 (Nat.le_of_ble_eq_true rfl) (fun w0 A0 => ?_)
  refine Tc_seq ?_
  refine Tc_region ?_
  refine Tl_e (JO_e rfl rfl (Je_alloc (n := 0) rfl tz25 rfl)) rfl rfl ?_
  refine Tl_end ?_
  refine At_then ?_
  refine Tc_seq ?_
  refine Tc_region ?_
  refine Tl_q (JO_q rfl rfl (Jq_move rfl rfl)) rfl ?_
  refine Tl_q (JO_q rfl rfl (Jq_move rfl rfl)) rfl ?_
  refine Tl_e (JO_e rfl rfl (Je_call rfl fn70 rfl (rqfrac z w h1 h2 h3 h4 h5))) rfl rfl ?_
  refine Tl_q (JO_q rfl rfl (Jq_move rfl rfl)) rfl ?_
  refine Tl_q (JO_q rfl rfl (Jq_extract rfl rfl rfl)) rfl ?_
  refine Tl_q (JO_q rfl rfl (Jq_extract rfl rfl rfl)) rfl ?_
  refine Tl_e (JO_e rfl rfl (Je_alloc (n := 1) rfl tz25 rfl)) rfl rfl ?_
  refine Tl_e (JO_e rfl rfl (Je_store rfl rfl rfl rfl ty25 rfl (by decide) (Nat.le_of_ble_eq_true rfl) rfl)) rfl rfl ?_
  refine Tl_q (JO_q rfl rfl (Jq_assign rfl rfl)) rfl ?_
  refine Tl_end ?_
  refine At_then ?_
  refine Tc_seq ?_
  refine Tc_region ?_
  refine Tl_q (JO_q rfl rfl (Jq_load_agg rfl rfl rfl (by decide) ty25 (by decide) (Nat.le_of_ble_eq_true rfl) rfl)) rfl ?_
  refine Tl_e (JO_e rfl rfl (Je_store rfl rfl rfl rfl ty25 rfl (by decide) (Nat.le_of_ble_eq_true rfl) rfl)) rfl rfl ?_
  refine Tl_end ?_
  refine At_then ?_
  exact Tc_ret1 (fun _ _ h => h) rfl (⟨_, _, rfl, rfl, .inl ⟨ty25, Nat.le_of_ble_eq_true rfl, rfl⟩⟩) rfl

set_option maxRecDepth 10000 in
theorem l5few (x : Qr) : Ctr Tryd.prog 11 [qV x] (R.one (V.one (Leaf.val (.bool (fewQ x))))) := by
  refine Ctr.of_body Tryd.func11 rfl Tryd.ntmps11 (Nat.le_of_ble_eq_true rfl) (fun w0 A0 => ?_)
  refine Tc_seq ?_
  refine Tc_region ?_
  refine Tl_e (JO_e rfl rfl (Je_box (n := 0) rfl rfl rfl)) rfl rfl ?_
  refine Tl_q (JO_q rfl rfl (Jq_assign rfl rfl)) rfl ?_
  refine Tl_end ?_
  refine At_then ?_
  refine Tc_seq ?_
  refine Tc_region ?_
  refine Tl_q (JO_q rfl rfl (Jq_fieldAddr rfl rfl fo25_1 rfl)) rfl ?_
  refine Tl_q (JO_q rfl rfl (Jq_load rfl rfl rfl (by decide) ty23 rfl)) rfl ?_
  refine Tl_q (JO_q rfl rfl (Jq_len rfl rfl un23)) rfl ?_
  refine Tl_q (JO_q rfl rfl (Jq_leq rfl rfl rfl (b := _) (rfl))) rfl ?_
  refine Tl_q (JO_q rfl rfl (Jq_move rfl rfl)) rfl ?_
  refine Tl_two (fun hb7 => ?_) (fun hb7 => ?_)
  · skip
    refine Tl_q (JO_skip rfl rfl rfl) rfl ?_
    refine Tl_q (JO_skip rfl rfl rfl) rfl ?_
    refine Tl_q (JO_skip rfl rfl rfl) rfl ?_
    refine Tl_q (JO_skip rfl rfl rfl) rfl ?_
    refine Tl_q (JO_q rfl rfl (Jq_pick_f rfl rfl rfl)) rfl ?_
    refine Tl_q (JO_q rfl rfl (Jq_assign rfl rfl)) rfl ?_
    refine Tl_end ?_
    refine At_then ?_
    exact Tc_ret1 (fun _ _ h => h) rfl rfl (by simp [fewQ, *])
  · skip
    refine Tl_q (JO_qg rfl rfl rfl rfl (Jq_fieldAddr rfl rfl fo25_2 rfl)) rfl ?_
    refine Tl_q (JO_qg rfl rfl rfl rfl (Jq_load rfl rfl rfl (by decide) ty23 rfl)) rfl ?_
    refine Tl_q (JO_qg rfl rfl rfl rfl (Jq_len rfl rfl un23)) rfl ?_
    refine Tl_q (JO_qg rfl rfl rfl rfl (Jq_leq rfl rfl rfl (b := _) (rfl))) rfl ?_
    refine Tl_q (JO_q rfl rfl (Jq_pick_t rfl rfl rfl)) rfl ?_
    refine Tl_q (JO_q rfl rfl (Jq_assign rfl rfl)) rfl ?_
    refine Tl_end ?_
    refine At_then ?_
    exact Tc_ret1 (fun _ _ h => h) rfl rfl (by simp [fewQ, *])

set_option maxRecDepth 10000 in
theorem l5small (s : Bool) (l : List Nat) (e : Int) (hs : Small l) : Ctr Tryd.prog 33 [V.agg [Leaf.val (.bool s), natL l, Leaf.val (.int .i64 e)]] (R.one (V.one (Leaf.val (.bool (smallD s l e))))) := by
  refine Ctr.of_body Tryd.func33 rfl Tryd.ntmps33 (Nat.le_of_ble_eq_true rfl) (fun w0 A0 => ?_)
  refine Tc_seq ?_
  refine Tc_region ?_
  refine Tl_e (JO_e rfl rfl (Je_box (n := 0) rfl rfl rfl)) rfl rfl ?_
  refine Tl_q (JO_q rfl rfl (Jq_assign rfl rfl)) rfl ?_
  refine Tl_end ?_
  refine At_then ?_
  refine Tc_seq ?_
  refine Tc_region ?_
  refine Tl_q (JO_q rfl rfl (Jq_fieldAddr rfl rfl fo29_1 rfl)) rfl ?_
  refine Tl_q (JO_q rfl rfl (Jq_load rfl rfl rfl (by decide) ty23 rfl)) rfl ?_
  refine Tl_q (JO_q rfl rfl (Jq_len rfl rfl un23)) rfl ?_
  refine Tl_q (JO_q rfl rfl (Jq_leq rfl rfl rfl (b := _) (rfl))) rfl ?_
  refine Tl_q (JO_q rfl rfl (Jq_move rfl rfl)) rfl ?_
  refine Tl_two (fun hb7 => ?_) (fun hb7 => ?_)
  · skip
    refine Tl_q (JO_skip rfl rfl rfl) rfl ?_
    refine Tl_q (JO_skip rfl rfl rfl) rfl ?_
    refine Tl_q (JO_skip rfl rfl rfl) rfl ?_
    refine Tl_q (JO_q rfl rfl (Jq_pick_f rfl rfl rfl)) rfl ?_
    refine Tl_q (JO_q rfl rfl (Jq_move rfl rfl)) rfl ?_
    refine Tl_q (JO_skip rfl rfl rfl) rfl ?_
    refine Tl_q (JO_skip rfl rfl rfl) rfl ?_
    refine Tl_q (JO_skip rfl rfl rfl) rfl ?_
    refine Tl_q (JO_q rfl rfl (Jq_pick_f rfl rfl rfl)) rfl ?_
    refine Tl_q (JO_q rfl rfl (Jq_move rfl rfl)) rfl ?_
    refine Tl_q (JO_skip rfl rfl rfl) rfl ?_
    refine Tl_q (JO_skip rfl rfl rfl) rfl ?_
    refine Tl_q (JO_q rfl rfl (Jq_pick_f rfl rfl rfl)) rfl ?_
    refine Tl_q (JO_q rfl rfl (Jq_assign rfl rfl)) rfl ?_
    refine Tl_end ?_
    refine At_then ?_
    exact Tc_ret1 (fun _ _ h => h) rfl rfl (by simp [smallD, *])
  · skip
    refine Tl_q (JO_qg rfl rfl rfl rfl (Jq_fieldAddr rfl rfl fo29_2 rfl)) rfl ?_
    refine Tl_q (JO_qg rfl rfl rfl rfl (Jq_load rfl rfl rfl (by decide) ty3 rfl)) rfl ?_
    refine Tl_q (JO_qg rfl rfl rfl rfl (Jq_geq rfl rfl rfl (b := _) (rfl))) rfl ?_
    refine Tl_q (JO_q rfl rfl (Jq_pick_t rfl rfl rfl)) rfl ?_
    refine Tl_q (JO_q rfl rfl (Jq_move rfl rfl)) rfl ?_
    refine Tl_two (fun hb12 => ?_) (fun hb12 => ?_)
    · skip
      refine Tl_q (JO_skip rfl rfl rfl) rfl ?_
      refine Tl_q (JO_skip rfl rfl rfl) rfl ?_
      refine Tl_q (JO_skip rfl rfl rfl) rfl ?_
      refine Tl_q (JO_q rfl rfl (Jq_pick_f rfl rfl rfl)) rfl ?_
      refine Tl_q (JO_q rfl rfl (Jq_move rfl rfl)) rfl ?_
      refine Tl_q (JO_skip rfl rfl rfl) rfl ?_
      refine Tl_q (JO_skip rfl rfl rfl) rfl ?_
      refine Tl_q (JO_q rfl rfl (Jq_pick_f rfl rfl rfl)) rfl ?_
      refine Tl_q (JO_q rfl rfl (Jq_assign rfl rfl)) rfl ?_
      refine Tl_end ?_
      refine At_then ?_
      exact Tc_ret1 (fun _ _ h => h) rfl rfl (by simp [smallD, *])
    · skip
      refine Tl_q (JO_qg rfl rfl rfl rfl (Jq_fieldAddr rfl rfl fo29_2 rfl)) rfl ?_
      refine Tl_q (JO_qg rfl rfl rfl rfl (Jq_load rfl rfl rfl (by decide) ty3 rfl)) rfl ?_
      refine Tl_q (JO_qg rfl rfl rfl rfl (Jq_leq rfl rfl rfl (b := _) (rfl))) rfl ?_
      refine Tl_q (JO_q rfl rfl (Jq_pick_t rfl rfl rfl)) rfl ?_
      refine Tl_q (JO_q rfl rfl (Jq_move rfl rfl)) rfl ?_
      refine Tl_two (fun hb17 => ?_) (fun hb17 => ?_)
      · skip
        refine Tl_q (JO_skip rfl rfl rfl) rfl ?_
        refine Tl_q (JO_skip rfl rfl rfl) rfl ?_
        refine Tl_q (JO_q rfl rfl (Jq_pick_f rfl rfl rfl)) rfl ?_
        refine Tl_q (JO_q rfl rfl (Jq_assign rfl rfl)) rfl ?_
        refine Tl_end ?_
        refine At_then ?_
        exact Tc_ret1 (fun _ _ h => h) rfl rfl (by simp [smallD, *])
      · skip
        refine Tl_q (JO_qg rfl rfl rfl rfl (Jq_load_agg rfl rfl rfl (by decide) ty29 (by decide) (Nat.le_of_ble_eq_true rfl) rfl)) rfl ?_
        refine Tl_e (JO_eg rfl rfl rfl rfl (Je_call rfl fn19 rfl (rdvalid s l e hs))) rfl rfl ?_
        refine Tl_q (JO_q rfl rfl (Jq_pick_t rfl rfl rfl)) rfl ?_
        refine Tl_q (JO_q rfl rfl (Jq_assign rfl rfl)) rfl ?_
        refine Tl_end ?_
        refine At_then ?_
        exact Tc_ret1 (fun _ _ h => h) rfl rfl (by simp [smallD, *])

theorem aw1 : rndD (((1 : Int) : Rat) / ((3 : Int) : Rat)) 2 (decide (sg (((1 : Int) : Rat) / ((3 : Int) : Rat)) < 0)) = ⟨false, 1, -2⟩ := by kernel_rfl
theorem aw2 : rndD (((5 : Int) : Rat) / ((1 : Int) : Rat)) 2 (decide (0 < sg (((5 : Int) : Rat) / ((1 : Int) : Rat)))) = ⟨false, 3, 1⟩ := by kernel_rfl
theorem aw3 : exD (((3 : Int) : Rat) / ((8 : Int) : Rat)) = ⟨false, 3, -3⟩ := by kernel_rfl
theorem aw4 : exOk (((3 : Int) : Rat) / ((8 : Int) : Rat)) = true := by kernel_rfl
theorem aw5 : exOk (((1 : Int) : Rat) / ((3 : Int) : Rat)) = false := by kernel_rfl

set_option maxRecDepth 10000 in
theorem l5awake  : Ctr Tryd.prog 10 [] (R.one (V.one (Leaf.val (.bool (true))))) := by
  refine Ctr.of_body Tryd.func10 rfl Tryd.ntmps10 (Nat.le_of_ble_eq_true rfl) (fun w0 A0 => ?_)
  haveI : Br ((1 : Int) : Rat) 1 := Br.int (by decide)
  haveI : Br ((3 : Int) : Rat) 1 := Br.int (by decide)
  haveI : Br ((5 : Int) : Rat) 1 := Br.int (by decide)
  haveI : Br ((8 : Int) : Rat) 1 := Br.int (by decide)
  haveI b1 : Br (((1 : Int) : Rat) / ((3 : Int) : Rat)) 100 := (Br.div (r := ((1 : Int) : Rat)) (s := ((3 : Int) : Rat))).mono (by decide)
  haveI b2 : Br (((5 : Int) : Rat) / ((1 : Int) : Rat)) 100 := (Br.div (r := ((5 : Int) : Rat)) (s := ((1 : Int) : Rat))).mono (by decide)
  refine Tc_seq ?_
  refine Tc_region ?_
  refine Tl_q (JO_q rfl rfl (Jq_assign rfl rfl)) rfl ?_
  refine Tl_end ?_
  refine At_then ?_
  refine Tc_seq ?_
  refine Tc_region ?_
  refine Tl_e (JO_e rfl rfl (Je_call rfl fn41 rfl (l5frac 1 3 (by decide) (by decide) (by decide) (by decide) (by decide)))) rfl rfl ?_
  refine Tl_e (JO_e rfl rfl (Je_call rfl fn12 rfl (ddown (qOf (((1 : Int) : Rat) / ((3 : Int) : Rat))) (((1 : Int) : Rat) / ((3 : Int) : Rat)) (qOf_q _) (Br.use (by omega)) 2))) rfl rfl ?_
  refine Tl_q (JO_q rfl rfl (Jq_move rfl rfl)) rfl ?_
  refine Tl_q (JO_q rfl rfl (Jq_extract rfl rfl rfl)) rfl ?_
  refine Tl_q (JO_q rfl rfl (Jq_extract rfl rfl rfl)) rfl ?_
  refine Tl_e (JO_e rfl rfl (Je_alloc (n := 0) rfl tz29 rfl)) rfl rfl ?_
  refine Tl_e (JO_e rfl rfl (Je_store rfl rfl rfl rfl ty29 rfl (by decide) (Nat.le_of_ble_eq_true rfl) rfl)) rfl rfl ?_
  refine Tl_q (JO_q rfl rfl (Jq_assign rfl rfl)) rfl ?_
  refine Tl_end ?_
  refine At_then ?_
  refine Tc_seq ?_
  refine Tc_region ?_
  refine Tl_e (JO_e rfl rfl (Je_call rfl fn41 rfl (l5frac 5 1 (by decide) (by decide) (by decide) (by decide) (by decide)))) rfl rfl ?_
  refine Tl_e (JO_e rfl rfl (Je_call rfl fn13 rfl (dup (qOf (((5 : Int) : Rat) / ((1 : Int) : Rat))) (((5 : Int) : Rat) / ((1 : Int) : Rat)) (qOf_q _) (Br.use (by omega)) 2))) rfl rfl ?_
  refine Tl_q (JO_q rfl rfl (Jq_move rfl rfl)) rfl ?_
  refine Tl_q (JO_q rfl rfl (Jq_extract rfl rfl rfl)) rfl ?_
  refine Tl_q (JO_q rfl rfl (Jq_extract rfl rfl rfl)) rfl ?_
  refine Tl_e (JO_e rfl rfl (Je_alloc (n := 1) rfl tz29 rfl)) rfl rfl ?_
  refine Tl_e (JO_e rfl rfl (Je_store rfl rfl rfl rfl ty29 rfl (by decide) (Nat.le_of_ble_eq_true rfl) rfl)) rfl rfl ?_
  refine Tl_q (JO_q rfl rfl (Jq_assign rfl rfl)) rfl ?_
  refine Tl_end ?_
  refine At_then ?_
  refine Tc_seq ?_
  refine Tc_region ?_
  refine Tl_e (JO_e rfl rfl (Je_call rfl fn41 rfl (l5frac 3 8 (by decide) (by decide) (by decide) (by decide) (by decide)))) rfl rfl ?_
  refine Tl_e (JO_e rfl rfl (Je_call rfl fn29 rfl (dexact (qOf (((3 : Int) : Rat) / ((8 : Int) : Rat))) (((3 : Int) : Rat) / ((8 : Int) : Rat)) (qOf_q _) (Br.use (by omega))))) rfl rfl ?_
  refine Tl_q (JO_q rfl rfl (Jq_move rfl rfl)) rfl ?_
  refine Tl_q (JO_q rfl rfl (Jq_extract rfl rfl rfl)) rfl ?_
  refine Tl_q (JO_q rfl rfl (Jq_extract rfl rfl rfl)) rfl ?_
  refine Tl_is true (aw4) ?_
  refine Tl_e (JO_e rfl rfl (Je_alloc (n := 2) rfl tz29 rfl)) rfl rfl ?_
  refine Tl_e (JO_e rfl rfl (Je_store rfl rfl rfl rfl ty29 rfl (by decide) (Nat.le_of_ble_eq_true rfl) rfl)) rfl rfl ?_
  refine Tl_q (JO_q rfl rfl (Jq_assign rfl rfl)) rfl ?_
  refine Tl_end ?_
  refine At_then ?_
  refine Tc_seq ?_
  refine Tc_region ?_
  refine Tl_e (JO_e rfl rfl (Je_call rfl fn41 rfl (l5frac 1 3 (by decide) (by decide) (by decide) (by decide) (by decide)))) rfl rfl ?_
  refine Tl_e (JO_e rfl rfl (Je_call rfl fn29 rfl (dexact (qOf (((1 : Int) : Rat) / ((3 : Int) : Rat))) (((1 : Int) : Rat) / ((3 : Int) : Rat)) (qOf_q _) (Br.use (by omega))))) rfl rfl ?_
  refine Tl_q (JO_q rfl rfl (Jq_move rfl rfl)) rfl ?_
  refine Tl_q (JO_q rfl rfl (Jq_extract rfl rfl rfl)) rfl ?_
  refine Tl_q (JO_q rfl rfl (Jq_extract rfl rfl rfl)) rfl ?_
  refine Tl_is false (aw5) ?_
  refine Tl_e (JO_e rfl rfl (Je_alloc (n := 3) rfl tz29 rfl)) rfl rfl ?_
  refine Tl_e (JO_e rfl rfl (Je_store rfl rfl rfl rfl ty29 rfl (by decide) (Nat.le_of_ble_eq_true rfl) rfl)) rfl rfl ?_
  refine Tl_q (JO_q rfl rfl (Jq_assign rfl rfl)) rfl ?_
  refine Tl_end ?_
  refine At_then ?_
  refine Tc_seq ?_
  refine Tc_region ?_
  refine Tl_q (JO_q rfl rfl (Jq_move rfl rfl)) rfl ?_
  refine Tl_q (JO_q rfl rfl (Jq_eql rfl rfl rfl (b := _) (rfl))) rfl ?_
  refine Tl_is true (rfl) ?_
  refine Tl_q (JO_q rfl rfl (Jq_move rfl rfl)) rfl ?_
  refine Tl_q (JO_qg rfl rfl rfl rfl (Jq_move rfl rfl)) rfl ?_
  refine Tl_q (JO_qg rfl rfl rfl rfl (Jq_eql rfl rfl rfl (b := _) (rfl))) rfl ?_
  refine Tl_is true (rfl) ?_
  refine Tl_q (JO_q rfl rfl (Jq_pick_t rfl rfl rfl)) rfl ?_
  refine Tl_q (JO_q rfl rfl (Jq_move rfl rfl)) rfl ?_
  refine Tl_q (JO_qg rfl rfl rfl rfl (Jq_move rfl rfl)) rfl ?_
  refine Tl_q (JO_q rfl rfl (Jq_pick_t rfl rfl rfl)) rfl ?_
  refine Tl_q (JO_q rfl rfl (Jq_move rfl rfl)) rfl ?_
  refine Tl_q (JO_qg rfl rfl rfl rfl (Jq_move rfl rfl)) rfl ?_
  refine Tl_q (JO_qg rfl rfl rfl rfl (Jq_not rfl rfl (c := true) rfl)) rfl ?_
  refine Tl_q (JO_q rfl rfl (Jq_pick_t rfl rfl rfl)) rfl ?_
  refine Tl_q (JO_q rfl rfl (Jq_move rfl rfl)) rfl ?_
  refine Tl_q (JO_qg rfl rfl rfl rfl (Jq_load_agg rfl rfl rfl (by decide) ty29 (by decide) (Nat.le_of_ble_eq_true rfl) rfl)) rfl ?_
  refine Tl_e (JO_eg rfl rfl rfl rfl (Je_buildSlice rfl un23 ty46 tz46 rfl (by decide) (by decide) rfl (by decide) rfl)) rfl rfl ?_
  refine Tl_q (JO_qg rfl rfl rfl rfl (Jq_build rfl tz29 rfl pl29 rfl)) rfl ?_
  refine Tl_e (JO_eg rfl rfl rfl rfl (Je_call rfl fn17 rfl (dsame ((rndD (((1 : Int) : Rat) / ((3 : Int) : Rat)) 2 (decide (sg (((1 : Int) : Rat) / ((3 : Int) : Rat)) < 0))).neg) (limbs ((rndD (((1 : Int) : Rat) / ((3 : Int) : Rat)) 2 (decide (sg (((1 : Int) : Rat) / ((3 : Int) : Rat)) < 0))).mag)) ((rndD (((1 : Int) : Rat) / ((3 : Int) : Rat)) 2 (decide (sg (((1 : Int) : Rat) / ((3 : Int) : Rat)) < 0))).exp) false ([1]) (-2)))) rfl rfl ?_
  refine Tl_is true (by rw [aw1, limbs_lt (by decide) (by decide)]; rfl) ?_
  refine Tl_q (JO_q rfl rfl (Jq_pick_t rfl rfl rfl)) rfl ?_
  refine Tl_q (JO_q rfl rfl (Jq_move rfl rfl)) rfl ?_
  refine Tl_q (JO_qg rfl rfl rfl rfl (Jq_load_agg rfl rfl rfl (by decide) ty29 (by decide) (Nat.le_of_ble_eq_true rfl) rfl)) rfl ?_
  refine Tl_e (JO_eg rfl rfl rfl rfl (Je_buildSlice rfl un23 ty46 tz46 rfl (by decide) (by decide) rfl (by decide) rfl)) rfl rfl ?_
  refine Tl_q (JO_qg rfl rfl rfl rfl (Jq_build rfl tz29 rfl pl29 rfl)) rfl ?_
  refine Tl_e (JO_eg rfl rfl rfl rfl (Je_call rfl fn17 rfl (dsame ((rndD (((5 : Int) : Rat) / ((1 : Int) : Rat)) 2 (decide (0 < sg (((5 : Int) : Rat) / ((1 : Int) : Rat))))).neg) (limbs ((rndD (((5 : Int) : Rat) / ((1 : Int) : Rat)) 2 (decide (0 < sg (((5 : Int) : Rat) / ((1 : Int) : Rat))))).mag)) ((rndD (((5 : Int) : Rat) / ((1 : Int) : Rat)) 2 (decide (0 < sg (((5 : Int) : Rat) / ((1 : Int) : Rat))))).exp) false ([3]) 1))) rfl rfl ?_
  refine Tl_is true (by rw [aw2, limbs_lt (by decide) (by decide)]; rfl) ?_
  refine Tl_q (JO_q rfl rfl (Jq_pick_t rfl rfl rfl)) rfl ?_
  refine Tl_q (JO_q rfl rfl (Jq_move rfl rfl)) rfl ?_
  refine Tl_q (JO_qg rfl rfl rfl rfl (Jq_load_agg rfl rfl rfl (by decide) ty29 (by decide) (Nat.le_of_ble_eq_true rfl) rfl)) rfl ?_
  refine Tl_e (JO_eg rfl rfl rfl rfl (Je_buildSlice rfl un23 ty46 tz46 rfl (by decide) (by decide) rfl (by decide) rfl)) rfl rfl ?_
  refine Tl_q (JO_qg rfl rfl rfl rfl (Jq_build rfl tz29 rfl pl29 rfl)) rfl ?_
  refine Tl_e (JO_eg rfl rfl rfl rfl (Je_call rfl fn17 rfl (dsame ((exD (((3 : Int) : Rat) / ((8 : Int) : Rat))).neg) (limbs ((exD (((3 : Int) : Rat) / ((8 : Int) : Rat))).mag)) ((exD (((3 : Int) : Rat) / ((8 : Int) : Rat))).exp) false ([3]) (-3)))) rfl rfl ?_
  refine Tl_is true (by rw [aw3, limbs_lt (by decide) (by decide)]; rfl) ?_
  refine Tl_q (JO_q rfl rfl (Jq_pick_t rfl rfl rfl)) rfl ?_
  refine Tl_q (JO_q rfl rfl (Jq_move rfl rfl)) rfl ?_
  refine Tl_q (JO_qg rfl rfl rfl rfl (Jq_load_agg rfl rfl rfl (by decide) ty29 (by decide) (Nat.le_of_ble_eq_true rfl) rfl)) rfl ?_
  refine Tl_e (JO_eg rfl rfl rfl rfl (Je_call rfl fn30 rfl (dvalid ((exD (((3 : Int) : Rat) / ((8 : Int) : Rat))).neg) (limbs ((exD (((3 : Int) : Rat) / ((8 : Int) : Rat))).mag)) ((exD (((3 : Int) : Rat) / ((8 : Int) : Rat))).exp) (small_limbs _)))) rfl rfl ?_
  refine Tl_is true (by rw [aw3, limbs_lt (by decide) (by decide)]; simp [isD]) ?_
  refine Tl_q (JO_q rfl rfl (Jq_pick_t rfl rfl rfl)) rfl ?_
  refine Tl_q (JO_q rfl rfl (Jq_move rfl rfl)) rfl ?_
  refine Tl_e (JO_eg rfl rfl rfl rfl (Je_buildSlice rfl un23 ty46 tz46 rfl (by decide) (by decide) rfl (by decide) rfl)) rfl rfl ?_
  refine Tl_q (JO_qg rfl rfl rfl rfl (Jq_build rfl tz29 rfl pl29 rfl)) rfl ?_
  refine Tl_e (JO_eg rfl rfl rfl rfl (Je_call rfl fn30 rfl (dvalid false ([2]) 0 (Small.cons (by decide) (Small.nil))))) rfl rfl ?_
  refine Tl_is false (by simp [isD]) ?_
  refine Tl_q (JO_qg rfl rfl rfl rfl (Jq_not rfl rfl (c := true) rfl)) rfl ?_
  refine Tl_q (JO_q rfl rfl (Jq_pick_t rfl rfl rfl)) rfl ?_
  refine Tl_q (JO_q rfl rfl (Jq_move rfl rfl)) rfl ?_
  refine Tl_q (JO_qg rfl rfl rfl rfl (Jq_load_agg rfl rfl rfl (by decide) ty29 (by decide) (Nat.le_of_ble_eq_true rfl) rfl)) rfl ?_
  refine Tl_q (JO_qg rfl rfl rfl rfl (Jq_load_agg rfl rfl rfl (by decide) ty29 (by decide) (Nat.le_of_ble_eq_true rfl) rfl)) rfl ?_
  refine Tl_e (JO_eg rfl rfl rfl rfl (Je_call rfl fn37 rfl (dcmp (rndD (((1 : Int) : Rat) / ((3 : Int) : Rat)) 2 (decide (sg (((1 : Int) : Rat) / ((3 : Int) : Rat)) < 0))) (rndD (((5 : Int) : Rat) / ((1 : Int) : Rat)) 2 (decide (0 < sg (((5 : Int) : Rat) / ((1 : Int) : Rat))))) (Bd.use (by omega)) (Bd.use (by omega))))) rfl rfl ?_
  refine Tl_q (JO_qg rfl rfl rfl rfl (Jq_eql rfl rfl rfl (b := _) (rfl))) rfl ?_
  refine Tl_is true (by rw [aw1, aw2]; rfl) ?_
  refine Tl_q (JO_q rfl rfl (Jq_pick_t rfl rfl rfl)) rfl ?_
  refine Tl_q (JO_q rfl rfl (Jq_assign rfl rfl)) rfl ?_
  refine Tl_end ?_
  refine At_then ?_
  exact Tc_ret1 (fun _ _ h => h) rfl rfl rfl

end Go.Proofs.YtpabkdpijcbkgaaDoor
