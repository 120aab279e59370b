/- Walks: rounding to some bits. -/
import Derived.Test.YtpabkdpijcbkgaaGreatDoorWkN
import Derived.Test.YtpabkdpijcbkgaaGreatDoorDyR
import Derived.Test.YtpabkdpijcbkgaaGreatDoorFacts
set_option linter.unusedSimpArgs false
set_option linter.unusedVariables false
namespace Go.Proofs.YtpabkdpijcbkgaaGreatDoor
open Go Go.RowKit Rc


set_option maxRecDepth 10000 in
theorem dsize (a b : Nat) (ha0 : a ≠ 0) (hb0 : b ≠ 0) (ha : (limbs a).length ≤ 1000) (hb : (limbs b).length ≤ 1000) : Ctr Tryz.prog 54 [V.one (natL (limbs a)), V.one (natL (limbs b))] (R.tup [V.one (Leaf.val (.int .i64 (lg a b))), V.one (Leaf.val (.bool true))]) := by
  refine Ctr.of_body Tryz.func54 rfl Tryz.ntmps54 (Nat.le_of_ble_eq_true rfl) (fun w0 A0 => ?_)
  haveI ia : Bn a 1000 := ⟨ha⟩
  haveI ib : Bn b 1000 := ⟨hb⟩
  have hla := bl_le_len ha; have hlb := bl_le_len hb
  have hlg := lg_bound ha hb
  have hlo := lg_or a b
  refine Tc_seq ?_
  refine Tc_region ?_
  refine Tl_q (JO_q rfl rfl (Jq_assign rfl rfl)) rfl ?_
  refine Tl_q (JO_q rfl rfl (Jq_assign rfl rfl)) rfl ?_
  refine Tl_end ?_
  refine At_then ?_
  refine Tc_seq ?_
  refine Tc_region ?_
  refine Tl_q (JO_q rfl rfl (Jq_move rfl rfl)) rfl ?_
  refine Tl_e (JO_e rfl rfl (Je_call rfl fn76 rfl (bits_w (limbs (a)) (small_limbs _) (Bn.use (by omega)) (a) (val_limbs _)))) rfl rfl ?_
  refine Tl_q (JO_q rfl rfl (Jq_move rfl rfl)) rfl ?_
  refine Tl_e (JO_e rfl rfl (Je_call rfl fn76 rfl (bits_w (limbs (b)) (small_limbs _) (Bn.use (by omega)) (b) (val_limbs _)))) rfl rfl ?_
  refine Tl_q (JO_q rfl rfl (Jq_sub rfl rfl rfl (r := (bl a : Int) - bl b) (w64 (by omega) (by omega) (by omega)))) rfl ?_
  refine Tl_q (JO_q rfl rfl (Jq_assign rfl rfl)) rfl ?_
  refine Tl_end ?_
  refine At_then ?_
  refine Tc_seq ?_
  refine Tc_seq ?_
  refine Tc_region ?_
  refine Tl_q (JO_q rfl rfl (Jq_move rfl rfl)) rfl ?_
  refine Tl_q (JO_q rfl rfl (Jq_gtr rfl rfl rfl (b := false) (dF (by omega)))) rfl ?_
  refine Tl_q (JO_q rfl rfl (Jq_move rfl rfl)) rfl ?_
  refine Tl_q (JO_qg rfl rfl rfl rfl (Jq_move rfl rfl)) rfl ?_
  refine Tl_q (JO_qg rfl rfl rfl rfl (Jq_lss rfl rfl rfl (b := false) (dF (by omega)))) rfl ?_
  refine Tl_q (JO_q rfl rfl (Jq_pick_f rfl rfl rfl)) rfl ?_
  refine Tl_end ?_
  refine At_then ?_
  refine Tc_f rfl ?_
  refine Tc_skipA ?_
  refine At_then ?_
  refine Tc_seq ?_
  refine Tc_region ?_
  refine Tl_q (JO_q rfl rfl (Jq_move rfl rfl)) rfl ?_
  refine Tl_q (JO_q rfl rfl (Jq_move rfl rfl)) rfl ?_
  refine Tl_q (JO_q rfl rfl (Jq_assign rfl rfl)) rfl ?_
  refine Tl_q (JO_q rfl rfl (Jq_assign rfl rfl)) rfl ?_
  refine Tl_end ?_
  refine At_then ?_
  refine Tc_seq ?_
  refine Tc_seq ?_
  refine Tc_region ?_
  refine Tl_q (JO_q rfl rfl (Jq_move rfl rfl)) rfl ?_
  by_cases h1 : 0 ≤ (bl a : Int) - bl b
  · skip
    refine Tl_q (JO_q rfl rfl (Jq_geq rfl rfl rfl (b := true) (dT (by omega)))) rfl ?_
    refine Tl_end ?_
    refine At_then ?_
    refine Tc_t rfl ?_
    haveI i1 : Bn (b * 2 ^ ((bl a : Int) - bl b).toNat) (1000 + 5000) := Bn.shift 5000 ib (by omega)
    refine Tc_region ?_
    refine Tl_q (JO_q rfl rfl (Jq_move rfl rfl)) rfl ?_
    refine Tl_q (JO_q rfl rfl (Jq_move rfl rfl)) rfl ?_
    refine Tl_e (JO_e rfl rfl (Je_call rfl fn37 rfl (dshl_spec b ((bl a : Int) - bl b) (by omega) (Bn.use (by omega))))) rfl rfl ?_
    refine Tl_q (JO_q rfl rfl (Jq_assign rfl rfl)) rfl ?_
    refine Tl_end ?_
    refine At_then ?_
    refine Tc_seq ?_
    refine Tc_seq ?_
    refine Tc_region ?_
    refine Tl_q (JO_q rfl rfl (Jq_move rfl rfl)) rfl ?_
    refine Tl_q (JO_q rfl rfl (Jq_move rfl rfl)) rfl ?_
    refine Tl_e (JO_e rfl rfl (Je_call rfl fn70 rfl (cmp_w (limbs (a)) (small_limbs _) (limbs (b * 2 ^ ((bl a : Int) - bl b).toNat)) (small_limbs _) (a) (val_limbs _) (b * 2 ^ ((bl a : Int) - bl b).toNat) (val_limbs _)))) rfl rfl ?_
    by_cases h2 : a < b * 2 ^ ((bl a : Int) - bl b).toNat
    · skip
      refine Tl_q (JO_q rfl rfl (Jq_lss rfl rfl rfl (b := true) (dT (by rw [cmpN_lt h2]; decide)))) rfl ?_
      refine Tl_end ?_
      refine At_then ?_
      refine Tc_t rfl ?_
      refine Tc_region ?_
      refine Tl_q (JO_q rfl rfl (Jq_move rfl rfl)) rfl ?_
      refine Tl_q (JO_q rfl rfl (Jq_sub rfl rfl rfl (r := (bl a : Int) - bl b - 1) (w64 (by omega) (by omega) (by omega)))) rfl ?_
      refine Tl_q (JO_q rfl rfl (Jq_assign rfl rfl)) rfl ?_
      refine Tl_end ?_
      refine At_then ?_
      refine Tc_seq ?_
      refine Tc_region ?_
      refine Tl_q (JO_q rfl rfl (Jq_move rfl rfl)) rfl ?_
      refine Tl_q (JO_q rfl rfl (Jq_move rfl rfl)) rfl ?_
      refine Tl_q (JO_q rfl rfl (Jq_geq rfl rfl rfl (b := true) (dT (by omega)))) rfl ?_
      refine Tl_q (JO_q rfl rfl (Jq_move rfl rfl)) rfl ?_
      refine Tl_q (JO_qg rfl rfl rfl rfl (Jq_move rfl rfl)) rfl ?_
      refine Tl_q (JO_qg rfl rfl rfl rfl (Jq_lss rfl rfl rfl (b := true) (dT (by omega)))) rfl ?_
      refine Tl_q (JO_q rfl rfl (Jq_pick_t rfl rfl rfl)) rfl ?_
      refine Tl_q (JO_q rfl rfl (Jq_assign rfl rfl)) rfl ?_
      refine Tl_q (JO_q rfl rfl (Jq_assign rfl rfl)) rfl ?_
      refine Tl_end ?_
      refine At_then ?_
      exact Tc_ret2 (fun _ _ h => h) rfl rfl rfl (by unfold lg; rw [if_pos h1, if_pos h2] <;> rfl)
    · skip
      refine Tl_q (JO_q rfl rfl (Jq_lss rfl rfl rfl (b := false) (dF (by unfold cmpN; rw [if_neg h2]; split <;> decide)))) rfl ?_
      refine Tl_end ?_
      refine At_then ?_
      refine Tc_f rfl ?_
      refine Tc_skipA ?_
      refine At_then ?_
      refine Tc_seq ?_
      refine Tc_region ?_
      refine Tl_q (JO_q rfl rfl (Jq_move rfl rfl)) rfl ?_
      refine Tl_q (JO_q rfl rfl (Jq_move rfl rfl)) rfl ?_
      refine Tl_q (JO_q rfl rfl (Jq_geq rfl rfl rfl (b := true) (dT (by omega)))) rfl ?_
      refine Tl_q (JO_q rfl rfl (Jq_move rfl rfl)) rfl ?_
      refine Tl_q (JO_qg rfl rfl rfl rfl (Jq_move rfl rfl)) rfl ?_
      refine Tl_q (JO_qg rfl rfl rfl rfl (Jq_lss rfl rfl rfl (b := true) (dT (by omega)))) rfl ?_
      refine Tl_q (JO_q rfl rfl (Jq_pick_t rfl rfl rfl)) rfl ?_
      refine Tl_q (JO_q rfl rfl (Jq_assign rfl rfl)) rfl ?_
      refine Tl_q (JO_q rfl rfl (Jq_assign rfl rfl)) rfl ?_
      refine Tl_end ?_
      refine At_then ?_
      exact Tc_ret2 (fun _ _ h => h) rfl rfl rfl (by unfold lg; rw [if_pos h1, if_neg h2] <;> rfl)
  · skip
    refine Tl_q (JO_q rfl rfl (Jq_geq rfl rfl rfl (b := false) (dF (by omega)))) rfl ?_
    refine Tl_end ?_
    refine At_then ?_
    refine Tc_f rfl ?_
    haveI i2 : Bn (a * 2 ^ (-((bl a : Int) - bl b)).toNat) (1000 + 5000) := Bn.shift 5000 ia (by omega)
    refine Tc_region ?_
    refine Tl_q (JO_q rfl rfl (Jq_move rfl rfl)) rfl ?_
    refine Tl_q (JO_q rfl rfl (Jq_move rfl rfl)) rfl ?_
    refine Tl_q (JO_q rfl rfl (Jq_neg rfl rfl (r := -((bl a : Int) - bl b)) (w64 (by omega) (by omega) (by omega)))) rfl ?_
    refine Tl_e (JO_e rfl rfl (Je_call rfl fn37 rfl (dshl_spec a (-((bl a : Int) - bl b)) (by omega) (Bn.use (by omega))))) rfl rfl ?_
    refine Tl_q (JO_q rfl rfl (Jq_assign rfl rfl)) rfl ?_
    refine Tl_end ?_
    refine At_then ?_
    refine Tc_seq ?_
    refine Tc_seq ?_
    refine Tc_region ?_
    refine Tl_q (JO_q rfl rfl (Jq_move rfl rfl)) rfl ?_
    refine Tl_q (JO_q rfl rfl (Jq_move rfl rfl)) rfl ?_
    refine Tl_e (JO_e rfl rfl (Je_call rfl fn70 rfl (cmp_w (limbs (a * 2 ^ (-((bl a : Int) - bl b)).toNat)) (small_limbs _) (limbs (b)) (small_limbs _) (a * 2 ^ (-((bl a : Int) - bl b)).toNat) (val_limbs _) (b) (val_limbs _)))) rfl rfl ?_
    by_cases h2 : a * 2 ^ (-((bl a : Int) - bl b)).toNat < b
    · skip
      refine Tl_q (JO_q rfl rfl (Jq_lss rfl rfl rfl (b := true) (dT (by rw [cmpN_lt h2]; decide)))) rfl ?_
      refine Tl_end ?_
      refine At_then ?_
      refine Tc_t rfl ?_
      refine Tc_region ?_
      refine Tl_q (JO_q rfl rfl (Jq_move rfl rfl)) rfl ?_
      refine Tl_q (JO_q rfl rfl (Jq_sub rfl rfl rfl (r := (bl a : Int) - bl b - 1) (w64 (by omega) (by omega) (by omega)))) rfl ?_
      refine Tl_q (JO_q rfl rfl (Jq_assign rfl rfl)) rfl ?_
      refine Tl_end ?_
      refine At_then ?_
      refine Tc_seq ?_
      refine Tc_region ?_
      refine Tl_q (JO_q rfl rfl (Jq_move rfl rfl)) rfl ?_
      refine Tl_q (JO_q rfl rfl (Jq_move rfl rfl)) rfl ?_
      refine Tl_q (JO_q rfl rfl (Jq_geq rfl rfl rfl (b := true) (dT (by omega)))) rfl ?_
      refine Tl_q (JO_q rfl rfl (Jq_move rfl rfl)) rfl ?_
      refine Tl_q (JO_qg rfl rfl rfl rfl (Jq_move rfl rfl)) rfl ?_
      refine Tl_q (JO_qg rfl rfl rfl rfl (Jq_lss rfl rfl rfl (b := true) (dT (by omega)))) rfl ?_
      refine Tl_q (JO_q rfl rfl (Jq_pick_t rfl rfl rfl)) rfl ?_
      refine Tl_q (JO_q rfl rfl (Jq_assign rfl rfl)) rfl ?_
      refine Tl_q (JO_q rfl rfl (Jq_assign rfl rfl)) rfl ?_
      refine Tl_end ?_
      refine At_then ?_
      exact Tc_ret2 (fun _ _ h => h) rfl rfl rfl (by unfold lg; rw [if_neg h1, if_pos h2] <;> rfl)
    · skip
      refine Tl_q (JO_q rfl rfl (Jq_lss rfl rfl rfl (b := false) (dF (by unfold cmpN; rw [if_neg h2]; split <;> decide)))) rfl ?_
      refine Tl_end ?_
      refine At_then ?_
      refine Tc_f rfl ?_
      refine Tc_skipA ?_
      refine At_then ?_
      refine Tc_seq ?_
      refine Tc_region ?_
      refine Tl_q (JO_q rfl rfl (Jq_move rfl rfl)) rfl ?_
      refine Tl_q (JO_q rfl rfl (Jq_move rfl rfl)) rfl ?_
      refine Tl_q (JO_q rfl rfl (Jq_geq rfl rfl rfl (b := true) (dT (by omega)))) rfl ?_
      refine Tl_q (JO_q rfl rfl (Jq_move rfl rfl)) rfl ?_
      refine Tl_q (JO_qg rfl rfl rfl rfl (Jq_move rfl rfl)) rfl ?_
      refine Tl_q (JO_qg rfl rfl rfl rfl (Jq_lss rfl rfl rfl (b := true) (dT (by omega)))) rfl ?_
      refine Tl_q (JO_q rfl rfl (Jq_pick_t rfl rfl rfl)) rfl ?_
      refine Tl_q (JO_q rfl rfl (Jq_assign rfl rfl)) rfl ?_
      refine Tl_q (JO_q rfl rfl (Jq_assign rfl rfl)) rfl ?_
      refine Tl_end ?_
      refine At_then ?_
      exact Tc_ret2 (fun _ _ h => h) rfl rfl rfl (by unfold lg; rw [if_neg h1, if_neg h2] <;> rfl)

set_option maxRecDepth 10000 in
theorem rround (a b : Nat) (ha0 : a ≠ 0) (hb0 : b ≠ 0) (ha : (limbs a).length ≤ 1000) (hb : (limbs b).length ≤ 1000) (p : Int) (hp1 : 1 ≤ p) (hp2 : p ≤ 4096) (up : Bool) : Ctr Tryz.prog 64 [V.one (natL (limbs a)), V.one (natL (limbs b)), V.one (Leaf.val (.int .i64 p)), V.one (Leaf.val (.bool up))] (R.tup [V.one (natL (limbs (rndQ a b (lg a b - p + 1) up))), V.one (Leaf.val (.int .i64 (lg a b - p + 1)))]) := by
  refine Ctr.of_body Tryz.func64 rfl Tryz.ntmps64 (Nat.le_of_ble_eq_true rfl) (fun w0 A0 => ?_)
  haveI ia : Bn a 1000 := ⟨ha⟩
  haveI ib : Bn b 1000 := ⟨hb⟩
  have hla := bl_le_len ha; have hlb := bl_le_len hb
  have hlg := lg_bound ha hb
  have hlo := lg_or a b
  refine Tc_seq ?_
  refine Tc_region ?_
  refine Tl_q (JO_q rfl rfl (Jq_assign_nil rfl)) rfl ?_
  refine Tl_q (JO_q rfl rfl (Jq_assign rfl rfl)) rfl ?_
  refine Tl_end ?_
  refine At_then ?_
  refine Tc_seq ?_
  refine Tc_region ?_
  refine Tl_q (JO_q rfl rfl (Jq_move rfl rfl)) rfl ?_
  refine Tl_e (JO_e rfl rfl (Je_call rfl fn92 rfl (rbits_w (limbs (a)) (small_limbs _) (Bn.use (by omega)) (a) (val_limbs _)))) rfl rfl ?_
  refine Tl_q (JO_q rfl rfl (Jq_move rfl rfl)) rfl ?_
  refine Tl_e (JO_e rfl rfl (Je_call rfl fn92 rfl (rbits_w (limbs (b)) (small_limbs _) (Bn.use (by omega)) (b) (val_limbs _)))) rfl rfl ?_
  refine Tl_q (JO_q rfl rfl (Jq_sub rfl rfl rfl (r := (bl a : Int) - bl b) (w64 (by omega) (by omega) (by omega)))) rfl ?_
  refine Tl_q (JO_q rfl rfl (Jq_move rfl rfl)) rfl ?_
  refine Tl_q (JO_q rfl rfl (Jq_sub rfl rfl rfl (r := (bl a : Int) - bl b - p) (w64 (by omega) (by omega) (by omega)))) rfl ?_
  refine Tl_q (JO_q rfl rfl (Jq_assign rfl rfl)) rfl ?_
  refine Tl_end ?_
  refine At_then ?_
  refine Tc_block ?_
  refine Tc_loopR (fun m Γ H => ∃ (E : Int), (lg a b - p + 1 - E).toNat = m ∧ Γ = [(0, some (D.v (V.one (natL (limbs a))))), (1, some (D.v (V.one (natL (limbs b))))), (2, some (D.int p)), (3, some (D.bool up)), (10, some (D.int E))] ∧ H = [] ∧ E ≤ lg a b - p + 1 ∧ lg a b - p ≤ E) ⟨(bl a : Int) - bl b - p, rfl, rfl, rfl, by omega, by omega⟩ ⟨rfl, rfl, rfl, rfl, rfl, trivial⟩ ?_
  rintro m Γ H ⟨E, rfl, rfl, rfl, hE1, hE2⟩
  refine Tc_block ?_
  refine Tc_seq ?_
  refine Tc_region ?_
  refine Tl_q (JO_q rfl rfl (Jq_move rfl rfl)) rfl ?_
  refine Tl_q (JO_q rfl rfl (Jq_move rfl rfl)) rfl ?_
  refine Tl_q (JO_q rfl rfl (Jq_assign rfl rfl)) rfl ?_
  refine Tl_q (JO_q rfl rfl (Jq_assign rfl rfl)) rfl ?_
  refine Tl_end ?_
  refine At_then ?_
  refine Tc_seq ?_
  refine Tc_seq ?_
  refine Tc_region ?_
  refine Tl_q (JO_q rfl rfl (Jq_move rfl rfl)) rfl ?_
  by_cases h1 : 0 < E
  · skip
    refine Tl_q (JO_q rfl rfl (Jq_gtr rfl rfl rfl (b := true) (dT (by omega)))) rfl ?_
    refine Tl_end ?_
    refine At_then ?_
    refine Tc_t rfl ?_
    haveI i1 : Bn (b * 2 ^ E.toNat) (1000 + 5000) := Bn.shift 5000 ib (by omega)
    refine Tc_region ?_
    refine Tl_q (JO_q rfl rfl (Jq_move rfl rfl)) rfl ?_
    refine Tl_q (JO_q rfl rfl (Jq_move rfl rfl)) rfl ?_
    refine Tl_e (JO_e rfl rfl (Je_call rfl fn40 rfl (rShlZ (limbs b) E (by omega) (by omega) (small_limbs _) (Bn.use (by omega)) b (val_limbs _)))) rfl rfl ?_
    refine Tl_q (JO_q rfl rfl (Jq_move rfl rfl)) rfl ?_
    refine Tl_q (JO_q rfl rfl (Jq_extract rfl rfl rfl)) rfl ?_
    refine Tl_q (JO_q rfl rfl (Jq_extract rfl rfl rfl)) rfl ?_
    refine Tl_q (JO_q rfl rfl (Jq_assign rfl rfl)) rfl ?_
    refine Tl_end ?_
    refine At_then ?_
    refine Tc_seq ?_
    have hd0 : b * 2 ^ E.toNat ≠ 0 := by have h := scD_ne hb0 E; rwa [scD_pos (Int.le_of_lt h1)] at h
    have hq : (bl (a / (b * 2 ^ E.toNat)) : Int) = lg a b - E + 1 := by have h := bl_quot ha0 hb0 (e := E) (by omega); rwa [scN_pos (Int.le_of_lt h1), scD_pos (Int.le_of_lt h1)] at h
    refine Tc_region ?_
    refine Tl_q (JO_q rfl rfl (Jq_move rfl rfl)) rfl ?_
    refine Tl_q (JO_q rfl rfl (Jq_move rfl rfl)) rfl ?_
    refine Tl_e (JO_e rfl rfl (Je_call rfl fn93 rfl (rdivmod_w (limbs (a)) (limbs (b * 2 ^ E.toNat)) (small_limbs _) (small_limbs _) (Bn.use (by omega)) (Bn.use (by omega)) (a) (b * 2 ^ E.toNat) (val_limbs _) (val_limbs _) hd0))) rfl rfl ?_
    refine Tl_q (JO_q rfl rfl (Jq_move rfl rfl)) rfl ?_
    refine Tl_q (JO_q rfl rfl (Jq_extract rfl rfl rfl)) rfl ?_
    refine Tl_q (JO_q rfl rfl (Jq_extract rfl rfl rfl)) rfl ?_
    refine Tl_q (JO_q rfl rfl (Jq_extract rfl rfl rfl)) rfl ?_
    refine Tl_q (JO_q rfl rfl (Jq_assign rfl rfl)) rfl ?_
    refine Tl_q (JO_q rfl rfl (Jq_assign rfl rfl)) rfl ?_
    refine Tl_q (JO_q rfl rfl (Jq_assign rfl rfl)) rfl ?_
    refine Tl_end ?_
    refine At_then ?_
    refine Tc_seq ?_
    refine Tc_seq ?_
    refine Tc_region ?_
    refine Tl_q (JO_q rfl rfl (Jq_move rfl rfl)) rfl ?_
    refine Tl_e (JO_e rfl rfl (Je_call rfl fn92 rfl (rbits_w (limbs (a / (b * 2 ^ E.toNat))) (small_limbs _) (Bn.use (by omega)) (a / (b * 2 ^ E.toNat)) (val_limbs _)))) rfl rfl ?_
    refine Tl_q (JO_q rfl rfl (Jq_move rfl rfl)) rfl ?_
    by_cases hE : E < lg a b - p + 1
    · skip
      refine Tl_q (JO_q rfl rfl (Jq_gtr rfl rfl rfl (b := true) (dT (by omega)))) rfl ?_
      refine Tl_end ?_
      refine At_then ?_
      refine Tc_t rfl ?_
      refine Tc_seq ?_
      refine Tc_region ?_
      refine Tl_q (JO_q rfl rfl (Jq_move rfl rfl)) rfl ?_
      refine Tl_q (JO_q rfl rfl (Jq_add rfl rfl rfl (r := E + 1) (w64 (by omega) (by omega) (by omega)))) rfl ?_
      refine Tl_q (JO_q rfl rfl (Jq_assign rfl rfl)) rfl ?_
      refine Tl_end ?_
      refine At_then ?_
      refine Tc_exitA ?_
      refine At_then_exit ?_
      refine At_block_exit ?_
      exact At_next (m' := (lg a b - p + 1 - (E + 1)).toNat) (by omega) ⟨E + 1, rfl, rfl, rfl, by omega, by omega⟩ ⟨rfl, rfl, rfl, rfl, rfl, trivial⟩
    · skip
      refine Tl_q (JO_q rfl rfl (Jq_gtr rfl rfl rfl (b := false) (dF (by omega)))) rfl ?_
      refine Tl_end ?_
      refine At_then ?_
      refine Tc_f rfl ?_
      refine Tc_skipA ?_
      refine At_then ?_
      refine Tc_seq ?_
      refine Tc_seq ?_
      have he : lg a b - p + 1 = E := by omega
      refine Tc_region ?_
      refine Tl_q (JO_q rfl rfl (Jq_move rfl rfl)) rfl ?_
      refine Tl_q (JO_q rfl rfl (Jq_move rfl rfl)) rfl ?_
      refine Tl_two (fun hup => ?_) (fun hup => ?_)
      · skip
        refine Tl_q (JO_skip rfl rfl rfl) rfl ?_
        refine Tl_q (JO_skip rfl rfl rfl) rfl ?_
        refine Tl_q (JO_skip rfl rfl rfl) rfl ?_
        refine Tl_q (JO_q rfl rfl (Jq_pick_f rfl rfl rfl)) rfl ?_
        refine Tl_end ?_
        refine At_then ?_
        refine Tc_f rfl ?_
        refine Tc_skipA ?_
        refine At_then ?_
        refine Tc_seq ?_
        refine Tc_region ?_
        refine Tl_q (JO_q rfl rfl (Jq_move rfl rfl)) rfl ?_
        refine Tl_q (JO_q rfl rfl (Jq_move rfl rfl)) rfl ?_
        refine Tl_q (JO_q rfl rfl (Jq_assign rfl rfl)) rfl ?_
        refine Tl_q (JO_q rfl rfl (Jq_assign rfl rfl)) rfl ?_
        refine Tl_end ?_
        refine At_then ?_
        exact Tc_ret2 (fun _ _ h => h) rfl rfl rfl (by subst hup; rw [he, rndQ_no, scN_pos (Int.le_of_lt h1), scD_pos (Int.le_of_lt h1)] <;> rfl)
      · skip
        refine Tl_q (JO_qg rfl rfl rfl rfl (Jq_move rfl rfl)) rfl ?_
        refine Tl_q (JO_qg rfl rfl rfl rfl (Jq_len rfl rfl un23)) rfl ?_
        by_cases hr0 : a % (b * 2 ^ E.toNat) ≠ 0
        · skip
          refine Tl_q (JO_qg rfl rfl rfl rfl (Jq_gtr rfl rfl rfl (b := true) (dT (by have := limbs_len_pos.2 hr0; omega)))) rfl ?_
          refine Tl_q (JO_q rfl rfl (Jq_pick_t rfl rfl rfl)) rfl ?_
          refine Tl_end ?_
          refine At_then ?_
          refine Tc_t rfl ?_
          refine Tc_region ?_
          refine Tl_q (JO_q rfl rfl (Jq_move rfl rfl)) rfl ?_
          refine Tl_e (JO_e rfl rfl (Je_buildSlice rfl un23 ty62 tz62 rfl (by decide) (by decide) rfl (by decide) rfl)) rfl rfl ?_
          refine Tl_e (JO_e rfl rfl (Je_call rfl fn94 rfl (radd_w (limbs (a / (b * 2 ^ E.toNat))) [1] (small_limbs _) (Small.cons (by decide) Small.nil) (Bn.use (by omega)) (by simp) _ 1 (val_limbs _) rfl))) rfl rfl ?_
          refine Tl_q (JO_q rfl rfl (Jq_assign rfl rfl)) rfl ?_
          refine Tl_end ?_
          refine At_then ?_
          refine Tc_seq ?_
          refine Tc_region ?_
          refine Tl_q (JO_q rfl rfl (Jq_move rfl rfl)) rfl ?_
          refine Tl_q (JO_q rfl rfl (Jq_move rfl rfl)) rfl ?_
          refine Tl_q (JO_q rfl rfl (Jq_assign rfl rfl)) rfl ?_
          refine Tl_q (JO_q rfl rfl (Jq_assign rfl rfl)) rfl ?_
          refine Tl_end ?_
          refine At_then ?_
          exact Tc_ret2 (fun _ _ h => h) rfl rfl rfl (by subst hup; rw [he, rndQ_up (by rw [scN_pos (Int.le_of_lt h1), scD_pos (Int.le_of_lt h1)]; exact hr0), scN_pos (Int.le_of_lt h1), scD_pos (Int.le_of_lt h1)] <;> rfl)
        · skip
          refine Tl_q (JO_qg rfl rfl rfl rfl (Jq_gtr rfl rfl rfl (b := false) (dF (by rw [Classical.not_not.1 hr0, limbs_zero]; decide)))) rfl ?_
          refine Tl_q (JO_q rfl rfl (Jq_pick_t rfl rfl rfl)) rfl ?_
          refine Tl_end ?_
          refine At_then ?_
          refine Tc_f rfl ?_
          refine Tc_skipA ?_
          refine At_then ?_
          refine Tc_seq ?_
          refine Tc_region ?_
          refine Tl_q (JO_q rfl rfl (Jq_move rfl rfl)) rfl ?_
          refine Tl_q (JO_q rfl rfl (Jq_move rfl rfl)) rfl ?_
          refine Tl_q (JO_q rfl rfl (Jq_assign rfl rfl)) rfl ?_
          refine Tl_q (JO_q rfl rfl (Jq_assign rfl rfl)) rfl ?_
          refine Tl_end ?_
          refine At_then ?_
          exact Tc_ret2 (fun _ _ h => h) rfl rfl rfl (by subst hup; rw [he, rndQ_ex (by rw [scN_pos (Int.le_of_lt h1), scD_pos (Int.le_of_lt h1)]; exact hr0), scN_pos (Int.le_of_lt h1), scD_pos (Int.le_of_lt h1)] <;> rfl)
  · skip
    refine Tl_q (JO_q rfl rfl (Jq_gtr rfl rfl rfl (b := false) (dF (by omega)))) rfl ?_
    refine Tl_end ?_
    refine At_then ?_
    refine Tc_f rfl ?_
    haveI i1 : Bn (a * 2 ^ (-E).toNat) (1000 + 5000) := Bn.shift 5000 ia (by omega)
    refine Tc_region ?_
    refine Tl_q (JO_q rfl rfl (Jq_move rfl rfl)) rfl ?_
    refine Tl_q (JO_q rfl rfl (Jq_move rfl rfl)) rfl ?_
    refine Tl_q (JO_q rfl rfl (Jq_neg rfl rfl (r := -E) (w64 (by omega) (by omega) (by omega)))) rfl ?_
    refine Tl_e (JO_e rfl rfl (Je_call rfl fn40 rfl (rShlZ (limbs a) (-E) (by omega) (by omega) (small_limbs _) (Bn.use (by omega)) a (val_limbs _)))) rfl rfl ?_
    refine Tl_q (JO_q rfl rfl (Jq_move rfl rfl)) rfl ?_
    refine Tl_q (JO_q rfl rfl (Jq_extract rfl rfl rfl)) rfl ?_
    refine Tl_q (JO_q rfl rfl (Jq_extract rfl rfl rfl)) rfl ?_
    refine Tl_q (JO_q rfl rfl (Jq_assign rfl rfl)) rfl ?_
    refine Tl_end ?_
    refine At_then ?_
    refine Tc_seq ?_
    have hd0 : b ≠ 0 := by have h := scD_ne hb0 E; rwa [scD_np (Int.not_lt.1 h1)] at h
    have hq : (bl ((a * 2 ^ (-E).toNat) / b) : Int) = lg a b - E + 1 := by have h := bl_quot ha0 hb0 (e := E) (by omega); rwa [scN_np (Int.not_lt.1 h1), scD_np (Int.not_lt.1 h1)] at h
    refine Tc_region ?_
    refine Tl_q (JO_q rfl rfl (Jq_move rfl rfl)) rfl ?_
    refine Tl_q (JO_q rfl rfl (Jq_move rfl rfl)) rfl ?_
    refine Tl_e (JO_e rfl rfl (Je_call rfl fn93 rfl (rdivmod_w (limbs (a * 2 ^ (-E).toNat)) (limbs (b)) (small_limbs _) (small_limbs _) (Bn.use (by omega)) (Bn.use (by omega)) (a * 2 ^ (-E).toNat) (b) (val_limbs _) (val_limbs _) hd0))) rfl rfl ?_
    refine Tl_q (JO_q rfl rfl (Jq_move rfl rfl)) rfl ?_
    refine Tl_q (JO_q rfl rfl (Jq_extract rfl rfl rfl)) rfl ?_
    refine Tl_q (JO_q rfl rfl (Jq_extract rfl rfl rfl)) rfl ?_
    refine Tl_q (JO_q rfl rfl (Jq_extract rfl rfl rfl)) rfl ?_
    refine Tl_q (JO_q rfl rfl (Jq_assign rfl rfl)) rfl ?_
    refine Tl_q (JO_q rfl rfl (Jq_assign rfl rfl)) rfl ?_
    refine Tl_q (JO_q rfl rfl (Jq_assign rfl rfl)) rfl ?_
    refine Tl_end ?_
    refine At_then ?_
    refine Tc_seq ?_
    refine Tc_seq ?_
    refine Tc_region ?_
    refine Tl_q (JO_q rfl rfl (Jq_move rfl rfl)) rfl ?_
    refine Tl_e (JO_e rfl rfl (Je_call rfl fn92 rfl (rbits_w (limbs ((a * 2 ^ (-E).toNat) / b)) (small_limbs _) (Bn.use (by omega)) ((a * 2 ^ (-E).toNat) / b) (val_limbs _)))) rfl rfl ?_
    refine Tl_q (JO_q rfl rfl (Jq_move rfl rfl)) rfl ?_
    by_cases hE : E < lg a b - p + 1
    · skip
      refine Tl_q (JO_q rfl rfl (Jq_gtr rfl rfl rfl (b := true) (dT (by omega)))) rfl ?_
      refine Tl_end ?_
      refine At_then ?_
      refine Tc_t rfl ?_
      refine Tc_seq ?_
      refine Tc_region ?_
      refine Tl_q (JO_q rfl rfl (Jq_move rfl rfl)) rfl ?_
      refine Tl_q (JO_q rfl rfl (Jq_add rfl rfl rfl (r := E + 1) (w64 (by omega) (by omega) (by omega)))) rfl ?_
      refine Tl_q (JO_q rfl rfl (Jq_assign rfl rfl)) rfl ?_
      refine Tl_end ?_
      refine At_then ?_
      refine Tc_exitA ?_
      refine At_then_exit ?_
      refine At_block_exit ?_
      exact At_next (m' := (lg a b - p + 1 - (E + 1)).toNat) (by omega) ⟨E + 1, rfl, rfl, rfl, by omega, by omega⟩ ⟨rfl, rfl, rfl, rfl, rfl, trivial⟩
    · skip
      refine Tl_q (JO_q rfl rfl (Jq_gtr rfl rfl rfl (b := false) (dF (by omega)))) rfl ?_
      refine Tl_end ?_
      refine At_then ?_
      refine Tc_f rfl ?_
      refine Tc_skipA ?_
      refine At_then ?_
      refine Tc_seq ?_
      refine Tc_seq ?_
      have he : lg a b - p + 1 = E := by omega
      refine Tc_region ?_
      refine Tl_q (JO_q rfl rfl (Jq_move rfl rfl)) rfl ?_
      refine Tl_q (JO_q rfl rfl (Jq_move rfl rfl)) rfl ?_
      refine Tl_two (fun hup => ?_) (fun hup => ?_)
      · skip
        refine Tl_q (JO_skip rfl rfl rfl) rfl ?_
        refine Tl_q (JO_skip rfl rfl rfl) rfl ?_
        refine Tl_q (JO_skip rfl rfl rfl) rfl ?_
        refine Tl_q (JO_q rfl rfl (Jq_pick_f rfl rfl rfl)) rfl ?_
        refine Tl_end ?_
        refine At_then ?_
        refine Tc_f rfl ?_
        refine Tc_skipA ?_
        refine At_then ?_
        refine Tc_seq ?_
        refine Tc_region ?_
        refine Tl_q (JO_q rfl rfl (Jq_move rfl rfl)) rfl ?_
        refine Tl_q (JO_q rfl rfl (Jq_move rfl rfl)) rfl ?_
        refine Tl_q (JO_q rfl rfl (Jq_assign rfl rfl)) rfl ?_
        refine Tl_q (JO_q rfl rfl (Jq_assign rfl rfl)) rfl ?_
        refine Tl_end ?_
        refine At_then ?_
        exact Tc_ret2 (fun _ _ h => h) rfl rfl rfl (by subst hup; rw [he, rndQ_no, scN_np (Int.not_lt.1 h1), scD_np (Int.not_lt.1 h1)] <;> rfl)
      · skip
        refine Tl_q (JO_qg rfl rfl rfl rfl (Jq_move rfl rfl)) rfl ?_
        refine Tl_q (JO_qg rfl rfl rfl rfl (Jq_len rfl rfl un23)) rfl ?_
        by_cases hr0 : (a * 2 ^ (-E).toNat) % b ≠ 0
        · skip
          refine Tl_q (JO_qg rfl rfl rfl rfl (Jq_gtr rfl rfl rfl (b := true) (dT (by have := limbs_len_pos.2 hr0; omega)))) rfl ?_
          refine Tl_q (JO_q rfl rfl (Jq_pick_t rfl rfl rfl)) rfl ?_
          refine Tl_end ?_
          refine At_then ?_
          refine Tc_t rfl ?_
          refine Tc_region ?_
          refine Tl_q (JO_q rfl rfl (Jq_move rfl rfl)) rfl ?_
          refine Tl_e (JO_e rfl rfl (Je_buildSlice rfl un23 ty62 tz62 rfl (by decide) (by decide) rfl (by decide) rfl)) rfl rfl ?_
          refine Tl_e (JO_e rfl rfl (Je_call rfl fn94 rfl (radd_w (limbs ((a * 2 ^ (-E).toNat) / b)) [1] (small_limbs _) (Small.cons (by decide) Small.nil) (Bn.use (by omega)) (by simp) _ 1 (val_limbs _) rfl))) rfl rfl ?_
          refine Tl_q (JO_q rfl rfl (Jq_assign rfl rfl)) rfl ?_
          refine Tl_end ?_
          refine At_then ?_
          refine Tc_seq ?_
          refine Tc_region ?_
          refine Tl_q (JO_q rfl rfl (Jq_move rfl rfl)) rfl ?_
          refine Tl_q (JO_q rfl rfl (Jq_move rfl rfl)) rfl ?_
          refine Tl_q (JO_q rfl rfl (Jq_assign rfl rfl)) rfl ?_
          refine Tl_q (JO_q rfl rfl (Jq_assign rfl rfl)) rfl ?_
          refine Tl_end ?_
          refine At_then ?_
          exact Tc_ret2 (fun _ _ h => h) rfl rfl rfl (by subst hup; rw [he, rndQ_up (by rw [scN_np (Int.not_lt.1 h1), scD_np (Int.not_lt.1 h1)]; exact hr0), scN_np (Int.not_lt.1 h1), scD_np (Int.not_lt.1 h1)] <;> rfl)
        · skip
          refine Tl_q (JO_qg rfl rfl rfl rfl (Jq_gtr rfl rfl rfl (b := false) (dF (by rw [Classical.not_not.1 hr0, limbs_zero]; decide)))) rfl ?_
          refine Tl_q (JO_q rfl rfl (Jq_pick_t rfl rfl rfl)) rfl ?_
          refine Tl_end ?_
          refine At_then ?_
          refine Tc_f rfl ?_
          refine Tc_skipA ?_
          refine At_then ?_
          refine Tc_seq ?_
          refine Tc_region ?_
          refine Tl_q (JO_q rfl rfl (Jq_move rfl rfl)) rfl ?_
          refine Tl_q (JO_q rfl rfl (Jq_move rfl rfl)) rfl ?_
          refine Tl_q (JO_q rfl rfl (Jq_assign rfl rfl)) rfl ?_
          refine Tl_q (JO_q rfl rfl (Jq_assign rfl rfl)) rfl ?_
          refine Tl_end ?_
          refine At_then ?_
          exact Tc_ret2 (fun _ _ h => h) rfl rfl rfl (by subst hup; rw [he, rndQ_ex (by rw [scN_np (Int.not_lt.1 h1), scD_np (Int.not_lt.1 h1)]; exact hr0), scN_np (Int.not_lt.1 h1), scD_np (Int.not_lt.1 h1)] <;> rfl)

set_option maxRecDepth 10000 in
theorem dround (x : Qr) (r : Rat) (hr : x.q = r) (hfx : Fit 100 x) (p : Int) (away : Bool) : Ctr Tryz.prog 34 [qV x, V.one (Leaf.val (.int .i64 p)), V.one (Leaf.val (.bool away))] (R.tup [dV (rndD r p away), V.one (Leaf.val (.int .i64 (rndE p)))]) := by
  refine Ctr.of_body Tryz.func34 rfl Tryz.ntmps34 (Nat.le_of_ble_eq_true rfl) (fun w0 A0 => ?_)
  haveI ir : Br r 100 := Br.fitq hr hfx
  have hnl : (limbs (Int.natAbs r.num)).length ≤ 100 := Bz.use (z := r.num) (Nat.le_refl _)
  have hdl : (limbs r.den).length ≤ 101 := Bn.use (n := r.den) (Nat.le_refl _)
  haveI ina : Bn (Int.natAbs r.num) 100 := ⟨hnl⟩
  have hlg := lg_bound hnl hdl
  refine Tc_seq ?_
  refine Tc_region ?_
  refine Tl_e (JO_e rfl rfl (Je_box (n := 0) rfl rfl rfl)) rfl rfl ?_
  refine Tl_e (JO_e rfl rfl (Je_alloc (n := 1) rfl tz42 rfl)) rfl rfl ?_
  refine Tl_q (JO_q rfl rfl (Jq_assign rfl rfl)) rfl ?_
  refine Tl_end ?_
  refine At_then ?_
  refine Tc_seq ?_
  refine Tc_seq ?_
  refine Tc_region ?_
  refine Tl_q (JO_q rfl rfl (Jq_move rfl rfl)) rfl ?_
  by_cases h1 : p < 1
  · skip
    refine Tl_q (JO_q rfl rfl (Jq_lss rfl rfl rfl (b := true) (dT (by omega)))) rfl ?_
    refine Tl_q (JO_q rfl rfl (Jq_move rfl rfl)) rfl ?_
    refine Tl_q (JO_skip rfl rfl rfl) rfl ?_
    refine Tl_q (JO_skip rfl rfl rfl) rfl ?_
    refine Tl_q (JO_q rfl rfl (Jq_pick_t rfl rfl rfl)) rfl ?_
    refine Tl_end ?_
    refine At_then ?_
    refine Tc_t rfl ?_
    refine Tc_seq ?_
    refine Tc_region ?_
    refine Tl_q (JO_q rfl rfl (Jq_build rfl tz42 rfl pl42 rfl)) rfl ?_
    refine Tl_e (JO_e rfl rfl (Je_store rfl rfl rfl rfl ty42 rfl (by decide) (Nat.le_of_ble_eq_true rfl) rfl)) rfl rfl ?_
    refine Tl_q (JO_q rfl rfl (Jq_assign rfl rfl)) rfl ?_
    refine Tl_end ?_
    refine At_then ?_
    exact Tc_ret2 (fun _ _ h => h) rfl (⟨_, _, rfl, rfl, .inl ⟨ty42, Nat.le_of_ble_eq_true rfl, rfl⟩⟩) rfl (by unfold rndD rndE; rw [if_pos (by omega), if_pos (by omega), dV_zero] <;> rfl)
  · skip
    refine Tl_q (JO_q rfl rfl (Jq_lss rfl rfl rfl (b := false) (dF (by omega)))) rfl ?_
    refine Tl_q (JO_q rfl rfl (Jq_move rfl rfl)) rfl ?_
    refine Tl_q (JO_qg rfl rfl rfl rfl (Jq_move rfl rfl)) rfl ?_
    by_cases h2 : 4096 < p
    · skip
      refine Tl_q (JO_qg rfl rfl rfl rfl (Jq_gtr rfl rfl rfl (b := true) (dT (by omega)))) rfl ?_
      refine Tl_q (JO_q rfl rfl (Jq_pick_f rfl rfl rfl)) rfl ?_
      refine Tl_end ?_
      refine At_then ?_
      refine Tc_t rfl ?_
      refine Tc_seq ?_
      refine Tc_region ?_
      refine Tl_q (JO_q rfl rfl (Jq_build rfl tz42 rfl pl42 rfl)) rfl ?_
      refine Tl_e (JO_e rfl rfl (Je_store rfl rfl rfl rfl ty42 rfl (by decide) (Nat.le_of_ble_eq_true rfl) rfl)) rfl rfl ?_
      refine Tl_q (JO_q rfl rfl (Jq_assign rfl rfl)) rfl ?_
      refine Tl_end ?_
      refine At_then ?_
      exact Tc_ret2 (fun _ _ h => h) rfl (⟨_, _, rfl, rfl, .inl ⟨ty42, Nat.le_of_ble_eq_true rfl, rfl⟩⟩) rfl (by unfold rndD rndE; rw [if_pos (by omega), if_pos (by omega), dV_zero] <;> rfl)
    · skip
      refine Tl_q (JO_qg rfl rfl rfl rfl (Jq_gtr rfl rfl rfl (b := false) (dF (by omega)))) rfl ?_
      refine Tl_q (JO_q rfl rfl (Jq_pick_f rfl rfl rfl)) rfl ?_
      refine Tl_end ?_
      refine At_then ?_
      refine Tc_f rfl ?_
      refine Tc_skipA ?_
      refine At_then ?_
      refine Tc_seq ?_
      refine Tc_drawK 1 [none, none, none, none, some 2, some 2, none] [2] follows (by kernel_rfl) ?_
      refine DK_q (JO_q rfl rfl (Jq_load_agg rfl rfl rfl (by decide) ty25 (by decide) (Nat.le_of_ble_eq_true rfl) rfl)) ?_
      refine DK_c rfl rfl (Jd_call rfl fn51 rfl (qnum x (r) hr (hfx.mono (by omega)))) ?_
      refine DK_q (JO_q rfl rfl (Jq_load_agg rfl rfl rfl (by decide) ty25 (by decide) (Nat.le_of_ble_eq_true rfl) rfl)) ?_
      refine DK_c rfl rfl (Jd_call rfl fn52 rfl (qden x (r) hr (hfx.mono (by omega)))) ?_
      refine DK_s 2 rfl rfl rfl (Jd_alloc (i := 2) rfl tz65 rfl) ?_
      refine DK_s 2 rfl rfl rfl (Jd_store rfl rfl rfl rfl ty65 rfl (by decide) (Nat.le_of_ble_eq_true rfl) rfl) ?_
      refine DK_q (JO_q rfl rfl (Jq_assign rfl rfl)) ?_
      refine DK_nil ?_
      refine At_then ?_
      refine Tc_seq ?_
      refine Tc_seq ?_
      refine Tc_region ?_
      refine Tl_q (JO_q rfl rfl (Jq_load_agg rfl rfl rfl (by decide) ty65 (by decide) (Nat.le_of_ble_eq_true rfl) rfl)) rfl ?_
      refine Tl_e (JO_e rfl rfl (Je_call rfl fn53 rfl (zsign (zOf (r.num)) (r.num) (zOf_z _) (Bz.use (by omega))))) rfl rfl ?_
      by_cases h3 : r.num = 0
      · skip
        refine Tl_q (JO_q rfl rfl (Jq_eql rfl rfl rfl (b := true) (eT (by rw [h3]; rfl)))) rfl ?_
        refine Tl_end ?_
        refine At_then ?_
        refine Tc_t rfl ?_
        refine Tc_seq ?_
        refine Tc_region ?_
        refine Tl_q (JO_q rfl rfl (Jq_build rfl tz42 rfl pl42 rfl)) rfl ?_
        refine Tl_e (JO_e rfl rfl (Je_store rfl rfl rfl rfl ty42 rfl (by decide) (Nat.le_of_ble_eq_true rfl) rfl)) rfl rfl ?_
        refine Tl_q (JO_q rfl rfl (Jq_assign rfl rfl)) rfl ?_
        refine Tl_end ?_
        refine At_then ?_
        exact Tc_ret2 (fun _ _ h => h) rfl (⟨_, _, rfl, rfl, .inl ⟨ty42, Nat.le_of_ble_eq_true rfl, rfl⟩⟩) rfl (by unfold rndD; rw [if_pos (by omega), rndE_of h1 h2, dV_zero] <;> rfl)
      · skip
        refine Tl_q (JO_q rfl rfl (Jq_eql rfl rfl rfl (b := false) (eF (sgz_ne h3)))) rfl ?_
        refine Tl_end ?_
        refine At_then ?_
        refine Tc_f rfl ?_
        refine Tc_skipA ?_
        refine At_then ?_
        refine Tc_seq ?_
        refine Tc_region ?_
        refine Tl_q (JO_q rfl rfl (Jq_fieldAddr rfl rfl fo65_1 rfl)) rfl ?_
        refine Tl_q (JO_q rfl rfl (Jq_load rfl rfl rfl (by decide) ty23 rfl)) rfl ?_
        refine Tl_q (JO_q rfl rfl (Jq_move rfl rfl)) rfl ?_
        refine Tl_e (JO_e rfl rfl (Je_call rfl fn54 rfl (dsize (Int.natAbs (r.num)) r.den (by omega) r.den_nz (by omega) (by omega)))) rfl rfl ?_
        refine Tl_q (JO_q rfl rfl (Jq_move rfl rfl)) rfl ?_
        refine Tl_q (JO_q rfl rfl (Jq_extract rfl rfl rfl)) rfl ?_
        refine Tl_q (JO_q rfl rfl (Jq_extract rfl rfl rfl)) rfl ?_
        refine Tl_q (JO_q rfl rfl (Jq_assign rfl rfl)) rfl ?_
        refine Tl_q (JO_q rfl rfl (Jq_assign rfl rfl)) rfl ?_
        refine Tl_end ?_
        refine At_then ?_
        refine Tc_seq ?_
        refine Tc_seq ?_
        refine Tc_region ?_
        refine Tl_q (JO_q rfl rfl (Jq_move rfl rfl)) rfl ?_
        refine Tl_q (JO_q rfl rfl (Jq_not rfl rfl (c := false) rfl)) rfl ?_
        refine Tl_end ?_
        refine At_then ?_
        refine Tc_f rfl ?_
        refine Tc_skipA ?_
        refine At_then ?_
        refine Tc_seq ?_
        refine Tc_region ?_
        refine Tl_q (JO_q rfl rfl (Jq_move rfl rfl)) rfl ?_
        refine Tl_q (JO_q rfl rfl (Jq_move rfl rfl)) rfl ?_
        refine Tl_q (JO_q rfl rfl (Jq_sub rfl rfl rfl (r := lg (Int.natAbs (r.num)) r.den - p) (w64 (by omega) (by omega) (by omega)))) rfl ?_
        refine Tl_q (JO_q rfl rfl (Jq_add rfl rfl rfl (r := lg (Int.natAbs (r.num)) r.den - p + 1) (w64 (by omega) (by omega) (by omega)))) rfl ?_
        refine Tl_q (JO_q rfl rfl (Jq_assign rfl rfl)) rfl ?_
        refine Tl_end ?_
        refine At_then ?_
        refine Tc_seq ?_
        refine Tc_region ?_
        refine Tl_q (JO_q rfl rfl (Jq_fieldAddr rfl rfl fo65_1 rfl)) rfl ?_
        refine Tl_q (JO_q rfl rfl (Jq_load rfl rfl rfl (by decide) ty23 rfl)) rfl ?_
        refine Tl_q (JO_q rfl rfl (Jq_move rfl rfl)) rfl ?_
        refine Tl_q (JO_q rfl rfl (Jq_assign rfl rfl)) rfl ?_
        refine Tl_q (JO_q rfl rfl (Jq_assign rfl rfl)) rfl ?_
        refine Tl_end ?_
        refine At_then ?_
        refine Tc_seq ?_
        refine Tc_seq ?_
        refine Tc_region ?_
        refine Tl_q (JO_q rfl rfl (Jq_move rfl rfl)) rfl ?_
        by_cases hE : 0 ≤ lg (Int.natAbs (r.num)) r.den - p + 1
        · skip
          refine Tl_q (JO_q rfl rfl (Jq_geq rfl rfl rfl (b := true) (dT (by omega)))) rfl ?_
          refine Tl_end ?_
          refine At_then ?_
          refine Tc_t rfl ?_
          haveI i1 : Bn (r.den * 2 ^ (lg (Int.natAbs (r.num)) r.den - p + 1).toNat) (101 + 5000) := Bn.shift 5000 inferInstance (by omega)
          refine Tc_region ?_
          refine Tl_q (JO_q rfl rfl (Jq_move rfl rfl)) rfl ?_
          refine Tl_q (JO_q rfl rfl (Jq_move rfl rfl)) rfl ?_
          refine Tl_e (JO_e rfl rfl (Je_call rfl fn37 rfl (dshl_spec r.den (lg (Int.natAbs (r.num)) r.den - p + 1) (by omega) (Bn.use (by omega))))) rfl rfl ?_
          refine Tl_q (JO_q rfl rfl (Jq_assign rfl rfl)) rfl ?_
          refine Tl_end ?_
          refine At_then ?_
          refine Tc_seq ?_
          have hd0 : r.den * 2 ^ (lg (Int.natAbs (r.num)) r.den - p + 1).toNat ≠ 0 := by have h := scD_ne r.den_nz (lg (Int.natAbs (r.num)) r.den - p + 1); rwa [scD_pos hE] at h
          refine Tc_region ?_
          refine Tl_q (JO_q rfl rfl (Jq_move rfl rfl)) rfl ?_
          refine Tl_q (JO_q rfl rfl (Jq_move rfl rfl)) rfl ?_
          refine Tl_e (JO_e rfl rfl (Je_call rfl fn55 rfl (divmod_w (limbs (Int.natAbs (r.num))) (limbs (r.den * 2 ^ (lg (Int.natAbs (r.num)) r.den - p + 1).toNat)) (small_limbs _) (small_limbs _) (Bn.use (by omega)) (Bn.use (by omega)) (Int.natAbs (r.num)) (r.den * 2 ^ (lg (Int.natAbs (r.num)) r.den - p + 1).toNat) (val_limbs _) (val_limbs _) hd0))) rfl rfl ?_
          refine Tl_q (JO_q rfl rfl (Jq_move rfl rfl)) rfl ?_
          refine Tl_q (JO_q rfl rfl (Jq_extract rfl rfl rfl)) rfl ?_
          refine Tl_q (JO_q rfl rfl (Jq_extract rfl rfl rfl)) rfl ?_
          refine Tl_q (JO_q rfl rfl (Jq_extract rfl rfl rfl)) rfl ?_
          refine Tl_q (JO_q rfl rfl (Jq_assign rfl rfl)) rfl ?_
          refine Tl_q (JO_q rfl rfl (Jq_assign rfl rfl)) rfl ?_
          refine Tl_q (JO_q rfl rfl (Jq_assign rfl rfl)) rfl ?_
          refine Tl_end ?_
          refine At_then ?_
          refine Tc_seq ?_
          refine Tc_seq ?_
          refine Tc_region ?_
          refine Tl_q (JO_q rfl rfl (Jq_move rfl rfl)) rfl ?_
          refine Tl_q (JO_q rfl rfl (Jq_move rfl rfl)) rfl ?_
          refine Tl_two (fun hup => ?_) (fun hup => ?_)
          · skip
            refine Tl_q (JO_skip rfl rfl rfl) rfl ?_
            refine Tl_q (JO_skip rfl rfl rfl) rfl ?_
            refine Tl_q (JO_skip rfl rfl rfl) rfl ?_
            refine Tl_q (JO_q rfl rfl (Jq_pick_f rfl rfl rfl)) rfl ?_
            refine Tl_end ?_
            refine At_then ?_
            refine Tc_f rfl ?_
            refine Tc_skipA ?_
            refine At_then ?_
            refine Tc_seq ?_
            refine Tc_region ?_
            refine Tl_q (JO_q rfl rfl (Jq_fieldAddr rfl rfl fo65_0 rfl)) rfl ?_
            refine Tl_q (JO_q rfl rfl (Jq_load rfl rfl rfl (by decide) ty4 rfl)) rfl ?_
            refine Tl_q (JO_q rfl rfl (Jq_move rfl rfl)) rfl ?_
            refine Tl_q (JO_q rfl rfl (Jq_move rfl rfl)) rfl ?_
            refine Tl_e (JO_e rfl rfl (Je_call rfl fn57 rfl (dnormal (decide (r.num < 0)) (limbs ((Int.natAbs (r.num)) / (r.den * 2 ^ (lg (Int.natAbs (r.num)) r.den - p + 1).toNat))) (lg (Int.natAbs (r.num)) r.den - p + 1) (small_limbs _) (Bn.use (by omega)) (by omega) (by omega) ((Int.natAbs (r.num)) / (r.den * 2 ^ (lg (Int.natAbs (r.num)) r.den - p + 1).toNat)) (val_limbs _)))) rfl rfl ?_
            refine Tl_q (JO_q rfl rfl (Jq_move rfl rfl)) rfl ?_
            refine Tl_q (JO_q rfl rfl (Jq_extract rfl rfl rfl)) rfl ?_
            refine Tl_q (JO_q rfl rfl (Jq_extract rfl rfl rfl)) rfl ?_
            refine Tl_e (JO_e rfl rfl (Je_alloc (n := 3) rfl tz42 rfl)) rfl rfl ?_
            refine Tl_e (JO_e rfl rfl (Je_store rfl rfl rfl rfl ty42 rfl (by decide) (Nat.le_of_ble_eq_true rfl) rfl)) rfl rfl ?_
            refine Tl_q (JO_q rfl rfl (Jq_assign rfl rfl)) rfl ?_
            refine Tl_end ?_
            refine At_then ?_
            refine Tc_seq ?_
            refine Tc_region ?_
            refine Tl_q (JO_q rfl rfl (Jq_load_agg rfl rfl rfl (by decide) ty42 (by decide) (Nat.le_of_ble_eq_true rfl) rfl)) rfl ?_
            refine Tl_e (JO_e rfl rfl (Je_store rfl rfl rfl rfl ty42 rfl (by decide) (Nat.le_of_ble_eq_true rfl) rfl)) rfl rfl ?_
            refine Tl_q (JO_q rfl rfl (Jq_assign rfl rfl)) rfl ?_
            refine Tl_end ?_
            refine At_then ?_
            exact Tc_ret2 (fun _ _ h => h) rfl (⟨_, _, rfl, rfl, .inl ⟨ty42, Nat.le_of_ble_eq_true rfl, rfl⟩⟩) rfl (by subst hup; rw [rndD_of h1 h2 h3, rndE_of h1 h2]; unfold rnd; rw [rndQ_no, scN_pos hE, scD_pos hE] <;> rfl)
          · skip
            refine Tl_q (JO_qg rfl rfl rfl rfl (Jq_move rfl rfl)) rfl ?_
            refine Tl_q (JO_qg rfl rfl rfl rfl (Jq_len rfl rfl un23)) rfl ?_
            by_cases hr0 : (Int.natAbs (r.num)) % (r.den * 2 ^ (lg (Int.natAbs (r.num)) r.den - p + 1).toNat) ≠ 0
            · skip
              refine Tl_q (JO_qg rfl rfl rfl rfl (Jq_gtr rfl rfl rfl (b := true) (dT (by have := limbs_len_pos.2 hr0; omega)))) rfl ?_
              refine Tl_q (JO_q rfl rfl (Jq_pick_t rfl rfl rfl)) rfl ?_
              refine Tl_end ?_
              refine At_then ?_
              refine Tc_t rfl ?_
              refine Tc_region ?_
              refine Tl_q (JO_q rfl rfl (Jq_move rfl rfl)) rfl ?_
              refine Tl_e (JO_e rfl rfl (Je_call rfl fn38 rfl (of_spec 1 (by decide)))) rfl rfl ?_
              refine Tl_e (JO_e rfl rfl (Je_call rfl fn56 rfl (add_w (limbs ((Int.natAbs (r.num)) / (r.den * 2 ^ (lg (Int.natAbs (r.num)) r.den - p + 1).toNat))) (small_limbs _) (Bn.use (by omega)) (limbs (1)) (small_limbs _) (Bn.use (by omega)) ((Int.natAbs (r.num)) / (r.den * 2 ^ (lg (Int.natAbs (r.num)) r.den - p + 1).toNat)) (val_limbs _) (1) (val_limbs _)))) rfl rfl ?_
              refine Tl_q (JO_q rfl rfl (Jq_assign rfl rfl)) rfl ?_
              refine Tl_end ?_
              refine At_then ?_
              refine Tc_seq ?_
              refine Tc_region ?_
              refine Tl_q (JO_q rfl rfl (Jq_fieldAddr rfl rfl fo65_0 rfl)) rfl ?_
              refine Tl_q (JO_q rfl rfl (Jq_load rfl rfl rfl (by decide) ty4 rfl)) rfl ?_
              refine Tl_q (JO_q rfl rfl (Jq_move rfl rfl)) rfl ?_
              refine Tl_q (JO_q rfl rfl (Jq_move rfl rfl)) rfl ?_
              refine Tl_e (JO_e rfl rfl (Je_call rfl fn57 rfl (dnormal (decide (r.num < 0)) (limbs (((Int.natAbs (r.num)) / (r.den * 2 ^ (lg (Int.natAbs (r.num)) r.den - p + 1).toNat)) + (1))) (lg (Int.natAbs (r.num)) r.den - p + 1) (small_limbs _) (Bn.use (by omega)) (by omega) (by omega) (((Int.natAbs (r.num)) / (r.den * 2 ^ (lg (Int.natAbs (r.num)) r.den - p + 1).toNat)) + (1)) (val_limbs _)))) rfl rfl ?_
              refine Tl_q (JO_q rfl rfl (Jq_move rfl rfl)) rfl ?_
              refine Tl_q (JO_q rfl rfl (Jq_extract rfl rfl rfl)) rfl ?_
              refine Tl_q (JO_q rfl rfl (Jq_extract rfl rfl rfl)) rfl ?_
              refine Tl_e (JO_e rfl rfl (Je_alloc (n := 3) rfl tz42 rfl)) rfl rfl ?_
              refine Tl_e (JO_e rfl rfl (Je_store rfl rfl rfl rfl ty42 rfl (by decide) (Nat.le_of_ble_eq_true rfl) rfl)) rfl rfl ?_
              refine Tl_q (JO_q rfl rfl (Jq_assign rfl rfl)) rfl ?_
              refine Tl_end ?_
              refine At_then ?_
              refine Tc_seq ?_
              refine Tc_region ?_
              refine Tl_q (JO_q rfl rfl (Jq_load_agg rfl rfl rfl (by decide) ty42 (by decide) (Nat.le_of_ble_eq_true rfl) rfl)) rfl ?_
              refine Tl_e (JO_e rfl rfl (Je_store rfl rfl rfl rfl ty42 rfl (by decide) (Nat.le_of_ble_eq_true rfl) rfl)) rfl rfl ?_
              refine Tl_q (JO_q rfl rfl (Jq_assign rfl rfl)) rfl ?_
              refine Tl_end ?_
              refine At_then ?_
              exact Tc_ret2 (fun _ _ h => h) rfl (⟨_, _, rfl, rfl, .inl ⟨ty42, Nat.le_of_ble_eq_true rfl, rfl⟩⟩) rfl (by subst hup; rw [rndD_of h1 h2 h3, rndE_of h1 h2]; unfold rnd; rw [rndQ_up (by rw [scN_pos hE, scD_pos hE]; exact hr0), scN_pos hE, scD_pos hE] <;> rfl)
            · skip
              refine Tl_q (JO_qg rfl rfl rfl rfl (Jq_gtr rfl rfl rfl (b := false) (dF (by rw [Classical.not_not.1 hr0, limbs_zero]; decide)))) rfl ?_
              refine Tl_q (JO_q rfl rfl (Jq_pick_t rfl rfl rfl)) rfl ?_
              refine Tl_end ?_
              refine At_then ?_
              refine Tc_f rfl ?_
              refine Tc_skipA ?_
              refine At_then ?_
              refine Tc_seq ?_
              refine Tc_region ?_
              refine Tl_q (JO_q rfl rfl (Jq_fieldAddr rfl rfl fo65_0 rfl)) rfl ?_
              refine Tl_q (JO_q rfl rfl (Jq_load rfl rfl rfl (by decide) ty4 rfl)) rfl ?_
              refine Tl_q (JO_q rfl rfl (Jq_move rfl rfl)) rfl ?_
              refine Tl_q (JO_q rfl rfl (Jq_move rfl rfl)) rfl ?_
              refine Tl_e (JO_e rfl rfl (Je_call rfl fn57 rfl (dnormal (decide (r.num < 0)) (limbs ((Int.natAbs (r.num)) / (r.den * 2 ^ (lg (Int.natAbs (r.num)) r.den - p + 1).toNat))) (lg (Int.natAbs (r.num)) r.den - p + 1) (small_limbs _) (Bn.use (by omega)) (by omega) (by omega) ((Int.natAbs (r.num)) / (r.den * 2 ^ (lg (Int.natAbs (r.num)) r.den - p + 1).toNat)) (val_limbs _)))) rfl rfl ?_
              refine Tl_q (JO_q rfl rfl (Jq_move rfl rfl)) rfl ?_
              refine Tl_q (JO_q rfl rfl (Jq_extract rfl rfl rfl)) rfl ?_
              refine Tl_q (JO_q rfl rfl (Jq_extract rfl rfl rfl)) rfl ?_
              refine Tl_e (JO_e rfl rfl (Je_alloc (n := 3) rfl tz42 rfl)) rfl rfl ?_
              refine Tl_e (JO_e rfl rfl (Je_store rfl rfl rfl rfl ty42 rfl (by decide) (Nat.le_of_ble_eq_true rfl) rfl)) rfl rfl ?_
              refine Tl_q (JO_q rfl rfl (Jq_assign rfl rfl)) rfl ?_
              refine Tl_end ?_
              refine At_then ?_
              refine Tc_seq ?_
              refine Tc_region ?_
              refine Tl_q (JO_q rfl rfl (Jq_load_agg rfl rfl rfl (by decide) ty42 (by decide) (Nat.le_of_ble_eq_true rfl) rfl)) rfl ?_
              refine Tl_e (JO_e rfl rfl (Je_store rfl rfl rfl rfl ty42 rfl (by decide) (Nat.le_of_ble_eq_true rfl) rfl)) rfl rfl ?_
              refine Tl_q (JO_q rfl rfl (Jq_assign rfl rfl)) rfl ?_
              refine Tl_end ?_
              refine At_then ?_
              exact Tc_ret2 (fun _ _ h => h) rfl (⟨_, _, rfl, rfl, .inl ⟨ty42, Nat.le_of_ble_eq_true rfl, rfl⟩⟩) rfl (by subst hup; rw [rndD_of h1 h2 h3, rndE_of h1 h2]; unfold rnd; rw [rndQ_ex (by rw [scN_pos hE, scD_pos hE]; exact hr0), scN_pos hE, scD_pos hE] <;> rfl)
        · skip
          refine Tl_q (JO_q rfl rfl (Jq_geq rfl rfl rfl (b := false) (dF (by omega)))) rfl ?_
          refine Tl_end ?_
          refine At_then ?_
          refine Tc_f rfl ?_
          haveI i1 : Bn (Int.natAbs (r.num) * 2 ^ (-(lg (Int.natAbs (r.num)) r.den - p + 1)).toNat) (100 + 5000) := Bn.shift 5000 ina (by omega)
          refine Tc_region ?_
          refine Tl_q (JO_q rfl rfl (Jq_fieldAddr rfl rfl fo65_1 rfl)) rfl ?_
          refine Tl_q (JO_q rfl rfl (Jq_load rfl rfl rfl (by decide) ty23 rfl)) rfl ?_
          refine Tl_q (JO_q rfl rfl (Jq_move rfl rfl)) rfl ?_
          refine Tl_q (JO_q rfl rfl (Jq_neg rfl rfl (r := -(lg (Int.natAbs (r.num)) r.den - p + 1)) (w64 (by omega) (by omega) (by omega)))) rfl ?_
          refine Tl_e (JO_e rfl rfl (Je_call rfl fn37 rfl (dshl_spec (Int.natAbs (r.num)) (-(lg (Int.natAbs (r.num)) r.den - p + 1)) (by omega) (Bn.use (by omega))))) rfl rfl ?_
          refine Tl_q (JO_q rfl rfl (Jq_assign rfl rfl)) rfl ?_
          refine Tl_end ?_
          refine At_then ?_
          refine Tc_seq ?_
          have hd0 : r.den ≠ 0 := by have h := scD_ne r.den_nz (lg (Int.natAbs (r.num)) r.den - p + 1); rwa [scD_neg hE] at h
          refine Tc_region ?_
          refine Tl_q (JO_q rfl rfl (Jq_move rfl rfl)) rfl ?_
          refine Tl_q (JO_q rfl rfl (Jq_move rfl rfl)) rfl ?_
          refine Tl_e (JO_e rfl rfl (Je_call rfl fn55 rfl (divmod_w (limbs (Int.natAbs (r.num) * 2 ^ (-(lg (Int.natAbs (r.num)) r.den - p + 1)).toNat)) (limbs (r.den)) (small_limbs _) (small_limbs _) (Bn.use (by omega)) (Bn.use (by omega)) (Int.natAbs (r.num) * 2 ^ (-(lg (Int.natAbs (r.num)) r.den - p + 1)).toNat) (r.den) (val_limbs _) (val_limbs _) hd0))) rfl rfl ?_
          refine Tl_q (JO_q rfl rfl (Jq_move rfl rfl)) rfl ?_
          refine Tl_q (JO_q rfl rfl (Jq_extract rfl rfl rfl)) rfl ?_
          refine Tl_q (JO_q rfl rfl (Jq_extract rfl rfl rfl)) rfl ?_
          refine Tl_q (JO_q rfl rfl (Jq_extract rfl rfl rfl)) rfl ?_
          refine Tl_q (JO_q rfl rfl (Jq_assign rfl rfl)) rfl ?_
          refine Tl_q (JO_q rfl rfl (Jq_assign rfl rfl)) rfl ?_
          refine Tl_q (JO_q rfl rfl (Jq_assign rfl rfl)) rfl ?_
          refine Tl_end ?_
          refine At_then ?_
          refine Tc_seq ?_
          refine Tc_seq ?_
          refine Tc_region ?_
          refine Tl_q (JO_q rfl rfl (Jq_move rfl rfl)) rfl ?_
          refine Tl_q (JO_q rfl rfl (Jq_move rfl rfl)) rfl ?_
          refine Tl_two (fun hup => ?_) (fun hup => ?_)
          · skip
            refine Tl_q (JO_skip rfl rfl rfl) rfl ?_
            refine Tl_q (JO_skip rfl rfl rfl) rfl ?_
            refine Tl_q (JO_skip rfl rfl rfl) rfl ?_
            refine Tl_q (JO_q rfl rfl (Jq_pick_f rfl rfl rfl)) rfl ?_
            refine Tl_end ?_
            refine At_then ?_
            refine Tc_f rfl ?_
            refine Tc_skipA ?_
            refine At_then ?_
            refine Tc_seq ?_
            refine Tc_region ?_
            refine Tl_q (JO_q rfl rfl (Jq_fieldAddr rfl rfl fo65_0 rfl)) rfl ?_
            refine Tl_q (JO_q rfl rfl (Jq_load rfl rfl rfl (by decide) ty4 rfl)) rfl ?_
            refine Tl_q (JO_q rfl rfl (Jq_move rfl rfl)) rfl ?_
            refine Tl_q (JO_q rfl rfl (Jq_move rfl rfl)) rfl ?_
            refine Tl_e (JO_e rfl rfl (Je_call rfl fn57 rfl (dnormal (decide (r.num < 0)) (limbs ((Int.natAbs (r.num) * 2 ^ (-(lg (Int.natAbs (r.num)) r.den - p + 1)).toNat) / r.den)) (lg (Int.natAbs (r.num)) r.den - p + 1) (small_limbs _) (Bn.use (by omega)) (by omega) (by omega) ((Int.natAbs (r.num) * 2 ^ (-(lg (Int.natAbs (r.num)) r.den - p + 1)).toNat) / r.den) (val_limbs _)))) rfl rfl ?_
            refine Tl_q (JO_q rfl rfl (Jq_move rfl rfl)) rfl ?_
            refine Tl_q (JO_q rfl rfl (Jq_extract rfl rfl rfl)) rfl ?_
            refine Tl_q (JO_q rfl rfl (Jq_extract rfl rfl rfl)) rfl ?_
            refine Tl_e (JO_e rfl rfl (Je_alloc (n := 3) rfl tz42 rfl)) rfl rfl ?_
            refine Tl_e (JO_e rfl rfl (Je_store rfl rfl rfl rfl ty42 rfl (by decide) (Nat.le_of_ble_eq_true rfl) rfl)) rfl rfl ?_
            refine Tl_q (JO_q rfl rfl (Jq_assign rfl rfl)) rfl ?_
            refine Tl_end ?_
            refine At_then ?_
            refine Tc_seq ?_
            refine Tc_region ?_
            refine Tl_q (JO_q rfl rfl (Jq_load_agg rfl rfl rfl (by decide) ty42 (by decide) (Nat.le_of_ble_eq_true rfl) rfl)) rfl ?_
            refine Tl_e (JO_e rfl rfl (Je_store rfl rfl rfl rfl ty42 rfl (by decide) (Nat.le_of_ble_eq_true rfl) rfl)) rfl rfl ?_
            refine Tl_q (JO_q rfl rfl (Jq_assign rfl rfl)) rfl ?_
            refine Tl_end ?_
            refine At_then ?_
            exact Tc_ret2 (fun _ _ h => h) rfl (⟨_, _, rfl, rfl, .inl ⟨ty42, Nat.le_of_ble_eq_true rfl, rfl⟩⟩) rfl (by subst hup; rw [rndD_of h1 h2 h3, rndE_of h1 h2]; unfold rnd; rw [rndQ_no, scN_neg hE, scD_neg hE] <;> rfl)
          · skip
            refine Tl_q (JO_qg rfl rfl rfl rfl (Jq_move rfl rfl)) rfl ?_
            refine Tl_q (JO_qg rfl rfl rfl rfl (Jq_len rfl rfl un23)) rfl ?_
            by_cases hr0 : (Int.natAbs (r.num) * 2 ^ (-(lg (Int.natAbs (r.num)) r.den - p + 1)).toNat) % r.den ≠ 0
            · skip
              refine Tl_q (JO_qg rfl rfl rfl rfl (Jq_gtr rfl rfl rfl (b := true) (dT (by have := limbs_len_pos.2 hr0; omega)))) rfl ?_
              refine Tl_q (JO_q rfl rfl (Jq_pick_t rfl rfl rfl)) rfl ?_
              refine Tl_end ?_
              refine At_then ?_
              refine Tc_t rfl ?_
              refine Tc_region ?_
              refine Tl_q (JO_q rfl rfl (Jq_move rfl rfl)) rfl ?_
              refine Tl_e (JO_e rfl rfl (Je_call rfl fn38 rfl (of_spec 1 (by decide)))) rfl rfl ?_
              refine Tl_e (JO_e rfl rfl (Je_call rfl fn56 rfl (add_w (limbs ((Int.natAbs (r.num) * 2 ^ (-(lg (Int.natAbs (r.num)) r.den - p + 1)).toNat) / r.den)) (small_limbs _) (Bn.use (by omega)) (limbs (1)) (small_limbs _) (Bn.use (by omega)) ((Int.natAbs (r.num) * 2 ^ (-(lg (Int.natAbs (r.num)) r.den - p + 1)).toNat) / r.den) (val_limbs _) (1) (val_limbs _)))) rfl rfl ?_
              refine Tl_q (JO_q rfl rfl (Jq_assign rfl rfl)) rfl ?_
              refine Tl_end ?_
              refine At_then ?_
              refine Tc_seq ?_
              refine Tc_region ?_
              refine Tl_q (JO_q rfl rfl (Jq_fieldAddr rfl rfl fo65_0 rfl)) rfl ?_
              refine Tl_q (JO_q rfl rfl (Jq_load rfl rfl rfl (by decide) ty4 rfl)) rfl ?_
              refine Tl_q (JO_q rfl rfl (Jq_move rfl rfl)) rfl ?_
              refine Tl_q (JO_q rfl rfl (Jq_move rfl rfl)) rfl ?_
              refine Tl_e (JO_e rfl rfl (Je_call rfl fn57 rfl (dnormal (decide (r.num < 0)) (limbs (((Int.natAbs (r.num) * 2 ^ (-(lg (Int.natAbs (r.num)) r.den - p + 1)).toNat) / r.den) + (1))) (lg (Int.natAbs (r.num)) r.den - p + 1) (small_limbs _) (Bn.use (by omega)) (by omega) (by omega) (((Int.natAbs (r.num) * 2 ^ (-(lg (Int.natAbs (r.num)) r.den - p + 1)).toNat) / r.den) + (1)) (val_limbs _)))) rfl rfl ?_
              refine Tl_q (JO_q rfl rfl (Jq_move rfl rfl)) rfl ?_
              refine Tl_q (JO_q rfl rfl (Jq_extract rfl rfl rfl)) rfl ?_
              refine Tl_q (JO_q rfl rfl (Jq_extract rfl rfl rfl)) rfl ?_
              refine Tl_e (JO_e rfl rfl (Je_alloc (n := 3) rfl tz42 rfl)) rfl rfl ?_
              refine Tl_e (JO_e rfl rfl (Je_store rfl rfl rfl rfl ty42 rfl (by decide) (Nat.le_of_ble_eq_true rfl) rfl)) rfl rfl ?_
              refine Tl_q (JO_q rfl rfl (Jq_assign rfl rfl)) rfl ?_
              refine Tl_end ?_
              refine At_then ?_
              refine Tc_seq ?_
              refine Tc_region ?_
              refine Tl_q (JO_q rfl rfl (Jq_load_agg rfl rfl rfl (by decide) ty42 (by decide) (Nat.le_of_ble_eq_true rfl) rfl)) rfl ?_
              refine Tl_e (JO_e rfl rfl (Je_store rfl rfl rfl rfl ty42 rfl (by decide) (Nat.le_of_ble_eq_true rfl) rfl)) rfl rfl ?_
              refine Tl_q (JO_q rfl rfl (Jq_assign rfl rfl)) rfl ?_
              refine Tl_end ?_
              refine At_then ?_
              exact Tc_ret2 (fun _ _ h => h) rfl (⟨_, _, rfl, rfl, .inl ⟨ty42, Nat.le_of_ble_eq_true rfl, rfl⟩⟩) rfl (by subst hup; rw [rndD_of h1 h2 h3, rndE_of h1 h2]; unfold rnd; rw [rndQ_up (by rw [scN_neg hE, scD_neg hE]; exact hr0), scN_neg hE, scD_neg hE] <;> rfl)
            · skip
              refine Tl_q (JO_qg rfl rfl rfl rfl (Jq_gtr rfl rfl rfl (b := false) (dF (by rw [Classical.not_not.1 hr0, limbs_zero]; decide)))) rfl ?_
              refine Tl_q (JO_q rfl rfl (Jq_pick_t rfl rfl rfl)) rfl ?_
              refine Tl_end ?_
              refine At_then ?_
              refine Tc_f rfl ?_
              refine Tc_skipA ?_
              refine At_then ?_
              refine Tc_seq ?_
              refine Tc_region ?_
              refine Tl_q (JO_q rfl rfl (Jq_fieldAddr rfl rfl fo65_0 rfl)) rfl ?_
              refine Tl_q (JO_q rfl rfl (Jq_load rfl rfl rfl (by decide) ty4 rfl)) rfl ?_
              refine Tl_q (JO_q rfl rfl (Jq_move rfl rfl)) rfl ?_
              refine Tl_q (JO_q rfl rfl (Jq_move rfl rfl)) rfl ?_
              refine Tl_e (JO_e rfl rfl (Je_call rfl fn57 rfl (dnormal (decide (r.num < 0)) (limbs ((Int.natAbs (r.num) * 2 ^ (-(lg (Int.natAbs (r.num)) r.den - p + 1)).toNat) / r.den)) (lg (Int.natAbs (r.num)) r.den - p + 1) (small_limbs _) (Bn.use (by omega)) (by omega) (by omega) ((Int.natAbs (r.num) * 2 ^ (-(lg (Int.natAbs (r.num)) r.den - p + 1)).toNat) / r.den) (val_limbs _)))) rfl rfl ?_
              refine Tl_q (JO_q rfl rfl (Jq_move rfl rfl)) rfl ?_
              refine Tl_q (JO_q rfl rfl (Jq_extract rfl rfl rfl)) rfl ?_
              refine Tl_q (JO_q rfl rfl (Jq_extract rfl rfl rfl)) rfl ?_
              refine Tl_e (JO_e rfl rfl (Je_alloc (n := 3) rfl tz42 rfl)) rfl rfl ?_
              refine Tl_e (JO_e rfl rfl (Je_store rfl rfl rfl rfl ty42 rfl (by decide) (Nat.le_of_ble_eq_true rfl) rfl)) rfl rfl ?_
              refine Tl_q (JO_q rfl rfl (Jq_assign rfl rfl)) rfl ?_
              refine Tl_end ?_
              refine At_then ?_
              refine Tc_seq ?_
              refine Tc_region ?_
              refine Tl_q (JO_q rfl rfl (Jq_load_agg rfl rfl rfl (by decide) ty42 (by decide) (Nat.le_of_ble_eq_true rfl) rfl)) rfl ?_
              refine Tl_e (JO_e rfl rfl (Je_store rfl rfl rfl rfl ty42 rfl (by decide) (Nat.le_of_ble_eq_true rfl) rfl)) rfl rfl ?_
              refine Tl_q (JO_q rfl rfl (Jq_assign rfl rfl)) rfl ?_
              refine Tl_end ?_
              refine At_then ?_
              exact Tc_ret2 (fun _ _ h => h) rfl (⟨_, _, rfl, rfl, .inl ⟨ty42, Nat.le_of_ble_eq_true rfl, rfl⟩⟩) rfl (by subst hup; rw [rndD_of h1 h2 h3, rndE_of h1 h2]; unfold rnd; rw [rndQ_ex (by rw [scN_neg hE, scD_neg hE]; exact hr0), scN_neg hE, scD_neg hE] <;> rfl)

set_option maxRecDepth 10000 in
theorem ddown (x : Qr) (r : Rat) (hr : x.q = r) (hfx : Fit 100 x) (p : Int) : Ctr Tryz.prog 17 [qV x, V.one (Leaf.val (.int .i64 p))] (R.tup [dV (rndD r p (decide (sg r < 0))), V.one (Leaf.val (.int .i64 (rndE p)))]) := by
  refine Ctr.of_body Tryz.func17 rfl Tryz.ntmps17 (Nat.le_of_ble_eq_true rfl) (fun w0 A0 => ?_)
  haveI ir : Br r 100 := Br.fitq hr hfx
  refine Tc_seq ?_
  refine Tc_region ?_
  refine Tl_e (JO_e rfl rfl (Je_box (n := 0) rfl rfl rfl)) rfl rfl ?_
  refine Tl_e (JO_e rfl rfl (Je_alloc (n := 1) rfl tz42 rfl)) rfl rfl ?_
  refine Tl_q (JO_q rfl rfl (Jq_assign rfl rfl)) rfl ?_
  refine Tl_end ?_
  refine At_then ?_
  refine Tc_seq ?_
  refine Tc_drawK 0 [none, none, none, none, none, none, none, none, some 1, none] [1] follows (by kernel_rfl) ?_
  refine DK_q (JO_q rfl rfl (Jq_load_agg rfl rfl rfl (by decide) ty25 (by decide) (Nat.le_of_ble_eq_true rfl) rfl)) ?_
  refine DK_q (JO_q rfl rfl (Jq_move rfl rfl)) ?_
  refine DK_q (JO_q rfl rfl (Jq_load_agg rfl rfl rfl (by decide) ty25 (by decide) (Nat.le_of_ble_eq_true rfl) rfl)) ?_
  refine DK_c rfl rfl (Jd_call rfl fn35 rfl (qsign x (r) hr (hfx.mono (by omega)))) ?_
  refine DK_q (JO_q rfl rfl (Jq_lss rfl rfl rfl (b := _) (rfl))) ?_
  refine DK_c rfl rfl (Jd_call rfl fn34 rfl (dround x (r) hr (hfx.mono (by omega)) p (decide ((sg (r)) < 0)))) ?_
  refine DK_q (JO_q rfl rfl (Jq_extract rfl rfl rfl)) ?_
  refine DK_q (JO_q rfl rfl (Jq_extract rfl rfl rfl)) ?_
  refine DK_s 1 rfl rfl rfl (Jd_store rfl rfl rfl rfl ty42 rfl (by decide) (Nat.le_of_ble_eq_true rfl) rfl) ?_
  refine DK_q (JO_q rfl rfl (Jq_assign rfl rfl)) ?_
  refine DK_nil ?_
  refine At_then ?_
  exact Tc_ret2 (fun _ _ h => h) rfl (⟨_, _, rfl, rfl, .inl ⟨ty42, Nat.le_of_ble_eq_true rfl, rfl⟩⟩) rfl rfl

set_option maxRecDepth 10000 in
theorem dup (x : Qr) (r : Rat) (hr : x.q = r) (hfx : Fit 100 x) (p : Int) : Ctr Tryz.prog 18 [qV x, V.one (Leaf.val (.int .i64 p))] (R.tup [dV (rndD r p (decide (0 < sg r))), V.one (Leaf.val (.int .i64 (rndE p)))]) := by
  refine Ctr.of_body Tryz.func18 rfl Tryz.ntmps18 (Nat.le_of_ble_eq_true rfl) (fun w0 A0 => ?_)
  haveI ir : Br r 100 := Br.fitq hr hfx
  refine Tc_seq ?_
  refine Tc_region ?_
  refine Tl_e (JO_e rfl rfl (Je_box (n := 0) rfl rfl rfl)) rfl rfl ?_
  refine Tl_e (JO_e rfl rfl (Je_alloc (n := 1) rfl tz42 rfl)) rfl rfl ?_
  refine Tl_q (JO_q rfl rfl (Jq_assign rfl rfl)) rfl ?_
  refine Tl_end ?_
  refine At_then ?_
  refine Tc_seq ?_
  refine Tc_drawK 0 [none, none, none, none, none, none, none, none, some 1, none] [1] follows (by kernel_rfl) ?_
  refine DK_q (JO_q rfl rfl (Jq_load_agg rfl rfl rfl (by decide) ty25 (by decide) (Nat.le_of_ble_eq_true rfl) rfl)) ?_
  refine DK_q (JO_q rfl rfl (Jq_move rfl rfl)) ?_
  refine DK_q (JO_q rfl rfl (Jq_load_agg rfl rfl rfl (by decide) ty25 (by decide) (Nat.le_of_ble_eq_true rfl) rfl)) ?_
  refine DK_c rfl rfl (Jd_call rfl fn35 rfl (qsign x (r) hr (hfx.mono (by omega)))) ?_
  refine DK_q (JO_q rfl rfl (Jq_gtr rfl rfl rfl (b := _) (rfl))) ?_
  refine DK_c rfl rfl (Jd_call rfl fn34 rfl (dround x (r) hr (hfx.mono (by omega)) p (decide (0 < (sg (r)))))) ?_
  refine DK_q (JO_q rfl rfl (Jq_extract rfl rfl rfl)) ?_
  refine DK_q (JO_q rfl rfl (Jq_extract rfl rfl rfl)) ?_
  refine DK_s 1 rfl rfl rfl (Jd_store rfl rfl rfl rfl ty42 rfl (by decide) (Nat.le_of_ble_eq_true rfl) rfl) ?_
  refine DK_q (JO_q rfl rfl (Jq_assign rfl rfl)) ?_
  refine DK_nil ?_
  refine At_then ?_
  exact Tc_ret2 (fun _ _ h => h) rfl (⟨_, _, rfl, rfl, .inl ⟨ty42, Nat.le_of_ble_eq_true rfl, rfl⟩⟩) rfl rfl

theorem big_lim : ∃ L K : Nat, (limbs L).length ≤ 32770 ∧ 6400 ≤ K ∧ 2 ^ K ≤ L ∧ Ctr Tryz.prog 40 [V.one (natL [1]), V.one (Leaf.val (.int .i64 1000000))] (R.tup [V.one (natL (limbs L)), V.one (Leaf.val (.int .i64 0))]) := by
  have key : ∀ k : Nat, 6400 ≤ k → k ≤ 1048576 → ∃ L K : Nat, (limbs L).length ≤ 32770 ∧ 6400 ≤ K ∧ 2 ^ K ≤ L ∧ Ctr Tryz.prog 40 [V.one (natL [1]), V.one (Leaf.val (.int .i64 ((k : Nat) : Int)))] (R.tup [V.one (natL (limbs L)), V.one (Leaf.val (.int .i64 0))]) := fun k h1 h2 =>
    ⟨1 * 2 ^ k, k, (Bn.shift (n := 1) (i := 1) 32769 ⟨by rw [limbs_one]; exact Nat.le_refl _⟩ (by omega)).le, h1, by rw [Nat.one_mul]; exact Nat.le_refl _, rShl_spec [1] k (Small.cons (by decide) Small.nil) h2 (by simp) 1 rfl⟩
  exact key 1000000 (by decide) (by decide)

set_option maxRecDepth 10000 in
theorem rtoward (x : Qr) (r : Rat) (hr : x.q = r) (hfx : Fit 100 x) (p : Int) (up : Bool) : Ctr Tryz.prog 39 [qV x, V.one (Leaf.val (.int .i64 p)), V.one (Leaf.val (.bool up))] (R.tup [dV (rndD r p (up != decide (r.num < 0))), V.one (Leaf.val (.int .i64 (rndE p)))]) := by
  refine Ctr.of_body Tryz.func39 rfl Tryz.ntmps39 (Nat.le_of_ble_eq_true rfl) (fun w0 A0 => ?_)
  haveI ir : Br r 100 := Br.fitq hr hfx
  haveI icn : Bn (cnum r) 100 := ⟨(Br.use (r := r) (Nat.le_refl _)).n⟩
  have hnl := icn.le
  have hdl : (limbs r.den).length ≤ 101 := Bn.use (n := r.den) (Nat.le_refl _)
  have hlg := lg_bound hnl hdl
  refine Tc_seq ?_
  refine Tc_region ?_
  refine Tl_e (JO_e rfl rfl (Je_box (n := 0) rfl rfl rfl)) rfl rfl ?_
  refine Tl_e (JO_e rfl rfl (Je_alloc (n := 1) rfl tz42 rfl)) rfl rfl ?_
  refine Tl_q (JO_q rfl rfl (Jq_assign rfl rfl)) rfl ?_
  refine Tl_end ?_
  refine At_then ?_
  refine Tc_seq ?_
  refine Tc_seq ?_
  refine Tc_region ?_
  refine Tl_q (JO_q rfl rfl (Jq_move rfl rfl)) rfl ?_
  by_cases h1 : p < 1
  · skip
    refine Tl_q (JO_q rfl rfl (Jq_lss rfl rfl rfl (b := true) (dT (by omega)))) rfl ?_
    refine Tl_q (JO_q rfl rfl (Jq_move rfl rfl)) rfl ?_
    refine Tl_q (JO_skip rfl rfl rfl) rfl ?_
    refine Tl_q (JO_skip rfl rfl rfl) rfl ?_
    refine Tl_q (JO_q rfl rfl (Jq_pick_t rfl rfl rfl)) rfl ?_
    refine Tl_end ?_
    refine At_then ?_
    refine Tc_t rfl ?_
    refine Tc_seq ?_
    refine Tc_region ?_
    refine Tl_q (JO_q rfl rfl (Jq_build rfl tz42 rfl pl42 rfl)) rfl ?_
    refine Tl_e (JO_e rfl rfl (Je_store rfl rfl rfl rfl ty42 rfl (by decide) (Nat.le_of_ble_eq_true rfl) rfl)) rfl rfl ?_
    refine Tl_q (JO_q rfl rfl (Jq_assign rfl rfl)) rfl ?_
    refine Tl_end ?_
    refine At_then ?_
    exact Tc_ret2 (fun _ _ h => h) rfl (⟨_, _, rfl, rfl, .inl ⟨ty42, Nat.le_of_ble_eq_true rfl, rfl⟩⟩) rfl (by unfold rndD rndE; rw [if_pos (by omega), if_pos (by omega), dV_zero] <;> rfl)
  · skip
    refine Tl_q (JO_q rfl rfl (Jq_lss rfl rfl rfl (b := false) (dF (by omega)))) rfl ?_
    refine Tl_q (JO_q rfl rfl (Jq_move rfl rfl)) rfl ?_
    refine Tl_q (JO_qg rfl rfl rfl rfl (Jq_move rfl rfl)) rfl ?_
    by_cases h2 : 4096 < p
    · skip
      refine Tl_q (JO_qg rfl rfl rfl rfl (Jq_gtr rfl rfl rfl (b := true) (dT (by omega)))) rfl ?_
      refine Tl_q (JO_q rfl rfl (Jq_pick_f rfl rfl rfl)) rfl ?_
      refine Tl_end ?_
      refine At_then ?_
      refine Tc_t rfl ?_
      refine Tc_seq ?_
      refine Tc_region ?_
      refine Tl_q (JO_q rfl rfl (Jq_build rfl tz42 rfl pl42 rfl)) rfl ?_
      refine Tl_e (JO_e rfl rfl (Je_store rfl rfl rfl rfl ty42 rfl (by decide) (Nat.le_of_ble_eq_true rfl) rfl)) rfl rfl ?_
      refine Tl_q (JO_q rfl rfl (Jq_assign rfl rfl)) rfl ?_
      refine Tl_end ?_
      refine At_then ?_
      exact Tc_ret2 (fun _ _ h => h) rfl (⟨_, _, rfl, rfl, .inl ⟨ty42, Nat.le_of_ble_eq_true rfl, rfl⟩⟩) rfl (by unfold rndD rndE; rw [if_pos (by omega), if_pos (by omega), dV_zero] <;> rfl)
    · skip
      refine Tl_q (JO_qg rfl rfl rfl rfl (Jq_gtr rfl rfl rfl (b := false) (dF (by omega)))) rfl ?_
      refine Tl_q (JO_q rfl rfl (Jq_pick_f rfl rfl rfl)) rfl ?_
      refine Tl_end ?_
      refine At_then ?_
      refine Tc_f rfl ?_
      refine Tc_skipA ?_
      refine At_then ?_
      refine Tc_seq ?_
      refine Tc_region ?_
      refine Tl_q (JO_q rfl rfl (Jq_load_agg rfl rfl rfl (by decide) ty25 (by decide) (Nat.le_of_ble_eq_true rfl) rfl)) rfl ?_
      refine Tl_e (JO_e rfl rfl (Je_call rfl fn41 rfl (rqcanon x (r) hr (hfx.mono (by omega))))) rfl rfl ?_
      refine Tl_e (JO_e rfl rfl (Je_store rfl rfl rfl rfl ty25 rfl (by decide) (Nat.le_of_ble_eq_true rfl) rfl)) rfl rfl ?_
      refine Tl_end ?_
      refine At_then ?_
      refine Tc_seq ?_
      refine Tc_seq ?_
      refine Tc_region ?_
      refine Tl_q (JO_q rfl rfl (Jq_fieldAddr rfl rfl fo25_1 rfl)) rfl ?_
      refine Tl_q (JO_q rfl rfl (Jq_load rfl rfl rfl (by decide) ty23 rfl)) rfl ?_
      refine Tl_q (JO_q rfl rfl (Jq_len rfl rfl un23)) rfl ?_
      by_cases h3 : cnum r = 0
      · skip
        refine Tl_q (JO_q rfl rfl (Jq_eql rfl rfl rfl (b := true) (eT (by show ((limbs (cnum r)).length : Int) = 0; rw [h3, limbs_zero]; rfl)))) rfl ?_
        refine Tl_end ?_
        refine At_then ?_
        refine Tc_t rfl ?_
        refine Tc_seq ?_
        refine Tc_region ?_
        refine Tl_q (JO_q rfl rfl (Jq_build rfl tz42 rfl pl42 rfl)) rfl ?_
        refine Tl_e (JO_e rfl rfl (Je_store rfl rfl rfl rfl ty42 rfl (by decide) (Nat.le_of_ble_eq_true rfl) rfl)) rfl rfl ?_
        refine Tl_q (JO_q rfl rfl (Jq_assign rfl rfl)) rfl ?_
        refine Tl_end ?_
        refine At_then ?_
        exact Tc_ret2 (fun _ _ h => h) rfl (⟨_, _, rfl, rfl, .inl ⟨ty42, Nat.le_of_ble_eq_true rfl, rfl⟩⟩) rfl (by have h4 : r.num = 0 := Int.natAbs_eq_zero.1 h3; unfold rndD; rw [if_pos (by omega), rndE_of h1 h2, dV_zero] <;> rfl)
      · skip
        refine Tl_q (JO_q rfl rfl (Jq_eql rfl rfl rfl (b := false) (eF (by show ((limbs (cnum r)).length : Int) ≠ 0; have := limbs_len_pos.2 h3; omega)))) rfl ?_
        refine Tl_end ?_
        refine At_then ?_
        refine Tc_f rfl ?_
        refine Tc_skipA ?_
        refine At_then ?_
        refine Tc_seq ?_
        refine Tc_region ?_
        refine Tl_q (JO_q rfl rfl (Jq_load_agg rfl rfl rfl (by decide) ty25 (by decide) (Nat.le_of_ble_eq_true rfl) rfl)) rfl ?_
        refine Tl_e (JO_e rfl rfl (Je_call rfl fn61 rfl (rqden (qOf (r)) (r) (qOf_q _) (Br.use (by omega))))) rfl rfl ?_
        refine Tl_q (JO_q rfl rfl (Jq_assign rfl rfl)) rfl ?_
        refine Tl_end ?_
        refine At_then ?_
        refine Tc_seq ?_
        obtain ⟨L, K, hL1, hK, hL2, hc⟩ := big_lim
        haveI iL : Bn L 32770 := ⟨hL1⟩
        have hn1 := big_lt (k := K) icn (by omega)
        have hd1 := big_lt (k := K) (Bn.den (r := r)) (by omega)
        have hlt1 : cnum r < r.den * L := Nat.lt_of_lt_of_le (Nat.lt_of_lt_of_le hn1 hL2) (Nat.le_mul_of_pos_left L r.den_pos)
        have hlt2 : r.den < cnum r * L := Nat.lt_of_lt_of_le (Nat.lt_of_lt_of_le hd1 hL2) (Nat.le_mul_of_pos_left L (Nat.pos_of_ne_zero h3))
        clear hL2 hn1 hd1
        refine Tc_region ?_
        refine Tl_e (JO_e rfl rfl (Je_buildSlice rfl un23 ty62 tz62 rfl (by decide) (by decide) rfl (by decide) rfl)) rfl rfl ?_
        refine Tl_e (JO_e rfl rfl (Je_call rfl fn40 rfl (hc))) rfl rfl ?_
        refine Tl_q (JO_q rfl rfl (Jq_move rfl rfl)) rfl ?_
        refine Tl_q (JO_q rfl rfl (Jq_extract rfl rfl rfl)) rfl ?_
        refine Tl_q (JO_q rfl rfl (Jq_extract rfl rfl rfl)) rfl ?_
        refine Tl_q (JO_q rfl rfl (Jq_assign rfl rfl)) rfl ?_
        refine Tl_q (JO_q rfl rfl (Jq_assign rfl rfl)) rfl ?_
        refine Tl_end ?_
        refine At_then ?_
        refine Tc_seq ?_
        refine Tc_seq ?_
        refine Tc_drawK 0 [none, none, none, none, none, none, none, none, none, none, none, none, none, none, none, none] [] follows (by kernel_rfl) ?_
        refine DK_q (JO_q rfl rfl (Jq_fieldAddr rfl rfl fo25_1 rfl)) ?_
        refine DK_q (JO_q rfl rfl (Jq_load rfl rfl rfl (by decide) ty23 rfl)) ?_
        refine DK_q (JO_q rfl rfl (Jq_move rfl rfl)) ?_
        refine DK_q (JO_q rfl rfl (Jq_move rfl rfl)) ?_
        refine DK_c rfl rfl (Jd_call rfl fn63 rfl (rmul_w (limbs (r.den)) (limbs (L)) (small_limbs _) (small_limbs _) (Bn.use (by omega)) (Bn.use (by omega)) (r.den) (L) (val_limbs _) (val_limbs _))) ?_
        refine DK_c rfl rfl (Jd_call rfl fn62 rfl (rcmp_w (limbs (cnum r)) (limbs (r.den * L)) (small_limbs _) (small_limbs _) (cnum r) (r.den * L) (val_limbs _) (val_limbs _))) ?_
        refine DK_q (JO_q rfl rfl (Jq_geq rfl rfl rfl (b := false) (dF (by rw [cmpN_lt hlt1]; decide)))) ?_
        refine DK_q (JO_q rfl rfl (Jq_move rfl rfl)) ?_
        refine DK_q (JO_qg rfl rfl rfl rfl (Jq_fieldAddr rfl rfl fo25_1 rfl)) ?_
        refine DK_q (JO_qg rfl rfl rfl rfl (Jq_load rfl rfl rfl (by decide) ty23 rfl)) ?_
        refine DK_q (JO_qg rfl rfl rfl rfl (Jq_move rfl rfl)) ?_
        refine DK_cg rfl rfl rfl rfl (Jd_call rfl fn63 rfl (rmul_w (limbs (cnum r)) (limbs (L)) (small_limbs _) (small_limbs _) (Br.use (r := r) (by omega)).n (Bn.use (by omega)) (cnum r) (L) (val_limbs _) (val_limbs _))) ?_
        refine DK_q (JO_qg rfl rfl rfl rfl (Jq_move rfl rfl)) ?_
        refine DK_cg rfl rfl rfl rfl (Jd_call rfl fn62 rfl (rcmp_w (limbs (cnum r * L)) (limbs (r.den)) (small_limbs _) (small_limbs _) (cnum r * L) (r.den) (val_limbs _) (val_limbs _))) ?_
        refine DK_q (JO_qg rfl rfl rfl rfl (Jq_lss rfl rfl rfl (b := false) (dF (by rw [cmpN_gt hlt2]; decide)))) ?_
        refine DK_q (JO_q rfl rfl (Jq_pick_f rfl rfl rfl)) ?_
        refine DK_nil ?_
        refine At_then ?_
        refine Tc_f rfl ?_
        refine Tc_skipA ?_
        refine At_then ?_
        refine Tc_seq ?_
        refine Tc_region ?_
        refine Tl_q (JO_q rfl rfl (Jq_fieldAddr rfl rfl fo25_1 rfl)) rfl ?_
        refine Tl_q (JO_q rfl rfl (Jq_load rfl rfl rfl (by decide) ty23 rfl)) rfl ?_
        refine Tl_q (JO_q rfl rfl (Jq_move rfl rfl)) rfl ?_
        refine Tl_q (JO_q rfl rfl (Jq_move rfl rfl)) rfl ?_
        refine Tl_q (JO_q rfl rfl (Jq_move rfl rfl)) rfl ?_
        refine Tl_q (JO_q rfl rfl (Jq_fieldAddr rfl rfl fo25_0 rfl)) rfl ?_
        refine Tl_q (JO_q rfl rfl (Jq_load rfl rfl rfl (by decide) ty4 rfl)) rfl ?_
        refine Tl_q (JO_q rfl rfl (Jq_neq_bool rfl rfl rfl un4 (d := _) (rfl))) rfl ?_
        refine Tl_e (JO_e rfl rfl (Je_call rfl fn64 rfl (rround (cnum r) r.den h3 r.den_nz (by omega) (by omega) p (by omega) (by omega) (up != (cneg r))))) rfl rfl ?_
        refine Tl_q (JO_q rfl rfl (Jq_move rfl rfl)) rfl ?_
        refine Tl_q (JO_q rfl rfl (Jq_extract rfl rfl rfl)) rfl ?_
        refine Tl_q (JO_q rfl rfl (Jq_extract rfl rfl rfl)) rfl ?_
        refine Tl_q (JO_q rfl rfl (Jq_assign rfl rfl)) rfl ?_
        refine Tl_q (JO_q rfl rfl (Jq_assign rfl rfl)) rfl ?_
        refine Tl_end ?_
        refine At_then ?_
        refine Tc_seq ?_
        haveI iq : Bn (rndQ (cnum r) r.den (lg (cnum r) r.den - p + 1) (up != (cneg r))) (100 + 5000 + 1) := Bn.rndQ 5000 icn (by omega)
        refine Tc_region ?_
        refine Tl_q (JO_q rfl rfl (Jq_fieldAddr rfl rfl fo25_0 rfl)) rfl ?_
        refine Tl_q (JO_q rfl rfl (Jq_load rfl rfl rfl (by decide) ty4 rfl)) rfl ?_
        refine Tl_q (JO_q rfl rfl (Jq_move rfl rfl)) rfl ?_
        refine Tl_q (JO_q rfl rfl (Jq_move rfl rfl)) rfl ?_
        refine Tl_e (JO_e rfl rfl (Je_call rfl fn65 rfl (dcanon (cneg r) (limbs (rndQ (cnum r) r.den (lg (cnum r) r.den - p + 1) (up != (cneg r)))) (lg (cnum r) r.den - p + 1) (small_limbs _) (Bn.use (by omega)) (by omega) (by omega) (rndQ (cnum r) r.den (lg (cnum r) r.den - p + 1) (up != (cneg r))) (val_limbs _)))) rfl rfl ?_
        refine Tl_q (JO_q rfl rfl (Jq_move rfl rfl)) rfl ?_
        refine Tl_q (JO_q rfl rfl (Jq_extract rfl rfl rfl)) rfl ?_
        refine Tl_q (JO_q rfl rfl (Jq_extract rfl rfl rfl)) rfl ?_
        refine Tl_e (JO_e rfl rfl (Je_alloc (n := 2) rfl tz42 rfl)) rfl rfl ?_
        refine Tl_e (JO_e rfl rfl (Je_store rfl rfl rfl rfl ty42 rfl (by decide) (Nat.le_of_ble_eq_true rfl) rfl)) rfl rfl ?_
        refine Tl_q (JO_q rfl rfl (Jq_assign rfl rfl)) rfl ?_
        refine Tl_end ?_
        refine At_then ?_
        refine Tc_seq ?_
        refine Tc_region ?_
        refine Tl_q (JO_q rfl rfl (Jq_load_agg rfl rfl rfl (by decide) ty42 (by decide) (Nat.le_of_ble_eq_true rfl) rfl)) rfl ?_
        refine Tl_e (JO_e rfl rfl (Je_store rfl rfl rfl rfl ty42 rfl (by decide) (Nat.le_of_ble_eq_true rfl) rfl)) rfl rfl ?_
        refine Tl_q (JO_q rfl rfl (Jq_assign rfl rfl)) rfl ?_
        refine Tl_end ?_
        refine At_then ?_
        exact Tc_ret2 (fun _ _ h => h) rfl (⟨_, _, rfl, rfl, .inl ⟨ty42, Nat.le_of_ble_eq_true rfl, rfl⟩⟩) rfl (by rw [rndD_of h1 h2 (fun e => h3 (by unfold cnum; rw [e]; rfl)), rndE_of h1 h2] <;> rfl)

set_option maxRecDepth 10000 in
theorem rddown (x : Qr) (r : Rat) (hr : x.q = r) (hfx : Fit 100 x) (p : Int) : Ctr Tryz.prog 20 [qV x, V.one (Leaf.val (.int .i64 p))] (R.tup [dV (rndD r p (decide (sg r < 0))), V.one (Leaf.val (.int .i64 (rndE p)))]) := by
  refine Ctr.of_body Tryz.func20 rfl Tryz.ntmps20 (Nat.le_of_ble_eq_true rfl) (fun w0 A0 => ?_)
  haveI ir : Br r 100 := Br.fitq hr hfx
  refine Tc_seq ?_
  refine Tc_region ?_
  refine Tl_e (JO_e rfl rfl (Je_box (n := 0) rfl rfl rfl)) rfl rfl ?_
  refine Tl_e (JO_e rfl rfl (Je_alloc (n := 1) rfl tz42 rfl)) rfl rfl ?_
  refine Tl_q (JO_q rfl rfl (Jq_assign rfl rfl)) rfl ?_
  refine Tl_end ?_
  refine At_then ?_
  refine Tc_seq ?_
  refine Tc_region ?_
  refine Tl_q (JO_q rfl rfl (Jq_load_agg rfl rfl rfl (by decide) ty25 (by decide) (Nat.le_of_ble_eq_true rfl) rfl)) rfl ?_
  refine Tl_q (JO_q rfl rfl (Jq_move rfl rfl)) rfl ?_
  refine Tl_e (JO_e rfl rfl (Je_call rfl fn39 rfl (rtoward x (r) hr (hfx.mono (by omega)) p false))) rfl rfl ?_
  refine Tl_q (JO_q rfl rfl (Jq_extract rfl rfl rfl)) rfl ?_
  refine Tl_q (JO_q rfl rfl (Jq_extract rfl rfl rfl)) rfl ?_
  refine Tl_e (JO_e rfl rfl (Je_store rfl rfl rfl rfl ty42 rfl (by decide) (Nat.le_of_ble_eq_true rfl) rfl)) rfl rfl ?_
  refine Tl_q (JO_q rfl rfl (Jq_assign rfl rfl)) rfl ?_
  refine Tl_end ?_
  refine At_then ?_
  exact Tc_ret2 (fun _ _ h => h) rfl (⟨_, _, rfl, rfl, .inl ⟨ty42, Nat.le_of_ble_eq_true rfl, rfl⟩⟩) rfl (by rw [← rnd_dn] <;> rfl)

set_option maxRecDepth 10000 in
theorem rdup (x : Qr) (r : Rat) (hr : x.q = r) (hfx : Fit 100 x) (p : Int) : Ctr Tryz.prog 21 [qV x, V.one (Leaf.val (.int .i64 p))] (R.tup [dV (rndD r p (decide (0 < sg r))), V.one (Leaf.val (.int .i64 (rndE p)))]) := by
  refine Ctr.of_body Tryz.func21 rfl Tryz.ntmps21 (Nat.le_of_ble_eq_true rfl) (fun w0 A0 => ?_)
  haveI ir : Br r 100 := Br.fitq hr hfx
  refine Tc_seq ?_
  refine Tc_region ?_
  refine Tl_e (JO_e rfl rfl (Je_box (n := 0) rfl rfl rfl)) rfl rfl ?_
  refine Tl_e (JO_e rfl rfl (Je_alloc (n := 1) rfl tz42 rfl)) rfl rfl ?_
  refine Tl_q (JO_q rfl rfl (Jq_assign rfl rfl)) rfl ?_
  refine Tl_end ?_
  refine At_then ?_
  refine Tc_seq ?_
  refine Tc_region ?_
  refine Tl_q (JO_q rfl rfl (Jq_load_agg rfl rfl rfl (by decide) ty25 (by decide) (Nat.le_of_ble_eq_true rfl) rfl)) rfl ?_
  refine Tl_q (JO_q rfl rfl (Jq_move rfl rfl)) rfl ?_
  refine Tl_e (JO_e rfl rfl (Je_call rfl fn39 rfl (rtoward x (r) hr (hfx.mono (by omega)) p true))) rfl rfl ?_
  refine Tl_q (JO_q rfl rfl (Jq_extract rfl rfl rfl)) rfl ?_
  refine Tl_q (JO_q rfl rfl (Jq_extract rfl rfl rfl)) rfl ?_
  refine Tl_e (JO_e rfl rfl (Je_store rfl rfl rfl rfl ty42 rfl (by decide) (Nat.le_of_ble_eq_true rfl) rfl)) rfl rfl ?_
  refine Tl_q (JO_q rfl rfl (Jq_assign rfl rfl)) rfl ?_
  refine Tl_end ?_
  refine At_then ?_
  exact Tc_ret2 (fun _ _ h => h) rfl (⟨_, _, rfl, rfl, .inl ⟨ty42, Nat.le_of_ble_eq_true rfl, rfl⟩⟩) rfl (by rw [← rnd_up] <;> rfl)

end Go.Proofs.YtpabkdpijcbkgaaGreatDoor
