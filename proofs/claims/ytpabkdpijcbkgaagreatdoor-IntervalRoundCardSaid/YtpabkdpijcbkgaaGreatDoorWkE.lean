/- Walks: natural.estimate, reduce. -/
import Derived.Test.YtpabkdpijcbkgaaGreatDoorWkD
set_option linter.unusedSimpArgs false
set_option linter.unusedVariables false
namespace Go.Proofs.YtpabkdpijcbkgaaGreatDoor
open Go Go.RowKit Rc


set_option maxRecDepth 10000 in
theorem estimate_spec (s v : List Nat) (hss : Small s) (hsv : Small v) (hsl : s.length = v.length + 1) (hv2 : 2 ≤ v.length) (hvl : v.length ≤ 20000000000000) (hnz : 0 < v.getD (v.length - 1) 0) : Ctr Tryz.prog 85 [V.one (natL s), V.one (natL v)] (R.one (V.one (Leaf.val (.int .u64 ((est (s.getD v.length 0 * 4294967296 + s.getD (v.length - 1) 0) (s.getD (v.length - 2) 0) (v.getD (v.length - 1) 0) (v.getD (v.length - 2) 0) : Nat) : Int))))) := by
  refine Ctr.of_body Tryz.func85 rfl Tryz.ntmps85 (Nat.le_of_ble_eq_true rfl) (fun w0 A0 => ?_)
  refine Tc_seq ?_
  rw [getD_of (show v.length < s.length by omega), getD_of (show v.length - 1 < s.length by omega), getD_of (show v.length - 2 < s.length by omega), getD_of (show v.length - 1 < v.length by omega), getD_of (show v.length - 2 < v.length by omega)]
  rw [getD_of (show v.length - 1 < v.length by omega)] at hnz
  have a0 := hss.get v.length (by omega); have a1 := hss.get (v.length - 1) (by omega); have a2 := hss.get (v.length - 2) (by omega); have b1 := hsv.get (v.length - 1) (by omega); have b2 := hsv.get (v.length - 2) (by omega)
  obtain ⟨v1, hv1⟩ : ∃ x, x = v[v.length - 1] := ⟨_, rfl⟩
  obtain ⟨v2, hv2e⟩ : ∃ x, x = v[v.length - 2] := ⟨_, rfl⟩
  obtain ⟨s2, hs2⟩ : ∃ x, x = s[v.length - 2] := ⟨_, rfl⟩
  obtain ⟨top, htop⟩ : ∃ x, x = s[v.length] * 4294967296 + s[v.length - 1] := ⟨_, rfl⟩
  rw [← hv1, ← hv2e, ← hs2, ← htop]
  rw [← hv1] at hnz b1; rw [← hv2e] at b2; rw [← hs2] at a2
  have h1 : 0 < v1 := hnz
  obtain ⟨e, he⟩ : ∃ e, est top s2 v1 v2 = e := ⟨_, rfl⟩
  rw [he]
  refine Tc_region ?_
  refine Tl_q (JO_q rfl rfl (Jq_assign rfl rfl)) rfl ?_
  refine Tl_end ?_
  refine At_then ?_
  refine Tc_seq ?_
  refine Tc_region ?_
  refine Tl_q (JO_q rfl rfl (Jq_move rfl rfl)) rfl ?_
  refine Tl_q (JO_q rfl rfl (Jq_len rfl rfl un23)) rfl ?_
  refine Tl_q (JO_q rfl rfl (Jq_assign rfl rfl)) rfl ?_
  refine Tl_end ?_
  refine At_then ?_
  refine Tc_seq ?_
  refine Tc_drawK 0 [none, none, none, none, none, none, none, none, none, none, none, none, none, none] [] follows (by kernel_rfl) ?_
  refine DK_q (JO_q rfl rfl (Jq_move rfl rfl)) ?_
  refine DK_q (JO_q rfl rfl (Jq_move rfl rfl)) ?_
  refine DK_q (JO_q rfl rfl (Jq_index1 rfl rfl rfl un23 ty62 (by omega) (by omega) (get_u32i (v.length) (by omega) (by omega)))) ?_
  refine DK_q (JO_q rfl rfl (Jq_load_ref rfl rfl ty62)) ?_
  refine DK_q (JO_q rfl rfl (Jq_convert rfl rfl un59 us62 (r := ((s[v.length]'(by omega) : Nat) : Int)) (wu64 (by omega)))) ?_
  refine DK_q (JO_q rfl rfl (Jq_shl rfl rfl rfl (by decide) (r := ((s[v.length]'(by omega) * 2 ^ 32 : Nat) : Int)) (shl64 _ 32 rfl (by omega)))) ?_
  refine DK_q (JO_q rfl rfl (Jq_move rfl rfl)) ?_
  refine DK_q (JO_q rfl rfl (Jq_move rfl rfl)) ?_
  refine DK_q (JO_q rfl rfl (Jq_sub rfl rfl rfl (r := ((v.length - 1 : Nat) : Int)) (w64 (by omega) (by omega) (by omega)))) ?_
  refine DK_q (JO_q rfl rfl (Jq_index1 rfl rfl rfl un23 ty62 (by omega) (by omega) (get_u32i (v.length - 1) (by omega) (by omega)))) ?_
  refine DK_q (JO_q rfl rfl (Jq_load_ref rfl rfl ty62)) ?_
  refine DK_q (JO_q rfl rfl (Jq_convert rfl rfl un59 us62 (r := ((s[v.length - 1]'(by omega) : Nat) : Int)) (wu64 (by omega)))) ?_
  refine DK_q (JO_q rfl rfl (Jq_or rfl rfl rfl (r := ((top : Nat) : Int)) (by rw [htop]; exact or64 32 (Nat.mul_mod_left _ _) (by omega) (by omega)))) ?_
  refine DK_q (JO_q rfl rfl (Jq_assign rfl rfl)) ?_
  refine DK_nil ?_
  refine At_then ?_
  refine Tc_seq ?_
  refine Tc_drawK 0 [none, none, none, none, none, none, none, none, none, none, none, none, none, none, none, none, none, none] [] follows (by kernel_rfl) ?_
  refine DK_q (JO_q rfl rfl (Jq_move rfl rfl)) ?_
  refine DK_q (JO_q rfl rfl (Jq_move rfl rfl)) ?_
  refine DK_q (JO_q rfl rfl (Jq_move rfl rfl)) ?_
  refine DK_q (JO_q rfl rfl (Jq_sub rfl rfl rfl (r := ((v.length - 1 : Nat) : Int)) (w64 (by omega) (by omega) (by omega)))) ?_
  refine DK_q (JO_q rfl rfl (Jq_index1 rfl rfl rfl un23 ty62 (by omega) (by omega) (get_u32i (v.length - 1) (by omega) (by omega)))) ?_
  refine DK_q (JO_q rfl rfl (Jq_load_ref rfl rfl ty62)) ?_
  refine DK_q (JO_q rfl rfl (Jq_convert rfl rfl un59 us62 (r := ((v1 : Nat) : Int)) (by rw [hv1]; exact wu64 (by omega)))) ?_
  refine DK_q (JO_q rfl rfl (Jq_quo rfl rfl rfl (by omega) (r := ((top / v1 : Nat) : Int)) ((by rw [tdivN]; exact wrap_nat_u64 (Nat.lt_of_le_of_lt (Nat.div_le_self _ _) (by omega)))))) ?_
  refine DK_q (JO_q rfl rfl (Jq_move rfl rfl)) ?_
  refine DK_q (JO_q rfl rfl (Jq_move rfl rfl)) ?_
  refine DK_q (JO_q rfl rfl (Jq_move rfl rfl)) ?_
  refine DK_q (JO_q rfl rfl (Jq_sub rfl rfl rfl (r := ((v.length - 1 : Nat) : Int)) (w64 (by omega) (by omega) (by omega)))) ?_
  refine DK_q (JO_q rfl rfl (Jq_index1 rfl rfl rfl un23 ty62 (by omega) (by omega) (get_u32i (v.length - 1) (by omega) (by omega)))) ?_
  refine DK_q (JO_q rfl rfl (Jq_load_ref rfl rfl ty62)) ?_
  refine DK_q (JO_q rfl rfl (Jq_convert rfl rfl un59 us62 (r := ((v1 : Nat) : Int)) (by rw [hv1]; exact wu64 (by omega)))) ?_
  refine DK_q (JO_q rfl rfl (Jq_rem rfl rfl rfl (by omega) (r := ((top % v1 : Nat) : Int)) (tmodN _ _))) ?_
  refine DK_q (JO_q rfl rfl (Jq_assign rfl rfl)) ?_
  refine DK_q (JO_q rfl rfl (Jq_assign rfl rfl)) ?_
  refine DK_nil ?_
  refine At_then ?_
  refine Tc_seq ?_
  refine Tc_block ?_
  refine Tc_loopR (fun m Γ H => ∃ (q : Nat) (r : Nat), q = m ∧ Γ = [(0, some (D.v (V.one (natL s)))), (1, some (D.v (V.one (natL v)))), (5, some (D.int ((v.length : Nat) : Int))), (7, some (D.val (.int .u64 ((q : Nat) : Int)))), (8, some (D.val (.int .u64 ((r : Nat) : Int))))] ∧ H = [] ∧ q * v1 + r = top ∧ r < 4294967296 ∧ e ≤ q ∧ q < 18446744073709551616) ⟨top / v1, top % v1, rfl, rfl, rfl, by rw [Nat.mul_comm]; exact Nat.div_add_mod _ _, Nat.lt_trans (Nat.mod_lt _ h1) b1, by rw [← he]; exact est_le h1 a2, Nat.lt_of_le_of_lt (Nat.div_le_self _ _) (by omega)⟩ ⟨rfl, rfl, rfl, rfl, rfl, trivial⟩ ?_
  rintro m Γ H ⟨q, r, rfl, rfl, rfl, hqt, hr, heq, hqb⟩
  refine Tc_seq ?_
  refine Tc_seq ?_
  refine Tc_drawK 0 [none, none, none, none, none, none, none, none, none, none, none, none, none, none, none, none, none, none, none, none, none, none] [] follows (by kernel_rfl) ?_
  refine DK_q (JO_q rfl rfl (Jq_move rfl rfl)) ?_
  by_cases hq : 4294967296 ≤ q
  · skip
    refine DK_q (JO_q rfl rfl (Jq_geq rfl rfl rfl (b := true) (dT (by omega)))) ?_
    refine DK_q (JO_q rfl rfl (Jq_move rfl rfl)) ?_
    refine DK_skip rfl rfl rfl ?_
    refine DK_skip rfl rfl rfl ?_
    refine DK_skip rfl rfl rfl ?_
    refine DK_skip rfl rfl rfl ?_
    refine DK_skip rfl rfl rfl ?_
    refine DK_skip rfl rfl rfl ?_
    refine DK_skip rfl rfl rfl ?_
    refine DK_skip rfl rfl rfl ?_
    refine DK_skip rfl rfl rfl ?_
    refine DK_skip rfl rfl rfl ?_
    refine DK_skip rfl rfl rfl ?_
    refine DK_skip rfl rfl rfl ?_
    refine DK_skip rfl rfl rfl ?_
    refine DK_skip rfl rfl rfl ?_
    refine DK_skip rfl rfl rfl ?_
    refine DK_skip rfl rfl rfl ?_
    refine DK_skip rfl rfl rfl ?_
    refine DK_skip rfl rfl rfl ?_
    refine DK_q (JO_q rfl rfl (Jq_pick_t rfl rfl rfl)) ?_
    refine DK_nil ?_
    refine At_then ?_
    refine Tc_t rfl ?_
    refine Tc_skipA ?_
    refine At_then ?_
    refine Tc_block ?_
    refine Tc_seq ?_
    have hlt : e < q := by rw [← he]; exact est_lt h1 hr hqt (.inl hq)
    have hq0 : 0 < q := by omega
    refine Tc_region ?_
    refine Tl_q (JO_q rfl rfl (Jq_move rfl rfl)) rfl ?_
    refine Tl_q (JO_q rfl rfl (Jq_sub rfl rfl rfl (r := ((q - 1 : Nat) : Int)) (wu64 (by omega)))) rfl ?_
    refine Tl_q (JO_q rfl rfl (Jq_assign rfl rfl)) rfl ?_
    refine Tl_end ?_
    refine At_then ?_
    refine Tc_seq ?_
    refine Tc_region ?_
    refine Tl_q (JO_q rfl rfl (Jq_move rfl rfl)) rfl ?_
    refine Tl_q (JO_q rfl rfl (Jq_move rfl rfl)) rfl ?_
    refine Tl_q (JO_q rfl rfl (Jq_move rfl rfl)) rfl ?_
    refine Tl_q (JO_q rfl rfl (Jq_sub rfl rfl rfl (r := ((v.length - 1 : Nat) : Int)) (w64 (by omega) (by omega) (by omega)))) rfl ?_
    refine Tl_q (JO_q rfl rfl (Jq_index1 rfl rfl rfl un23 ty62 (by omega) (by omega) (get_u32i (v.length - 1) (by omega) (by omega)))) rfl ?_
    refine Tl_q (JO_q rfl rfl (Jq_load_ref rfl rfl ty62)) rfl ?_
    refine Tl_q (JO_q rfl rfl (Jq_convert rfl rfl un59 us62 (r := ((v1 : Nat) : Int)) (by rw [hv1]; exact wu64 (by omega)))) rfl ?_
    refine Tl_q (JO_q rfl rfl (Jq_add rfl rfl rfl (r := ((r + v1 : Nat) : Int)) (wu64 (by omega)))) rfl ?_
    refine Tl_q (JO_q rfl rfl (Jq_assign rfl rfl)) rfl ?_
    refine Tl_end ?_
    refine At_then ?_
    refine Tc_seq ?_
    refine Tc_region ?_
    refine Tl_q (JO_q rfl rfl (Jq_move rfl rfl)) rfl ?_
    by_cases hr2 : 4294967296 ≤ r + v1
    · skip
      refine Tl_q (JO_q rfl rfl (Jq_geq rfl rfl rfl (b := true) (dT (by omega)))) rfl ?_
      refine Tl_end ?_
      refine At_then ?_
      refine Tc_t rfl ?_
      refine Tc_exitA ?_
      refine At_block_other rfl ?_
      refine At_then_exit ?_
      refine At_block_exit ?_
      refine At_then ?_
      refine Tc_seq ?_
      refine Tc_region ?_
      refine Tl_q (JO_q rfl rfl (Jq_move rfl rfl)) rfl ?_
      refine Tl_q (JO_q rfl rfl (Jq_assign rfl rfl)) rfl ?_
      refine Tl_end ?_
      refine At_then ?_
      exact Tc_ret1 (fun _ _ h => h) rfl rfl (by rw [show q - 1 = e from Nat.le_antisymm (by rw [← he]; exact est_stop2 h1 hr2 (by rw [← hqt, Nat.sub_mul, Nat.one_mul]; have := Nat.le_mul_of_pos_left v1 hq0; omega)) (by omega)])
    · skip
      refine Tl_q (JO_q rfl rfl (Jq_geq rfl rfl rfl (b := false) (dF (by omega)))) rfl ?_
      refine Tl_end ?_
      refine At_then ?_
      refine Tc_f rfl ?_
      refine Tc_skipA ?_
      refine At_block ?_
      exact At_next (m' := q - 1) (by omega) ⟨q - 1, r + v1, rfl, rfl, rfl, by rw [← hqt, Nat.sub_mul, Nat.one_mul]; have := Nat.le_mul_of_pos_left v1 hq0; omega, by omega, by omega, by omega⟩ ⟨rfl, rfl, rfl, rfl, rfl, trivial⟩
  · skip
    refine DK_q (JO_q rfl rfl (Jq_geq rfl rfl rfl (b := false) (dF (by omega)))) ?_
    refine DK_q (JO_q rfl rfl (Jq_move rfl rfl)) ?_
    refine DK_q (JO_qg rfl rfl rfl rfl (Jq_move rfl rfl)) ?_
    refine DK_q (JO_qg rfl rfl rfl rfl (Jq_move rfl rfl)) ?_
    refine DK_q (JO_qg rfl rfl rfl rfl (Jq_move rfl rfl)) ?_
    have hm : q * v2 ≤ 4294967295 * 4294967295 := Nat.mul_le_mul (by omega) (by omega)
    refine DK_q (JO_qg rfl rfl rfl rfl (Jq_sub rfl rfl rfl (r := ((v.length - 2 : Nat) : Int)) (w64 (by omega) (by omega) (by omega)))) ?_
    refine DK_q (JO_qg rfl rfl rfl rfl (Jq_index1 rfl rfl rfl un23 ty62 (by omega) (by omega) (get_u32i (v.length - 2) (by omega) (by omega)))) ?_
    refine DK_q (JO_qg rfl rfl rfl rfl (Jq_load_ref rfl rfl ty62)) ?_
    refine DK_q (JO_qg rfl rfl rfl rfl (Jq_convert rfl rfl un59 us62 (r := ((v2 : Nat) : Int)) (by rw [hv2e]; exact wu64 (by omega)))) ?_
    refine DK_q (JO_qg rfl rfl rfl rfl (Jq_mul rfl rfl rfl (r := ((q * v2 : Nat) : Int)) (wu64 (by rw [← Int.natCast_mul]; omega)))) ?_
    refine DK_q (JO_qg rfl rfl rfl rfl (Jq_move rfl rfl)) ?_
    refine DK_q (JO_qg rfl rfl rfl rfl (Jq_shl rfl rfl rfl (by decide) (r := ((r * 2 ^ 32 : Nat) : Int)) (shl64 _ 32 rfl (by omega)))) ?_
    refine DK_q (JO_qg rfl rfl rfl rfl (Jq_move rfl rfl)) ?_
    refine DK_q (JO_qg rfl rfl rfl rfl (Jq_move rfl rfl)) ?_
    refine DK_q (JO_qg rfl rfl rfl rfl (Jq_sub rfl rfl rfl (r := ((v.length - 2 : Nat) : Int)) (w64 (by omega) (by omega) (by omega)))) ?_
    refine DK_q (JO_qg rfl rfl rfl rfl (Jq_index1 rfl rfl rfl un23 ty62 (by omega) (by omega) (get_u32i (v.length - 2) (by omega) (by omega)))) ?_
    refine DK_q (JO_qg rfl rfl rfl rfl (Jq_load_ref rfl rfl ty62)) ?_
    refine DK_q (JO_qg rfl rfl rfl rfl (Jq_convert rfl rfl un59 us62 (r := ((s2 : Nat) : Int)) (by rw [hs2]; exact wu64 (by omega)))) ?_
    refine DK_q (JO_qg rfl rfl rfl rfl (Jq_or rfl rfl rfl (r := ((r * 2 ^ 32 + s2 : Nat) : Int)) (or64 32 (Nat.mul_mod_left _ _) (by omega) (by omega)))) ?_
    by_cases hc : r * 2 ^ 32 + s2 < q * v2
    · skip
      refine DK_q (JO_qg rfl rfl rfl rfl (Jq_gtr rfl rfl rfl (b := true) (dT (by omega)))) ?_
      refine DK_q (JO_q rfl rfl (Jq_pick_f rfl rfl rfl)) ?_
      refine DK_nil ?_
      refine At_then ?_
      refine Tc_t rfl ?_
      refine Tc_skipA ?_
      refine At_then ?_
      refine Tc_block ?_
      refine Tc_seq ?_
      have hlt : e < q := by rw [← he]; exact est_lt h1 hr hqt (.inr hc)
      have hq0 : 0 < q := by omega
      refine Tc_region ?_
      refine Tl_q (JO_q rfl rfl (Jq_move rfl rfl)) rfl ?_
      refine Tl_q (JO_q rfl rfl (Jq_sub rfl rfl rfl (r := ((q - 1 : Nat) : Int)) (wu64 (by omega)))) rfl ?_
      refine Tl_q (JO_q rfl rfl (Jq_assign rfl rfl)) rfl ?_
      refine Tl_end ?_
      refine At_then ?_
      refine Tc_seq ?_
      refine Tc_region ?_
      refine Tl_q (JO_q rfl rfl (Jq_move rfl rfl)) rfl ?_
      refine Tl_q (JO_q rfl rfl (Jq_move rfl rfl)) rfl ?_
      refine Tl_q (JO_q rfl rfl (Jq_move rfl rfl)) rfl ?_
      refine Tl_q (JO_q rfl rfl (Jq_sub rfl rfl rfl (r := ((v.length - 1 : Nat) : Int)) (w64 (by omega) (by omega) (by omega)))) rfl ?_
      refine Tl_q (JO_q rfl rfl (Jq_index1 rfl rfl rfl un23 ty62 (by omega) (by omega) (get_u32i (v.length - 1) (by omega) (by omega)))) rfl ?_
      refine Tl_q (JO_q rfl rfl (Jq_load_ref rfl rfl ty62)) rfl ?_
      refine Tl_q (JO_q rfl rfl (Jq_convert rfl rfl un59 us62 (r := ((v1 : Nat) : Int)) (by rw [hv1]; exact wu64 (by omega)))) rfl ?_
      refine Tl_q (JO_q rfl rfl (Jq_add rfl rfl rfl (r := ((r + v1 : Nat) : Int)) (wu64 (by omega)))) rfl ?_
      refine Tl_q (JO_q rfl rfl (Jq_assign rfl rfl)) rfl ?_
      refine Tl_end ?_
      refine At_then ?_
      refine Tc_seq ?_
      refine Tc_region ?_
      refine Tl_q (JO_q rfl rfl (Jq_move rfl rfl)) rfl ?_
      by_cases hr2 : 4294967296 ≤ r + v1
      · skip
        refine Tl_q (JO_q rfl rfl (Jq_geq rfl rfl rfl (b := true) (dT (by omega)))) rfl ?_
        refine Tl_end ?_
        refine At_then ?_
        refine Tc_t rfl ?_
        refine Tc_exitA ?_
        refine At_block_other rfl ?_
        refine At_then_exit ?_
        refine At_block_exit ?_
        refine At_then ?_
        refine Tc_seq ?_
        refine Tc_region ?_
        refine Tl_q (JO_q rfl rfl (Jq_move rfl rfl)) rfl ?_
        refine Tl_q (JO_q rfl rfl (Jq_assign rfl rfl)) rfl ?_
        refine Tl_end ?_
        refine At_then ?_
        exact Tc_ret1 (fun _ _ h => h) rfl rfl (by rw [show q - 1 = e from Nat.le_antisymm (by rw [← he]; exact est_stop2 h1 hr2 (by rw [← hqt, Nat.sub_mul, Nat.one_mul]; have := Nat.le_mul_of_pos_left v1 hq0; omega)) (by omega)])
      · skip
        refine Tl_q (JO_q rfl rfl (Jq_geq rfl rfl rfl (b := false) (dF (by omega)))) rfl ?_
        refine Tl_end ?_
        refine At_then ?_
        refine Tc_f rfl ?_
        refine Tc_skipA ?_
        refine At_block ?_
        exact At_next (m' := q - 1) (by omega) ⟨q - 1, r + v1, rfl, rfl, rfl, by rw [← hqt, Nat.sub_mul, Nat.one_mul]; have := Nat.le_mul_of_pos_left v1 hq0; omega, by omega, by omega, by omega⟩ ⟨rfl, rfl, rfl, rfl, rfl, trivial⟩
    · skip
      refine DK_q (JO_qg rfl rfl rfl rfl (Jq_gtr rfl rfl rfl (b := false) (dF (by omega)))) ?_
      refine DK_q (JO_q rfl rfl (Jq_pick_f rfl rfl rfl)) ?_
      refine DK_nil ?_
      refine At_then ?_
      refine Tc_f rfl ?_
      refine Tc_exitA ?_
      refine At_then_exit ?_
      refine At_then_exit ?_
      refine At_block_exit ?_
      refine At_then ?_
      refine Tc_seq ?_
      refine Tc_region ?_
      refine Tl_q (JO_q rfl rfl (Jq_move rfl rfl)) rfl ?_
      refine Tl_q (JO_q rfl rfl (Jq_assign rfl rfl)) rfl ?_
      refine Tl_end ?_
      refine At_then ?_
      exact Tc_ret1 (fun _ _ h => h) rfl rfl (by rw [show q = e from Nat.le_antisymm (by rw [← he]; exact est_stop1 h1 (by omega) (Nat.le_of_not_lt hc) hqt) heq])

set_option maxRecDepth 10000 in
theorem reduce_spec (pre s post v : List Nat) (q : Nat) (hs : Small s) (hv : Small v) (hsl : s.length = v.length + 1) (hvl : v.length ≤ 20000000000000) (hV : 0 < val v) (hlt : val s < val v * 4294967296) (hq : q = val s / val v ∨ q = val s / val v + 1) : CtrM Tryz.prog 84 62 pre.length (v.length + 1) ((pre ++ s ++ post).map u32L) ((pre ++ padL (v.length + 1) (val s % val v) ++ post).map u32L) [V.one (natL v), V.one (Leaf.val (.int .u64 ((q : Nat) : Int)))] (R.one (V.one (Leaf.val (.int .u32 ((val s / val v : Nat) : Int))))) := by
  refine CtrM.of_body Tryz.func84 rfl Tryz.ntmps84 (Nat.le_of_ble_eq_true rfl) (fun w0 A0 bk => ?_)
  refine Tc_seq ?_
  have hqt : val s / val v < 4294967296 := by rw [Nat.div_lt_iff_lt_mul hV, Nat.mul_comm]; exact hlt
  have hqB : q ≤ 4294967296 := by omega
  refine Tc_region ?_
  refine Tl_q (JO_q rfl rfl (Jq_assign rfl rfl)) rfl ?_
  refine Tl_end ?_
  refine At_then ?_
  refine Tc_seq ?_
  refine Tc_region ?_
  refine Tl_q (JO_q rfl rfl (Jq_assign rfl rfl)) rfl ?_
  refine Tl_q (JO_q rfl rfl (Jq_assign rfl rfl)) rfl ?_
  refine Tl_end ?_
  refine At_then ?_
  refine Tc_seq ?_
  refine Tc_seq ?_
  refine Tc_region ?_
  refine Tl_q (JO_q rfl rfl (Jq_move rfl rfl)) rfl ?_
  refine Tl_q (JO_q rfl rfl (Jq_len rfl rfl un23)) rfl ?_
  refine Tl_q (JO_q rfl rfl (Jq_move rfl rfl)) rfl ?_
  refine Tl_end ?_
  refine At_then ?_
  refine Tc_block ?_
  refine Tc_loopR (fun m Γ H => ∃ (i : Nat) (s1 : List Nat) (c : Nat) (b : Nat), v.length - i = m ∧ Γ = [(0, some (D.part 0 pre.length (v.length + 1))), (1, some (D.v (V.one (natL v)))), (2, some (D.val (.int .u64 ((q : Nat) : Int)))), (7, some (D.val (.int .u64 ((c : Nat) : Int)))), (8, some (D.val (.int .u64 ((b : Nat) : Int)))), (15, some (D.v (V.one (natL v)))), (16, some (D.int ((v.length : Nat) : Int))), (17, some (D.int ((i : Nat) : Int)))] ∧ H = [some ⟨62, (pre ++ s1 ++ post).map u32L, some 1, some bk⟩] ∧ i ≤ v.length ∧ s1.length = s.length ∧ Small s1 ∧ c < 4294967296 ∧ b ≤ 1 ∧ val (s1.take i) + q * val (v.take i) = val (s.take i) + (c + b) * 4294967296 ^ i ∧ s1.drop i = s.drop i) ⟨0, s, 0, 0, rfl, rfl, rfl, Nat.zero_le _, rfl, hs, by omega, by omega, by simp [val], rfl⟩ ⟨rfl, rfl, rfl, rfl, rfl, rfl, rfl, rfl, trivial⟩ ?_
  rintro m Γ H ⟨i, s1, c, b, rfl, rfl, rfl, hile, hl1, hs1, hc, hb, heq, hdr⟩
  refine Tc_seq ?_
  refine Tc_region ?_
  by_cases hi : i < v.length
  · skip
    refine Tl_q (JO_q rfl rfl (Jq_lss rfl rfl rfl (b := true) (dT (by omega)))) rfl ?_
    refine Tl_end ?_
    refine At_then ?_
    refine Tc_seq ?_
    refine Tc_t rfl ?_
    refine Tc_skipA ?_
    refine At_then ?_
    refine Tc_seq ?_
    refine Tc_block ?_
    refine Tc_seq ?_
    have hvi := hv.get i hi; have hsi := hs1.get i (by omega)
    have hm : q * v[i] ≤ 4294967296 * 4294967295 := Nat.mul_le_mul hqB (by omega)
    obtain ⟨t, ht⟩ : ∃ t, t = c + q * v[i] := ⟨_, rfl⟩
    have htb : t < 18446744073709551616 := by omega
    obtain ⟨x, hx⟩ : ∃ x, x = (s1[i]'(by omega) + (18446744073709551616 - (t % 4294967296 + b))) % 18446744073709551616 := ⟨_, rfl⟩
    have hd := sub_digit (l := t % 4294967296) (b := b) hsi (by omega)
    simp only [← hx] at hd
    refine Tc_region ?_
    refine Tl_q (JO_q rfl rfl (Jq_move rfl rfl)) rfl ?_
    refine Tl_q (JO_q rfl rfl (Jq_index1 rfl rfl rfl un23 ty62 (by omega) (by omega) (get_u32 (by omega)))) rfl ?_
    refine Tl_q (JO_q rfl rfl (Jq_load_ref rfl rfl ty62)) rfl ?_
    refine Tl_q (JO_q rfl rfl (Jq_assign rfl rfl)) rfl ?_
    refine Tl_q (JO_q rfl rfl (Jq_assign rfl rfl)) rfl ?_
    refine Tl_end ?_
    refine At_then ?_
    refine Tc_seq ?_
    refine Tc_region ?_
    refine Tl_q (JO_q rfl rfl (Jq_move rfl rfl)) rfl ?_
    refine Tl_q (JO_q rfl rfl (Jq_move rfl rfl)) rfl ?_
    refine Tl_q (JO_q rfl rfl (Jq_move rfl rfl)) rfl ?_
    refine Tl_q (JO_q rfl rfl (Jq_convert rfl rfl un59 us62 (r := ((v[i]'hi : Nat) : Int)) (wu64 (by omega)))) rfl ?_
    refine Tl_q (JO_q rfl rfl (Jq_mul rfl rfl rfl (r := ((q * v[i]'hi : Nat) : Int)) (wu64 (by rw [← Int.natCast_mul]; omega)))) rfl ?_
    refine Tl_q (JO_q rfl rfl (Jq_add rfl rfl rfl (r := ((t : Nat) : Int)) (by rw [ht]; exact wu64 (by omega)))) rfl ?_
    refine Tl_q (JO_q rfl rfl (Jq_assign rfl rfl)) rfl ?_
    refine Tl_end ?_
    refine At_then ?_
    refine Tc_seq ?_
    refine Tc_region ?_
    refine Tl_q (JO_q rfl rfl (Jq_move rfl rfl)) rfl ?_
    refine Tl_q (JO_q rfl rfl (Jq_move rfl rfl)) rfl ?_
    refine Tl_q (JO_q rfl rfl (Jq_index_part rfl rfl rfl rfl (by decide) (by simp; omega) un23 ty62 (by omega) (by omega) (off := pre.length + (i)) (by omega))) rfl ?_
    refine Tl_q (JO_q rfl rfl (Jq_load rfl rfl rfl (by decide) ty62 (get_part rfl (by omega)))) rfl ?_
    refine Tl_q (JO_q rfl rfl (Jq_convert rfl rfl un59 us62 (r := ((s1[i]'(by omega) : Nat) : Int)) (wu64 (by omega)))) rfl ?_
    refine Tl_q (JO_q rfl rfl (Jq_move rfl rfl)) rfl ?_
    refine Tl_q (JO_q rfl rfl (Jq_convert rfl rfl un62 us59 (r := ((t % 4294967296 : Nat) : Int)) (wu32 (by omega)))) rfl ?_
    refine Tl_q (JO_q rfl rfl (Jq_convert rfl rfl un59 us62 (r := ((t % 4294967296 : Nat) : Int)) (wu64 (by omega)))) rfl ?_
    refine Tl_q (JO_q rfl rfl (Jq_sub rfl rfl rfl (r := (((s1[i]'(by omega) + (18446744073709551616 - t % 4294967296)) % 18446744073709551616 : Nat) : Int)) (wu64 (by omega)))) rfl ?_
    refine Tl_q (JO_q rfl rfl (Jq_move rfl rfl)) rfl ?_
    refine Tl_q (JO_q rfl rfl (Jq_sub rfl rfl rfl (r := ((x : Nat) : Int)) (wu64 (by omega)))) rfl ?_
    refine Tl_q (JO_q rfl rfl (Jq_assign rfl rfl)) rfl ?_
    refine Tl_end ?_
    refine At_then ?_
    refine Tc_seq ?_
    refine Tc_region ?_
    refine Tl_q (JO_q rfl rfl (Jq_move rfl rfl)) rfl ?_
    refine Tl_q (JO_q rfl rfl (Jq_move rfl rfl)) rfl ?_
    refine Tl_q (JO_q rfl rfl (Jq_move rfl rfl)) rfl ?_
    refine Tl_q (JO_q rfl rfl (Jq_convert rfl rfl un62 us59 (r := ((x % 4294967296 : Nat) : Int)) (wu32 (by omega)))) rfl ?_
    refine Tl_q (JO_q rfl rfl (Jq_index_part rfl rfl rfl rfl (by decide) (by simp; omega) un23 ty62 (by omega) (by omega) (off := pre.length + (i)) (by omega))) rfl ?_
    refine Tl_e (JO_e rfl rfl (Je_store (ls := ((pre ++ s1.set (i) (x % 4294967296) ++ post).map u32L)) rfl rfl rfl rfl ty62 rfl (by decide) (by simp; omega) (splice_part rfl (by omega)))) rfl rfl ?_
    refine Tl_end ?_
    refine At_then ?_
    refine Tc_seq ?_
    refine Tc_region ?_
    refine Tl_q (JO_q rfl rfl (Jq_move rfl rfl)) rfl ?_
    refine Tl_q (JO_q rfl rfl (Jq_shr rfl rfl rfl (by decide) (r := ((x / 9223372036854775808 : Nat) : Int)) (shr_nat _ 63 rfl))) rfl ?_
    refine Tl_q (JO_q rfl rfl (Jq_assign rfl rfl)) rfl ?_
    refine Tl_end ?_
    refine At_then ?_
    refine Tc_region ?_
    refine Tl_q (JO_q rfl rfl (Jq_move rfl rfl)) rfl ?_
    refine Tl_q (JO_q rfl rfl (Jq_shr rfl rfl rfl (by decide) (r := ((t / 4294967296 : Nat) : Int)) (shr_nat _ 32 rfl))) rfl ?_
    refine Tl_q (JO_q rfl rfl (Jq_assign rfl rfl)) rfl ?_
    refine Tl_end ?_
    refine At_block ?_
    refine At_then ?_
    refine Tc_region ?_
    refine Tl_q (JO_q rfl rfl (Jq_add rfl rfl rfl (r := ((i + 1 : Nat) : Int)) (w64 (by omega) (by omega) (by omega)))) rfl ?_
    refine Tl_q (JO_q rfl rfl (Jq_move rfl rfl)) rfl ?_
    refine Tl_end ?_
    exact At_next (m' := v.length - (i + 1)) (by omega) ⟨i + 1, _, _, _, rfl, rfl, rfl, by omega, by simp [hl1], hs1.set _ _ (by omega), by omega, hd.2, red_step (by omega) (by omega) hi heq hdr _ _ t ht hd.1, red_drop hdr⟩ ⟨rfl, rfl, rfl, rfl, rfl, rfl, rfl, rfl, trivial⟩
  · skip
    refine Tl_q (JO_q rfl rfl (Jq_lss rfl rfl rfl (b := false) (dF (by omega)))) rfl ?_
    refine Tl_end ?_
    refine At_then ?_
    refine Tc_seq ?_
    refine Tc_f rfl ?_
    refine Tc_exitA ?_
    refine At_then_exit ?_
    refine At_then_exit ?_
    refine At_block_exit ?_
    refine At_then ?_
    refine Tc_seq ?_
    have hie : i = v.length := by omega
    subst hie
    have hsn := hs1.get v.length (by omega)
    obtain ⟨x, hx⟩ : ∃ x, x = (s1[v.length]'(by omega) + (18446744073709551616 - (c + b))) % 18446744073709551616 := ⟨_, rfl⟩
    have hd := sub_digit (l := c) (b := b) hsn (by omega)
    simp only [← hx] at hd
    have htot := red_total (by omega) hsl rfl heq hdr hd.1
    have hs2 := hs1.set v.length (x % 4294967296) (by omega)
    have hl2 : (s1.set v.length (x % 4294967296)).length = v.length + 1 := by simp; omega
    refine Tc_region ?_
    refine Tl_q (JO_q rfl rfl (Jq_move rfl rfl)) rfl ?_
    refine Tl_q (JO_q rfl rfl (Jq_move rfl rfl)) rfl ?_
    refine Tl_q (JO_q rfl rfl (Jq_len rfl rfl un23)) rfl ?_
    refine Tl_q (JO_q rfl rfl (Jq_index_part rfl rfl rfl rfl (by decide) (by simp; omega) un23 ty62 (by omega) (by omega) (off := pre.length + (v.length)) (by omega))) rfl ?_
    refine Tl_q (JO_q rfl rfl (Jq_load rfl rfl rfl (by decide) ty62 (get_part rfl (by omega)))) rfl ?_
    refine Tl_q (JO_q rfl rfl (Jq_convert rfl rfl un59 us62 (r := ((s1[v.length]'(by omega) : Nat) : Int)) (wu64 (by omega)))) rfl ?_
    refine Tl_q (JO_q rfl rfl (Jq_move rfl rfl)) rfl ?_
    refine Tl_q (JO_q rfl rfl (Jq_sub rfl rfl rfl (r := (((s1[v.length]'(by omega) + (18446744073709551616 - c)) % 18446744073709551616 : Nat) : Int)) (wu64 (by omega)))) rfl ?_
    refine Tl_q (JO_q rfl rfl (Jq_move rfl rfl)) rfl ?_
    refine Tl_q (JO_q rfl rfl (Jq_sub rfl rfl rfl (r := ((x : Nat) : Int)) (wu64 (by omega)))) rfl ?_
    refine Tl_q (JO_q rfl rfl (Jq_assign rfl rfl)) rfl ?_
    refine Tl_end ?_
    refine At_then ?_
    refine Tc_seq ?_
    refine Tc_region ?_
    refine Tl_q (JO_q rfl rfl (Jq_move rfl rfl)) rfl ?_
    refine Tl_q (JO_q rfl rfl (Jq_move rfl rfl)) rfl ?_
    refine Tl_q (JO_q rfl rfl (Jq_len rfl rfl un23)) rfl ?_
    refine Tl_q (JO_q rfl rfl (Jq_move rfl rfl)) rfl ?_
    refine Tl_q (JO_q rfl rfl (Jq_convert rfl rfl un62 us59 (r := ((x % 4294967296 : Nat) : Int)) (wu32 (by omega)))) rfl ?_
    refine Tl_q (JO_q rfl rfl (Jq_index_part rfl rfl rfl rfl (by decide) (by simp; omega) un23 ty62 (by omega) (by omega) (off := pre.length + (v.length)) (by omega))) rfl ?_
    refine Tl_e (JO_e rfl rfl (Je_store (ls := ((pre ++ s1.set (v.length) (x % 4294967296) ++ post).map u32L)) rfl rfl rfl rfl ty62 rfl (by decide) (by simp; omega) (splice_part rfl (by omega)))) rfl rfl ?_
    refine Tl_end ?_
    refine At_then ?_
    refine Tc_seq ?_
    refine Tc_seq ?_
    refine Tc_region ?_
    refine Tl_q (JO_q rfl rfl (Jq_move rfl rfl)) rfl ?_
    refine Tl_q (JO_q rfl rfl (Jq_shr rfl rfl rfl (by decide) (r := ((x / 9223372036854775808 : Nat) : Int)) (shr_nat _ 63 rfl))) rfl ?_
    by_cases hx0 : x / 9223372036854775808 = 0
    · skip
      refine Tl_q (JO_q rfl rfl (Jq_eql rfl rfl rfl (b := true) (eT (by omega)))) rfl ?_
      refine Tl_end ?_
      refine At_then ?_
      refine Tc_t rfl ?_
      refine Tc_seq ?_
      rw [hx0, Nat.zero_mul, Nat.add_zero] at htot
      obtain ⟨k1, k2⟩ := red_fin0 hq hV htot
      refine Tc_region ?_
      refine Tl_q (JO_q rfl rfl (Jq_move rfl rfl)) rfl ?_
      refine Tl_q (JO_q rfl rfl (Jq_convert rfl rfl un62 us59 (r := ((val s / val v : Nat) : Int)) (by rw [← k1]; exact wu32 (by omega)))) rfl ?_
      refine Tl_q (JO_q rfl rfl (Jq_assign rfl rfl)) rfl ?_
      refine Tl_end ?_
      refine At_then ?_
      exact Tc_retM (fun _ _ h => h) rfl rfl rfl rfl (by simp; omega) (by rw [padL_of hs2 hl2 k2])
    · skip
      refine Tl_q (JO_q rfl rfl (Jq_eql rfl rfl rfl (b := false) (eF (by omega)))) rfl ?_
      refine Tl_end ?_
      refine At_then ?_
      refine Tc_f rfl ?_
      refine Tc_skipA ?_
      refine At_then ?_
      refine Tc_seq ?_
      have hx1 : x / 9223372036854775808 = 1 := by omega
      rw [hx1, Nat.one_mul] at htot
      have hbd := val_lt hs2
      rw [hl2] at hbd
      obtain ⟨k1, k2⟩ := red_fin1 hq hV hbd htot
      generalize s1.set v.length (x % 4294967296) = s2 at *
      refine Tc_region ?_
      refine Tl_q (JO_q rfl rfl (Jq_assign rfl rfl)) rfl ?_
      refine Tl_end ?_
      refine At_then ?_
      refine Tc_seq ?_
      refine Tc_seq ?_
      refine Tc_region ?_
      refine Tl_q (JO_q rfl rfl (Jq_move rfl rfl)) rfl ?_
      refine Tl_q (JO_q rfl rfl (Jq_len rfl rfl un23)) rfl ?_
      refine Tl_q (JO_q rfl rfl (Jq_move rfl rfl)) rfl ?_
      refine Tl_end ?_
      refine At_then ?_
      refine Tc_block ?_
      refine Tc_loopR (fun m Γ H => ∃ (i : Nat) (s3 : List Nat) (c : Nat), v.length - i = m ∧ Γ = [(0, some (D.part 0 pre.length (v.length + 1))), (1, some (D.v (V.one (natL v)))), (2, some (D.val (.int .u64 ((q : Nat) : Int)))), (7, some (D.val (.int .u64 ((c : Nat) : Int)))), (70, some (D.v (V.one (natL v)))), (71, some (D.int ((v.length : Nat) : Int))), (72, some (D.int ((i : Nat) : Int)))] ∧ H = [some ⟨62, (pre ++ s3 ++ post).map u32L, some 1, some bk⟩] ∧ i ≤ v.length ∧ s3.length = v.length + 1 ∧ Small s3 ∧ c ≤ 1 ∧ val (s3.take i) + c * 4294967296 ^ i = val (s2.take i) + val (v.take i) ∧ s3.drop i = s2.drop i) ⟨0, s2, 0, rfl, rfl, rfl, Nat.zero_le _, hl2, hs2, by omega, by simp [val], rfl⟩ ⟨rfl, rfl, rfl, rfl, rfl, rfl, rfl, trivial⟩ ?_
      rintro m Γ H ⟨i, s3, c, rfl, rfl, rfl, hile, hl3, hs3, hc3, heq3, hdr3⟩
      refine Tc_seq ?_
      refine Tc_region ?_
      by_cases hi : i < v.length
      · skip
        refine Tl_q (JO_q rfl rfl (Jq_lss rfl rfl rfl (b := true) (dT (by omega)))) rfl ?_
        refine Tl_end ?_
        refine At_then ?_
        refine Tc_seq ?_
        refine Tc_t rfl ?_
        refine Tc_skipA ?_
        refine At_then ?_
        refine Tc_seq ?_
        refine Tc_block ?_
        refine Tc_seq ?_
        have hvi := hv.get i hi; have hsi := hs3.get i (by omega)
        have hge := get_of_drop hdr3 (by omega) (by omega)
        refine Tc_region ?_
        refine Tl_q (JO_q rfl rfl (Jq_move rfl rfl)) rfl ?_
        refine Tl_q (JO_q rfl rfl (Jq_index1 rfl rfl rfl un23 ty62 (by omega) (by omega) (get_u32 (by omega)))) rfl ?_
        refine Tl_q (JO_q rfl rfl (Jq_load_ref rfl rfl ty62)) rfl ?_
        refine Tl_q (JO_q rfl rfl (Jq_assign rfl rfl)) rfl ?_
        refine Tl_q (JO_q rfl rfl (Jq_assign rfl rfl)) rfl ?_
        refine Tl_end ?_
        refine At_then ?_
        refine Tc_seq ?_
        refine Tc_region ?_
        refine Tl_q (JO_q rfl rfl (Jq_move rfl rfl)) rfl ?_
        refine Tl_q (JO_q rfl rfl (Jq_move rfl rfl)) rfl ?_
        refine Tl_q (JO_q rfl rfl (Jq_move rfl rfl)) rfl ?_
        refine Tl_q (JO_q rfl rfl (Jq_index_part rfl rfl rfl rfl (by decide) (by simp; omega) un23 ty62 (by omega) (by omega) (off := pre.length + (i)) (by omega))) rfl ?_
        refine Tl_q (JO_q rfl rfl (Jq_load rfl rfl rfl (by decide) ty62 (get_part rfl (by omega)))) rfl ?_
        refine Tl_q (JO_q rfl rfl (Jq_convert rfl rfl un59 us62 (r := ((s3[i]'(by omega) : Nat) : Int)) (wu64 (by omega)))) rfl ?_
        refine Tl_q (JO_q rfl rfl (Jq_move rfl rfl)) rfl ?_
        refine Tl_q (JO_q rfl rfl (Jq_convert rfl rfl un59 us62 (r := ((v[i]'hi : Nat) : Int)) (wu64 (by omega)))) rfl ?_
        refine Tl_q (JO_q rfl rfl (Jq_add rfl rfl rfl (r := ((s3[i]'(by omega) + v[i]'hi : Nat) : Int)) (wu64 (by omega)))) rfl ?_
        refine Tl_q (JO_q rfl rfl (Jq_add rfl rfl rfl (r := ((c + (s3[i]'(by omega) + v[i]'hi) : Nat) : Int)) (wu64 (by omega)))) rfl ?_
        refine Tl_q (JO_q rfl rfl (Jq_assign rfl rfl)) rfl ?_
        refine Tl_end ?_
        refine At_then ?_
        refine Tc_seq ?_
        refine Tc_region ?_
        refine Tl_q (JO_q rfl rfl (Jq_move rfl rfl)) rfl ?_
        refine Tl_q (JO_q rfl rfl (Jq_move rfl rfl)) rfl ?_
        refine Tl_q (JO_q rfl rfl (Jq_move rfl rfl)) rfl ?_
        refine Tl_q (JO_q rfl rfl (Jq_convert rfl rfl un62 us59 (r := (((c + (s3[i]'(by omega) + v[i]'hi)) % 4294967296 : Nat) : Int)) (wu32 (by omega)))) rfl ?_
        refine Tl_q (JO_q rfl rfl (Jq_index_part rfl rfl rfl rfl (by decide) (by simp; omega) un23 ty62 (by omega) (by omega) (off := pre.length + (i)) (by omega))) rfl ?_
        refine Tl_e (JO_e rfl rfl (Je_store (ls := ((pre ++ s3.set (i) ((c + (s3[i]'(by omega) + v[i]'hi)) % 4294967296) ++ post).map u32L)) rfl rfl rfl rfl ty62 rfl (by decide) (by simp; omega) (splice_part rfl (by omega)))) rfl rfl ?_
        refine Tl_end ?_
        refine At_then ?_
        refine Tc_region ?_
        refine Tl_q (JO_q rfl rfl (Jq_move rfl rfl)) rfl ?_
        refine Tl_q (JO_q rfl rfl (Jq_shr rfl rfl rfl (by decide) (r := (((c + (s3[i]'(by omega) + v[i]'hi)) / 4294967296 : Nat) : Int)) (shr_nat _ 32 rfl))) rfl ?_
        refine Tl_q (JO_q rfl rfl (Jq_assign rfl rfl)) rfl ?_
        refine Tl_end ?_
        refine At_block ?_
        refine At_then ?_
        refine Tc_region ?_
        refine Tl_q (JO_q rfl rfl (Jq_add rfl rfl rfl (r := ((i + 1 : Nat) : Int)) (w64 (by omega) (by omega) (by omega)))) rfl ?_
        refine Tl_q (JO_q rfl rfl (Jq_move rfl rfl)) rfl ?_
        refine Tl_end ?_
        exact At_next (m' := v.length - (i + 1)) (by omega) ⟨i + 1, _, _, rfl, rfl, rfl, by omega, by simp [hl3], hs3.set _ _ (by omega), by omega, add_step (a := s2) (b := v) (by omega) (by omega) heq3 (by rw [getD_of hi, hge, Nat.add_assoc]), red_drop hdr3⟩ ⟨rfl, rfl, rfl, rfl, rfl, rfl, rfl, trivial⟩
      · skip
        refine Tl_q (JO_q rfl rfl (Jq_lss rfl rfl rfl (b := false) (dF (by omega)))) rfl ?_
        refine Tl_end ?_
        refine At_then ?_
        refine Tc_seq ?_
        refine Tc_f rfl ?_
        refine Tc_exitA ?_
        refine At_then_exit ?_
        refine At_then_exit ?_
        refine At_block_exit ?_
        refine At_then ?_
        refine Tc_seq ?_
        have hie : i = v.length := by omega
        subst hie
        have hsn := hs3.get v.length (by omega)
        have hR : val s % val v < 4294967296 ^ (v.length + 1) := Nat.lt_of_lt_of_le (Nat.mod_lt _ hV) (Nat.le_of_lt (Nat.lt_of_lt_of_le (val_lt hv) (Nat.pow_le_pow_right (by decide) (by omega))))
        have hfin := red_back hs3 hl3 hl2 rfl heq3 hdr3 rfl hR k2
        obtain ⟨Q, hQ⟩ : ∃ Q, Q = val s / val v := ⟨_, rfl⟩
        rw [← hQ] at hqt
        refine Tc_region ?_
        refine Tl_q (JO_q rfl rfl (Jq_move rfl rfl)) rfl ?_
        refine Tl_q (JO_q rfl rfl (Jq_move rfl rfl)) rfl ?_
        refine Tl_q (JO_q rfl rfl (Jq_len rfl rfl un23)) rfl ?_
        refine Tl_q (JO_q rfl rfl (Jq_index_part rfl rfl rfl rfl (by decide) (by simp; omega) un23 ty62 (by omega) (by omega) (off := pre.length + (v.length)) (by omega))) rfl ?_
        refine Tl_q (JO_q rfl rfl (Jq_load rfl rfl rfl (by decide) ty62 (get_part rfl (by omega)))) rfl ?_
        refine Tl_q (JO_q rfl rfl (Jq_move rfl rfl)) rfl ?_
        refine Tl_q (JO_q rfl rfl (Jq_convert rfl rfl un62 us59 (r := ((c : Nat) : Int)) (wu32 (by omega)))) rfl ?_
        refine Tl_q (JO_q rfl rfl (Jq_add rfl rfl rfl (r := (((s3[v.length]'(by omega) + c) % 4294967296 : Nat) : Int)) (wu32 (by omega)))) rfl ?_
        refine Tl_q (JO_q rfl rfl (Jq_index_part rfl rfl rfl rfl (by decide) (by simp; omega) un23 ty62 (by omega) (by omega) (off := pre.length + (v.length)) (by omega))) rfl ?_
        refine Tl_e (JO_e rfl rfl (Je_store (ls := ((pre ++ s3.set (v.length) ((s3[v.length]'(by omega) + c) % 4294967296) ++ post).map u32L)) rfl rfl rfl rfl ty62 rfl (by decide) (by simp; omega) (splice_part rfl (by omega)))) rfl rfl ?_
        refine Tl_end ?_
        refine At_then ?_
        refine Tc_seq ?_
        refine Tc_region ?_
        refine Tl_q (JO_q rfl rfl (Jq_move rfl rfl)) rfl ?_
        refine Tl_q (JO_q rfl rfl (Jq_sub rfl rfl rfl (r := ((Q : Nat) : Int)) (by rw [k1, ← hQ]; exact wu64 (by omega)))) rfl ?_
        refine Tl_q (JO_q rfl rfl (Jq_convert rfl rfl un62 us59 (r := ((Q : Nat) : Int)) (wu32 (by omega)))) rfl ?_
        refine Tl_q (JO_q rfl rfl (Jq_assign rfl rfl)) rfl ?_
        refine Tl_end ?_
        refine At_then ?_
        exact Tc_retM (fun _ _ h => h) rfl rfl (by rw [hQ]) rfl (by simp; omega) (by rw [padL_of (n := v.length + 1) (hs3.set _ _ (Nat.mod_lt _ (by decide))) (by simp [hl3]) hfin])

end Go.Proofs.YtpabkdpijcbkgaaGreatDoor
