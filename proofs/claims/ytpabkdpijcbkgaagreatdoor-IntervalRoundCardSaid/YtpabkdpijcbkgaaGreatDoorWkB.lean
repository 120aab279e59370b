/- Walks: the simple functions of natural. -/
import Derived.Test.YtpabkdpijcbkgaaGreatDoorWkA
import Derived.Test.YtpabkdpijcbkgaaGreatDoorNatM
set_option linter.unusedSimpArgs false
set_option linter.unusedVariables false
namespace Go.Proofs.YtpabkdpijcbkgaaGreatDoor
open Go Go.RowKit Rc


set_option maxRecDepth 10000 in
theorem clone_spec (l : List Nat) (hl : l.length ≤ 10000000000000) : Ctr Tryz.prog 97 [V.one (natL l)] (R.one (V.one (natL l))) := by
  refine Ctr.of_body Tryz.func97 rfl Tryz.ntmps97 (Nat.le_of_ble_eq_true rfl) (fun w0 A0 => ?_)
  refine Tc_seq ?_
  refine Tc_region ?_
  refine Tl_q (JO_q rfl rfl (Jq_assign_nil rfl)) rfl ?_
  refine Tl_end ?_
  refine At_then ?_
  refine Tc_seq ?_
  refine Tc_seq ?_
  refine Tc_region ?_
  refine Tl_q (JO_q rfl rfl (Jq_move rfl rfl)) rfl ?_
  refine Tl_eqnil rfl rfl rfl rfl rfl un23 (fun b1 hb1 => ?_)
  refine Tl_end ?_
  refine At_then ?_
  refine Tc_cond rfl (fun hc4 => ?_) (fun hc4 => ?_)
  · skip
    refine Tc_seq ?_
    refine Tc_region ?_
    refine Tl_q (JO_q rfl rfl (Jq_assign_nil rfl)) rfl ?_
    refine Tl_end ?_
    refine At_then ?_
    exact Tc_ret1 (fun _ _ h => h) rfl rfl (by obtain ⟨h1, h2⟩ := hb1 hc4; have := List.eq_nil_of_length_eq_zero h1; subst this; rfl)
  · skip
    refine Tc_skipA ?_
    refine At_then ?_
    refine Tc_seq ?_
    refine Tc_region ?_
    refine Tl_build0 rfl rfl rfl rfl un23 ty62 rfl ?_
    refine Tl_q (JO_q rfl rfl (Jq_move rfl rfl)) rfl ?_
    obtain ⟨ti2, hi2, hz2, hs2, hb2⟩ := in62
    refine Tl_append rfl rfl rfl rfl rfl rfl rfl rfl rfl (by simp) (by simp) (by decide) un23 un23 hi2 hz2 hs2 rfl (by simp only [maxLen]; omega) (by rw [hb2]; omega) (nm := l.length) (by simp) (ls := (l.map u32L)) (by simp) ?_
    refine Tl_q (JO_q rfl rfl (Jq_assign rfl rfl)) rfl ?_
    refine Tl_end ?_
    refine At_then ?_
    refine Tc_share_nat 2 (l) rfl rfl rfl rfl rfl ?_
    exact Tc_ret1 (fun _ _ h => h) rfl rfl rfl

set_option maxRecDepth 10000 in
theorem make_spec (l : List Nat) (hs : Small l) (hl : l.length ≤ 10000000000000) : Ctr Tryz.prog 73 [V.one (natL l)] (R.one (V.one (natL (limbs (val l))))) := by
  refine Ctr.of_body Tryz.func73 rfl Tryz.ntmps73 (Nat.le_of_ble_eq_true rfl) (fun w0 A0 => ?_)
  refine Tc_seq ?_
  refine Tc_region ?_
  refine Tl_q (JO_q rfl rfl (Jq_assign_nil rfl)) rfl ?_
  refine Tl_end ?_
  refine At_then ?_
  refine Tc_seq ?_
  refine Tc_region ?_
  refine Tl_q (JO_q rfl rfl (Jq_move rfl rfl)) rfl ?_
  refine Tl_e (JO_e rfl rfl (Je_call rfl fn60 rfl (trim_spec l hs))) rfl rfl ?_
  refine Tl_e (JO_e rfl rfl (Je_call rfl fn97 rfl (clone_spec _ (Nat.le_trans (limbs_val_length hs) hl)))) rfl rfl ?_
  refine Tl_q (JO_q rfl rfl (Jq_assign rfl rfl)) rfl ?_
  refine Tl_end ?_
  refine At_then ?_
  exact Tc_ret1 (fun _ _ h => h) rfl rfl rfl

set_option maxRecDepth 10000 in
theorem cmp_spec (la lb : List Nat) (hsa : Small la) (hsb : Small lb) : Ctr Tryz.prog 70 [V.one (natL la), V.one (natL lb)] (R.one (V.one (Leaf.val (.int .i64 (cmpN (val la) (val lb)))))) := by
  refine Ctr.of_body Tryz.func70 rfl Tryz.ntmps70 (Nat.le_of_ble_eq_true rfl) (fun w0 A0 => ?_)
  refine Tc_seq ?_
  refine Tc_len (s := 0) rfl (fun hma => ?_)
  refine Tc_len (s := 1) rfl (fun hmb => ?_)
  refine Tc_region ?_
  refine Tl_q (JO_q rfl rfl (Jq_assign rfl rfl)) rfl ?_
  refine Tl_end ?_
  refine At_then ?_
  refine Tc_seq ?_
  refine Tc_region ?_
  refine Tl_q (JO_q rfl rfl (Jq_move rfl rfl)) rfl ?_
  refine Tl_e (JO_e rfl rfl (Je_call rfl fn60 rfl (trim_spec la hsa))) rfl rfl ?_
  refine Tl_q (JO_q rfl rfl (Jq_move rfl rfl)) rfl ?_
  refine Tl_e (JO_e rfl rfl (Je_call rfl fn60 rfl (trim_spec lb hsb))) rfl rfl ?_
  refine Tl_q (JO_q rfl rfl (Jq_assign rfl rfl)) rfl ?_
  refine Tl_q (JO_q rfl rfl (Jq_assign rfl rfl)) rfl ?_
  refine Tl_end ?_
  refine At_then ?_
  refine Tc_seq ?_
  refine Tc_seq ?_
  have hla := limbs_val_length hsa; have hlb := limbs_val_length hsb
  have va := val_limbs (val la); have vb := val_limbs (val lb); have sa := small_limbs (val la); have sb := small_limbs (val lb)
  have hlt1 : (limbs (val la)).length < (limbs (val lb)).length → val la < val lb := lt_of_length
  have hlt2 : (limbs (val lb)).length < (limbs (val la)).length → val lb < val la := lt_of_length
  generalize limbs (val la) = a at *
  generalize limbs (val lb) = b at *
  refine Tc_region ?_
  refine Tl_q (JO_q rfl rfl (Jq_move rfl rfl)) rfl ?_
  refine Tl_q (JO_q rfl rfl (Jq_len rfl rfl un23)) rfl ?_
  refine Tl_q (JO_q rfl rfl (Jq_move rfl rfl)) rfl ?_
  refine Tl_q (JO_q rfl rfl (Jq_len rfl rfl un23)) rfl ?_
  by_cases hne : a.length ≠ b.length
  · skip
    refine Tl_q (JO_q rfl rfl (Jq_neq rfl rfl rfl (b := true) (nT (by omega)))) rfl ?_
    refine Tl_end ?_
    refine At_then ?_
    refine Tc_t rfl ?_
    refine Tc_seq ?_
    refine Tc_seq ?_
    refine Tc_region ?_
    refine Tl_q (JO_q rfl rfl (Jq_move rfl rfl)) rfl ?_
    refine Tl_q (JO_q rfl rfl (Jq_len rfl rfl un23)) rfl ?_
    refine Tl_q (JO_q rfl rfl (Jq_move rfl rfl)) rfl ?_
    refine Tl_q (JO_q rfl rfl (Jq_len rfl rfl un23)) rfl ?_
    by_cases hlt : a.length < b.length
    · skip
      refine Tl_q (JO_q rfl rfl (Jq_lss rfl rfl rfl (b := true) (dT (by omega)))) rfl ?_
      refine Tl_end ?_
      refine At_then ?_
      refine Tc_t rfl ?_
      refine Tc_seq ?_
      refine Tc_region ?_
      refine Tl_q (JO_q rfl rfl (Jq_assign rfl rfl)) rfl ?_
      refine Tl_end ?_
      refine At_then ?_
      exact Tc_ret1 (fun _ _ h => h) rfl rfl (by rw [cmpN_lt (hlt1 hlt)])
    · skip
      refine Tl_q (JO_q rfl rfl (Jq_lss rfl rfl rfl (b := false) (dF (by omega)))) rfl ?_
      refine Tl_end ?_
      refine At_then ?_
      refine Tc_f rfl ?_
      refine Tc_skipA ?_
      refine At_then ?_
      refine Tc_seq ?_
      refine Tc_region ?_
      refine Tl_q (JO_q rfl rfl (Jq_assign rfl rfl)) rfl ?_
      refine Tl_end ?_
      refine At_then ?_
      exact Tc_ret1 (fun _ _ h => h) rfl rfl (by rw [cmpN_gt (hlt2 (by omega))])
  · skip
    refine Tl_q (JO_q rfl rfl (Jq_neq rfl rfl rfl (b := false) (nF (by omega)))) rfl ?_
    refine Tl_end ?_
    refine At_then ?_
    refine Tc_f rfl ?_
    refine Tc_skipA ?_
    refine At_then ?_
    refine Tc_seq ?_
    refine Tc_seq ?_
    refine Tc_region ?_
    refine Tl_q (JO_q rfl rfl (Jq_move rfl rfl)) rfl ?_
    refine Tl_q (JO_q rfl rfl (Jq_len rfl rfl un23)) rfl ?_
    refine Tl_q (JO_q rfl rfl (Jq_sub rfl rfl rfl (r := (a.length : Int) - 1) (w64 (by omega) (by omega) (by omega)))) rfl ?_
    refine Tl_q (JO_q rfl rfl (Jq_assign rfl rfl)) rfl ?_
    refine Tl_end ?_
    refine At_then ?_
    refine Tc_block ?_
    refine Tc_loopR (fun m Γ H => ∃ (n : Nat), n = m ∧ Γ = [(0, some (D.v (V.one (natL a)))), (1, some (D.v (V.one (natL b)))), (5, some (D.int ((n : Int) - 1)))] ∧ H = [] ∧ n ≤ a.length ∧ a.drop n = b.drop n) ⟨a.length, rfl, rfl, rfl, Nat.le_refl _, by rw [List.drop_of_length_le (Nat.le_refl _), List.drop_of_length_le (by omega)]⟩ ⟨rfl, rfl, rfl, trivial⟩ ?_
    rintro m Γ H ⟨n, rfl, rfl, rfl, h⟩
    refine Tc_seq ?_
    refine Tc_seq ?_
    refine Tc_region ?_
    refine Tl_q (JO_q rfl rfl (Jq_move rfl rfl)) rfl ?_
    by_cases hp : 0 < n
    · skip
      refine Tl_q (JO_q rfl rfl (Jq_geq rfl rfl rfl (b := true) (dT (by omega)))) rfl ?_
      refine Tl_end ?_
      refine At_then ?_
      refine Tc_t rfl ?_
      refine Tc_skipA ?_
      refine At_then ?_
      refine Tc_seq ?_
      refine Tc_block ?_
      refine Tc_seq ?_
      by_cases hz : a[n - 1]'(by omega) = b[n - 1]'(by omega)
      · skip
        refine Tc_drawK 0 [none, none, none, none, none, none, none, none, none] [] follows (by kernel_rfl) ?_
        refine DK_q (JO_q rfl rfl (Jq_move rfl rfl)) ?_
        refine DK_q (JO_q rfl rfl (Jq_move rfl rfl)) ?_
        refine DK_q (JO_q rfl rfl (Jq_index1 rfl rfl rfl un23 ty62 (by omega) (by omega) (get_u32i (n - 1) (by omega) (by omega)))) ?_
        refine DK_q (JO_q rfl rfl (Jq_load_ref rfl rfl ty62)) ?_
        refine DK_q (JO_q rfl rfl (Jq_move rfl rfl)) ?_
        refine DK_q (JO_q rfl rfl (Jq_move rfl rfl)) ?_
        refine DK_q (JO_q rfl rfl (Jq_index1 rfl rfl rfl un23 ty62 (by omega) (by omega) (get_u32i (n - 1) (by omega) (by omega)))) ?_
        refine DK_q (JO_q rfl rfl (Jq_load_ref rfl rfl ty62)) ?_
        refine DK_q (JO_q rfl rfl (Jq_neq rfl rfl rfl (b := false) (nF (by omega)))) ?_
        refine DK_nil ?_
        refine At_then ?_
        refine Tc_f rfl ?_
        refine Tc_skipA ?_
        refine At_block ?_
        refine At_then ?_
        refine Tc_region ?_
        refine Tl_q (JO_q rfl rfl (Jq_move rfl rfl)) rfl ?_
        refine Tl_q (JO_q rfl rfl (Jq_sub rfl rfl rfl (r := ((n - 1 : Nat) : Int) - 1) (w64 (by omega) (by omega) (by omega)))) rfl ?_
        refine Tl_q (JO_q rfl rfl (Jq_assign rfl rfl)) rfl ?_
        refine Tl_end ?_
        exact At_next (m' := n - 1) (by omega) ⟨n - 1, rfl, rfl, rfl, by omega, drop_succ_eq (by omega) (by omega) (by rw [show n - 1 + 1 = n from by omega]; exact h.2) hz⟩ ⟨rfl, rfl, rfl, trivial⟩
      · skip
        refine Tc_drawK 0 [none, none, none, none, none, none, none, none, none] [] follows (by kernel_rfl) ?_
        refine DK_q (JO_q rfl rfl (Jq_move rfl rfl)) ?_
        refine DK_q (JO_q rfl rfl (Jq_move rfl rfl)) ?_
        refine DK_q (JO_q rfl rfl (Jq_index1 rfl rfl rfl un23 ty62 (by omega) (by omega) (get_u32i (n - 1) (by omega) (by omega)))) ?_
        refine DK_q (JO_q rfl rfl (Jq_load_ref rfl rfl ty62)) ?_
        refine DK_q (JO_q rfl rfl (Jq_move rfl rfl)) ?_
        refine DK_q (JO_q rfl rfl (Jq_move rfl rfl)) ?_
        refine DK_q (JO_q rfl rfl (Jq_index1 rfl rfl rfl un23 ty62 (by omega) (by omega) (get_u32i (n - 1) (by omega) (by omega)))) ?_
        refine DK_q (JO_q rfl rfl (Jq_load_ref rfl rfl ty62)) ?_
        refine DK_q (JO_q rfl rfl (Jq_neq rfl rfl rfl (b := true) (nT (by omega)))) ?_
        refine DK_nil ?_
        refine At_then ?_
        refine Tc_t rfl ?_
        refine Tc_seq ?_
        refine Tc_seq ?_
        by_cases hy : a[n - 1]'(by omega) < b[n - 1]'(by omega)
        · skip
          refine Tc_drawK 0 [none, none, none, none, none, none, none, none, none] [] follows (by kernel_rfl) ?_
          refine DK_q (JO_q rfl rfl (Jq_move rfl rfl)) ?_
          refine DK_q (JO_q rfl rfl (Jq_move rfl rfl)) ?_
          refine DK_q (JO_q rfl rfl (Jq_index1 rfl rfl rfl un23 ty62 (by omega) (by omega) (get_u32i (n - 1) (by omega) (by omega)))) ?_
          refine DK_q (JO_q rfl rfl (Jq_load_ref rfl rfl ty62)) ?_
          refine DK_q (JO_q rfl rfl (Jq_move rfl rfl)) ?_
          refine DK_q (JO_q rfl rfl (Jq_move rfl rfl)) ?_
          refine DK_q (JO_q rfl rfl (Jq_index1 rfl rfl rfl un23 ty62 (by omega) (by omega) (get_u32i (n - 1) (by omega) (by omega)))) ?_
          refine DK_q (JO_q rfl rfl (Jq_load_ref rfl rfl ty62)) ?_
          refine DK_q (JO_q rfl rfl (Jq_lss rfl rfl rfl (b := true) (dT (by omega)))) ?_
          refine DK_nil ?_
          refine At_then ?_
          refine Tc_t rfl ?_
          refine Tc_seq ?_
          refine Tc_region ?_
          refine Tl_q (JO_q rfl rfl (Jq_assign rfl rfl)) rfl ?_
          refine Tl_end ?_
          refine At_then ?_
          exact Tc_ret1 (fun _ _ h => h) rfl rfl (by rw [cmpN_lt (by rw [← va, ← vb]; exact cmp_at (n := n - 1) sa (by omega) (by omega) (by rw [show n - 1 + 1 = n from by omega]; exact h.2) hy)])
        · skip
          refine Tc_drawK 0 [none, none, none, none, none, none, none, none, none] [] follows (by kernel_rfl) ?_
          refine DK_q (JO_q rfl rfl (Jq_move rfl rfl)) ?_
          refine DK_q (JO_q rfl rfl (Jq_move rfl rfl)) ?_
          refine DK_q (JO_q rfl rfl (Jq_index1 rfl rfl rfl un23 ty62 (by omega) (by omega) (get_u32i (n - 1) (by omega) (by omega)))) ?_
          refine DK_q (JO_q rfl rfl (Jq_load_ref rfl rfl ty62)) ?_
          refine DK_q (JO_q rfl rfl (Jq_move rfl rfl)) ?_
          refine DK_q (JO_q rfl rfl (Jq_move rfl rfl)) ?_
          refine DK_q (JO_q rfl rfl (Jq_index1 rfl rfl rfl un23 ty62 (by omega) (by omega) (get_u32i (n - 1) (by omega) (by omega)))) ?_
          refine DK_q (JO_q rfl rfl (Jq_load_ref rfl rfl ty62)) ?_
          refine DK_q (JO_q rfl rfl (Jq_lss rfl rfl rfl (b := false) (dF (by omega)))) ?_
          refine DK_nil ?_
          refine At_then ?_
          refine Tc_f rfl ?_
          refine Tc_skipA ?_
          refine At_then ?_
          refine Tc_seq ?_
          refine Tc_region ?_
          refine Tl_q (JO_q rfl rfl (Jq_assign rfl rfl)) rfl ?_
          refine Tl_end ?_
          refine At_then ?_
          exact Tc_ret1 (fun _ _ h => h) rfl rfl (by rw [cmpN_gt (by rw [← va, ← vb]; exact cmp_at (n := n - 1) sb (by omega) (by omega) (by rw [show n - 1 + 1 = n from by omega]; exact h.2.symm) (by omega))])
    · skip
      refine Tl_q (JO_q rfl rfl (Jq_geq rfl rfl rfl (b := false) (dF (by omega)))) rfl ?_
      refine Tl_end ?_
      refine At_then ?_
      refine Tc_f rfl ?_
      refine Tc_exitA ?_
      refine At_then_exit ?_
      refine At_then_exit ?_
      refine At_block_exit ?_
      refine At_then ?_
      refine Tc_seq ?_
      refine Tc_region ?_
      refine Tl_q (JO_q rfl rfl (Jq_assign rfl rfl)) rfl ?_
      refine Tl_end ?_
      refine At_then ?_
      exact Tc_ret1 (fun _ _ h => h) rfl rfl (by rw [cmpN_eq (by rw [← va, ← vb]; have h2 := h.2; rw [show n = 0 from by omega] at h2; rw [show a = b from h2])])

set_option maxRecDepth 10000 in
theorem of_spec (x : Nat) (hx : x < 18446744073709551616) : Ctr Tryz.prog 38 [V.one (Leaf.val (.int .u64 x))] (R.one (V.one (natL (limbs x)))) := by
  refine Ctr.of_body Tryz.func38 rfl Tryz.ntmps38 (Nat.le_of_ble_eq_true rfl) (fun w0 A0 => ?_)
  refine Tc_seq ?_
  refine Tc_region ?_
  refine Tl_q (JO_q rfl rfl (Jq_assign_nil rfl)) rfl ?_
  refine Tl_end ?_
  refine At_then ?_
  refine Tc_seq ?_
  refine Tc_region ?_
  refine Tl_q (JO_q rfl rfl (Jq_move rfl rfl)) rfl ?_
  refine Tl_q (JO_q rfl rfl (Jq_convert rfl rfl un62 us59 (r := ((x % 4294967296 : Nat) : Int)) (wu32 (by omega)))) rfl ?_
  refine Tl_q (JO_q rfl rfl (Jq_move rfl rfl)) rfl ?_
  refine Tl_q (JO_q rfl rfl (Jq_shr rfl rfl rfl (by decide) (r := ((x / 4294967296 : Nat) : Int)) (shr_nat x 32 rfl))) rfl ?_
  refine Tl_q (JO_q rfl rfl (Jq_convert rfl rfl un62 us59 (r := ((x / 4294967296 : Nat) : Int)) (wu32 (by omega)))) rfl ?_
  refine Tl_e (JO_e rfl rfl (Je_buildSlice rfl un23 ty62 tz62 rfl (by decide) (by decide) rfl (by decide) rfl)) rfl rfl ?_
  refine Tl_e (JO_e rfl rfl (Je_call rfl fn60 rfl (trim_spec [x % 4294967296, x / 4294967296] (Small.cons (by omega) (Small.cons (by omega) Small.nil))))) rfl rfl ?_
  refine Tl_q (JO_q rfl rfl (Jq_assign rfl rfl)) rfl ?_
  refine Tl_end ?_
  refine At_then ?_
  exact Tc_ret1 (fun _ _ h => h) rfl rfl (by rw [show val [x % 4294967296, x / 4294967296] = x from by simp; omega])

end Go.Proofs.YtpabkdpijcbkgaaGreatDoor
