/- Walks: the reference of layer 1. -/
import Derived.Test.YtpabkdpijcbkgaaGreatDoorWkF
import Derived.Test.YtpabkdpijcbkgaaGreatDoorFacts
import Derived.Test.YtpabkdpijcbkgaaGreatDoorRefM
import Derived.Test.YtpabkdpijcbkgaaGreatDoorFwL
set_option linter.unusedSimpArgs false
set_option linter.unusedVariables false
namespace Go.Proofs.YtpabkdpijcbkgaaGreatDoor
open Go Go.RowKit Rc


set_option maxRecDepth 10000 in
theorem rmake_spec (l : List Nat) (hs : Small l) (hl : l.length ≤ 10000000000000) : Ctr Tryz.prog 91 [V.one (natL l)] (R.one (V.one (natL (limbs (val l))))) := by
  refine Ctr.of_body Tryz.func91 rfl Tryz.ntmps91 (Nat.le_of_ble_eq_true rfl) (fun w0 A0 => ?_)
  refine Tc_seq ?_
  refine Tc_len (s := 0) rfl (fun hm => ?_)
  refine Tc_region ?_
  refine Tl_q (JO_q rfl rfl (Jq_assign_nil rfl)) rfl ?_
  refine Tl_end ?_
  refine At_then ?_
  refine Tc_seq ?_
  refine Tc_region ?_
  refine Tl_q (JO_q rfl rfl (Jq_move rfl rfl)) rfl ?_
  refine Tl_q (JO_q rfl rfl (Jq_len rfl rfl un22)) rfl ?_
  refine Tl_q (JO_q rfl rfl (Jq_assign rfl rfl)) rfl ?_
  refine Tl_end ?_
  refine At_then ?_
  refine Tc_seq ?_
  refine Tc_block ?_
  refine Tc_loopR (fun m Γ H => ∃ (n : Nat), n = m ∧ Γ = [(0, some (D.v (V.one (natL l)))), (3, some (D.int n))] ∧ H = [] ∧ n ≤ l.length ∧ ∀ i (hi : i < l.length), n ≤ i → l[i] = 0) ⟨l.length, rfl, rfl, rfl, Nat.le_refl _, fun i hi h => absurd hi (by omega)⟩ ⟨rfl, rfl, trivial⟩ ?_
  rintro m Γ H ⟨n, rfl, rfl, rfl, h⟩
  refine Tc_seq ?_
  refine Tc_seq ?_
  refine Tc_region ?_
  refine Tl_q (JO_q rfl rfl (Jq_move rfl rfl)) rfl ?_
  by_cases hp : 0 < n
  · skip
    refine Tl_q (JO_q rfl rfl (Jq_gtr rfl rfl rfl (b := true) (dT (by omega)))) rfl ?_
    refine Tl_q (JO_q rfl rfl (Jq_move rfl rfl)) rfl ?_
    refine Tl_q (JO_qg rfl rfl rfl rfl (Jq_move rfl rfl)) rfl ?_
    refine Tl_q (JO_qg rfl rfl rfl rfl (Jq_move rfl rfl)) rfl ?_
    refine Tl_q (JO_qg rfl rfl rfl rfl (Jq_sub rfl rfl rfl (r := ((n - 1 : Nat) : Int)) (w64 (by omega) (by omega) (by omega)))) rfl ?_
    refine Tl_q (JO_qg rfl rfl rfl rfl (Jq_index1 rfl rfl rfl un22 ty62 (by omega) (by omega) (get_u32i (n - 1) (by omega) (by omega)))) rfl ?_
    refine Tl_q (JO_qg rfl rfl rfl rfl (Jq_load_ref rfl rfl ty62)) rfl ?_
    by_cases hz : l[n - 1]'(by omega) = 0
    · skip
      refine Tl_q (JO_qg rfl rfl rfl rfl (Jq_eql rfl rfl rfl (b := true) (eT (by omega)))) rfl ?_
      refine Tl_q (JO_q rfl rfl (Jq_pick_t rfl rfl rfl)) rfl ?_
      refine Tl_end ?_
      refine At_then ?_
      refine Tc_t rfl ?_
      refine Tc_skipA ?_
      refine At_then ?_
      refine Tc_block ?_
      refine Tc_region ?_
      refine Tl_q (JO_q rfl rfl (Jq_move rfl rfl)) rfl ?_
      refine Tl_q (JO_q rfl rfl (Jq_sub rfl rfl rfl (r := ((n - 1 : Nat) : Int)) (w64 (by omega) (by omega) (by omega)))) rfl ?_
      refine Tl_q (JO_q rfl rfl (Jq_assign rfl rfl)) rfl ?_
      refine Tl_end ?_
      refine At_block ?_
      exact At_next (m' := n - 1) (by omega) ⟨n - 1, rfl, rfl, rfl, by omega, fun i hi h1 => (if e : i = n - 1 then by subst e; exact hz else h.2 i hi (by omega))⟩ ⟨rfl, rfl, trivial⟩
    · skip
      refine Tl_q (JO_qg rfl rfl rfl rfl (Jq_eql rfl rfl rfl (b := false) (eF (by omega)))) rfl ?_
      refine Tl_q (JO_q rfl rfl (Jq_pick_t rfl rfl rfl)) rfl ?_
      refine Tl_end ?_
      refine At_then ?_
      refine Tc_f rfl ?_
      refine Tc_exitA ?_
      refine At_then_exit ?_
      refine At_then_exit ?_
      refine At_block_exit ?_
      refine At_then ?_
      refine Tc_seq ?_
      refine Tc_region ?_
      refine Tl_build0 rfl rfl rfl rfl un23 ty62 rfl ?_
      refine Tl_q (JO_q rfl rfl (Jq_move rfl rfl)) rfl ?_
      refine Tl_q (JO_q rfl rfl (Jq_move rfl rfl)) rfl ?_
      refine Tl_q (JO_q rfl rfl (Jq_slice_hi_nat rfl rfl rfl un22 ty62 h.1)) rfl ?_
      obtain ⟨ti4, hi4, hz4, hs4, hb4⟩ := in62
      refine Tl_append rfl rfl rfl rfl rfl rfl rfl rfl rfl (by simp) (by simp) (by decide) un23 un22 hi4 hz4 hs4 rfl (by have := List.length_take_le n l; simp only [maxLen]; omega) (by have := List.length_take_le n l; rw [hb4]; omega) (nm := (l.take n).length) (by simp) (ls := ((l.take n).map u32L)) (by simp) ?_
      refine Tl_q (JO_q rfl rfl (Jq_assign rfl rfl)) rfl ?_
      refine Tl_end ?_
      refine At_then ?_
      refine Tc_share_nat 2 (l.take n) rfl rfl rfl rfl rfl ?_
      exact Tc_ret1 (fun _ _ h => h) rfl rfl (by rw [← limbs_take hs n h.1 h.2 (fun _ => hz)])
  · skip
    refine Tl_q (JO_q rfl rfl (Jq_gtr rfl rfl rfl (b := false) (dF (by omega)))) rfl ?_
    refine Tl_q (JO_q rfl rfl (Jq_move rfl rfl)) rfl ?_
    refine Tl_q (JO_skip rfl rfl rfl) rfl ?_
    refine Tl_q (JO_skip rfl rfl rfl) rfl ?_
    refine Tl_q (JO_skip rfl rfl rfl) rfl ?_
    refine Tl_q (JO_skip rfl rfl rfl) rfl ?_
    refine Tl_q (JO_skip rfl rfl rfl) rfl ?_
    refine Tl_q (JO_skip rfl rfl rfl) rfl ?_
    refine Tl_q (JO_q rfl rfl (Jq_pick_f rfl rfl rfl)) rfl ?_
    refine Tl_end ?_
    refine At_then ?_
    refine Tc_f rfl ?_
    refine Tc_exitA ?_
    refine At_then_exit ?_
    refine At_then_exit ?_
    refine At_block_exit ?_
    refine At_then ?_
    refine Tc_seq ?_
    refine Tc_region ?_
    refine Tl_build0 rfl rfl rfl rfl un23 ty62 rfl ?_
    refine Tl_q (JO_q rfl rfl (Jq_move rfl rfl)) rfl ?_
    refine Tl_q (JO_q rfl rfl (Jq_move rfl rfl)) rfl ?_
    refine Tl_q (JO_q rfl rfl (Jq_slice_hi_nat rfl rfl rfl un22 ty62 h.1)) rfl ?_
    obtain ⟨ti5, hi5, hz5, hs5, hb5⟩ := in62
    refine Tl_append rfl rfl rfl rfl rfl rfl rfl rfl rfl (by simp) (by simp) (by decide) un23 un22 hi5 hz5 hs5 rfl (by have := List.length_take_le n l; simp only [maxLen]; omega) (by have := List.length_take_le n l; rw [hb5]; omega) (nm := (l.take n).length) (by simp) (ls := ((l.take n).map u32L)) (by simp) ?_
    refine Tl_q (JO_q rfl rfl (Jq_assign rfl rfl)) rfl ?_
    refine Tl_end ?_
    refine At_then ?_
    refine Tc_share_nat 2 (l.take n) rfl rfl rfl rfl rfl ?_
    exact Tc_ret1 (fun _ _ h => h) rfl rfl (by rw [← limbs_take hs n h.1 h.2 (fun h0 => absurd h0 hp)])

set_option maxRecDepth 10000 in
theorem limb_spec (a : List Nat) (i : Nat) : Ctr Tryz.prog 90 [V.one (natL a), V.one (Leaf.val (.int .i64 ((i : Nat) : Int)))] (R.one (V.one (Leaf.val (.int .u32 ((a.getD i 0 : Nat) : Int))))) := by
  refine Ctr.of_body Tryz.func90 rfl Tryz.ntmps90 (Nat.le_of_ble_eq_true rfl) (fun w0 A0 => ?_)
  refine Tc_seq ?_
  refine Tc_region ?_
  refine Tl_q (JO_q rfl rfl (Jq_assign rfl rfl)) rfl ?_
  refine Tl_end ?_
  refine At_then ?_
  refine Tc_seq ?_
  refine Tc_seq ?_
  refine Tc_region ?_
  refine Tl_q (JO_q rfl rfl (Jq_move rfl rfl)) rfl ?_
  refine Tl_q (JO_q rfl rfl (Jq_move rfl rfl)) rfl ?_
  refine Tl_q (JO_q rfl rfl (Jq_len rfl rfl un23)) rfl ?_
  by_cases hi : i < a.length
  · skip
    refine Tl_q (JO_q rfl rfl (Jq_lss rfl rfl rfl (b := true) (dT (by omega)))) rfl ?_
    refine Tl_end ?_
    refine At_then ?_
    refine Tc_t rfl ?_
    refine Tc_seq ?_
    refine Tc_region ?_
    refine Tl_q (JO_q rfl rfl (Jq_move rfl rfl)) rfl ?_
    refine Tl_q (JO_q rfl rfl (Jq_move rfl rfl)) rfl ?_
    refine Tl_q (JO_q rfl rfl (Jq_index1 rfl rfl rfl un23 ty62 (by omega) (by omega) (get_u32 (by omega)))) rfl ?_
    refine Tl_q (JO_q rfl rfl (Jq_load_ref rfl rfl ty62)) rfl ?_
    refine Tl_q (JO_q rfl rfl (Jq_assign rfl rfl)) rfl ?_
    refine Tl_end ?_
    refine At_then ?_
    exact Tc_ret1 (fun _ _ h => h) rfl rfl (by rw [getD_of hi])
  · skip
    refine Tl_q (JO_q rfl rfl (Jq_lss rfl rfl rfl (b := false) (dF (by omega)))) rfl ?_
    refine Tl_end ?_
    refine At_then ?_
    refine Tc_f rfl ?_
    refine Tc_skipA ?_
    refine At_then ?_
    refine Tc_seq ?_
    refine Tc_region ?_
    refine Tl_q (JO_q rfl rfl (Jq_assign rfl rfl)) rfl ?_
    refine Tl_end ?_
    refine At_then ?_
    exact Tc_ret1 (fun _ _ h => h) rfl rfl (by rw [getD_out (by omega)]; rfl)

set_option maxRecDepth 10000 in
theorem same_spec (a b : List Nat) : Ctr Tryz.prog 42 [V.one (natL a), V.one (natL b)] (R.one (V.one (Leaf.val (.bool (decide (a = b)))))) := by
  refine Ctr.of_body Tryz.func42 rfl Tryz.ntmps42 (Nat.le_of_ble_eq_true rfl) (fun w0 A0 => ?_)
  refine Tc_seq ?_
  refine Tc_len (s := 0) rfl (fun hma => ?_)
  refine Tc_len (s := 1) rfl (fun hmb => ?_)
  refine Tc_region ?_
  refine Tl_q (JO_q rfl rfl (Jq_assign rfl rfl)) rfl ?_
  refine Tl_end ?_
  refine At_then ?_
  refine Tc_seq ?_
  refine Tc_seq ?_
  refine Tc_region ?_
  refine Tl_q (JO_q rfl rfl (Jq_move rfl rfl)) rfl ?_
  refine Tl_q (JO_q rfl rfl (Jq_len rfl rfl un23)) rfl ?_
  refine Tl_q (JO_q rfl rfl (Jq_move rfl rfl)) rfl ?_
  refine Tl_q (JO_q rfl rfl (Jq_len rfl rfl un23)) rfl ?_
  by_cases hne : a.length ≠ b.length
  · skip
    refine Tl_q (JO_q rfl rfl (Jq_neq rfl rfl rfl (b := true) (nT (by omega)))) rfl ?_
    refine Tl_end ?_
    refine At_then ?_
    refine Tc_t rfl ?_
    refine Tc_seq ?_
    refine Tc_region ?_
    refine Tl_q (JO_q rfl rfl (Jq_assign rfl rfl)) rfl ?_
    refine Tl_end ?_
    refine At_then ?_
    exact Tc_ret1 (fun _ _ h => h) rfl rfl (by rw [decide_eq_false (fun e => hne (by rw [e]))])
  · skip
    refine Tl_q (JO_q rfl rfl (Jq_neq rfl rfl rfl (b := false) (nF (by omega)))) rfl ?_
    refine Tl_end ?_
    refine At_then ?_
    refine Tc_f rfl ?_
    refine Tc_skipA ?_
    refine At_then ?_
    refine Tc_seq ?_
    refine Tc_seq ?_
    refine Tc_region ?_
    refine Tl_q (JO_q rfl rfl (Jq_assign rfl rfl)) rfl ?_
    refine Tl_end ?_
    refine At_then ?_
    refine Tc_block ?_
    refine Tc_loopR (fun m Γ H => ∃ (k : Nat), a.length - k = m ∧ Γ = [(0, some (D.v (V.one (natL a)))), (1, some (D.v (V.one (natL b)))), (5, some (D.int ((k : Nat) : Int)))] ∧ H = [] ∧ k ≤ a.length ∧ a.take k = b.take k) ⟨0, rfl, rfl, rfl, Nat.zero_le _, rfl⟩ ⟨rfl, rfl, rfl, trivial⟩ ?_
    rintro m Γ H ⟨k, rfl, rfl, rfl, hkle, hab⟩
    refine Tc_seq ?_
    refine Tc_seq ?_
    refine Tc_region ?_
    refine Tl_q (JO_q rfl rfl (Jq_move rfl rfl)) rfl ?_
    refine Tl_q (JO_q rfl rfl (Jq_move rfl rfl)) rfl ?_
    refine Tl_q (JO_q rfl rfl (Jq_len rfl rfl un23)) rfl ?_
    by_cases hk : k < a.length
    · skip
      refine Tl_q (JO_q rfl rfl (Jq_lss rfl rfl rfl (b := true) (dT (by omega)))) rfl ?_
      refine Tl_end ?_
      refine At_then ?_
      refine Tc_t rfl ?_
      refine Tc_skipA ?_
      refine At_then ?_
      refine Tc_seq ?_
      refine Tc_block ?_
      refine Tc_seq ?_
      refine Tc_drawK 0 [none, none, none, none, none, none, none, none, none] [] follows (by kernel_rfl) ?_
      refine DK_q (JO_q rfl rfl (Jq_move rfl rfl)) ?_
      refine DK_q (JO_q rfl rfl (Jq_move rfl rfl)) ?_
      refine DK_q (JO_q rfl rfl (Jq_index1 rfl rfl rfl un23 ty62 (by omega) (by omega) (get_u32 (by omega)))) ?_
      refine DK_q (JO_q rfl rfl (Jq_load_ref rfl rfl ty62)) ?_
      refine DK_q (JO_q rfl rfl (Jq_move rfl rfl)) ?_
      refine DK_q (JO_q rfl rfl (Jq_move rfl rfl)) ?_
      refine DK_q (JO_q rfl rfl (Jq_index1 rfl rfl rfl un23 ty62 (by omega) (by omega) (get_u32 (by omega)))) ?_
      refine DK_q (JO_q rfl rfl (Jq_load_ref rfl rfl ty62)) ?_
      by_cases hd : a[k]'hk ≠ b[k]'(by omega)
      · skip
        refine DK_q (JO_q rfl rfl (Jq_neq rfl rfl rfl (b := true) (nT (by omega)))) ?_
        refine DK_nil ?_
        refine At_then ?_
        refine Tc_t rfl ?_
        refine Tc_seq ?_
        refine Tc_region ?_
        refine Tl_q (JO_q rfl rfl (Jq_assign rfl rfl)) rfl ?_
        refine Tl_end ?_
        refine At_then ?_
        exact Tc_ret1 (fun _ _ h => h) rfl rfl (by rw [decide_eq_false (fun e => hd (by subst e; rfl))])
      · skip
        refine DK_q (JO_q rfl rfl (Jq_neq rfl rfl rfl (b := false) (nF (by omega)))) ?_
        refine DK_nil ?_
        refine At_then ?_
        refine Tc_f rfl ?_
        refine Tc_skipA ?_
        refine At_block ?_
        refine At_then ?_
        refine Tc_region ?_
        refine Tl_q (JO_q rfl rfl (Jq_move rfl rfl)) rfl ?_
        refine Tl_q (JO_q rfl rfl (Jq_add rfl rfl rfl (r := ((k + 1 : Nat) : Int)) (w64 (by omega) (by omega) (by omega)))) rfl ?_
        refine Tl_q (JO_q rfl rfl (Jq_assign rfl rfl)) rfl ?_
        refine Tl_end ?_
        exact At_next (m' := a.length - (k + 1)) (by omega) ⟨k + 1, rfl, rfl, rfl, by omega, by rw [List.take_succ_eq_append_getElem hk, List.take_succ_eq_append_getElem (show k < b.length by omega), hab, Classical.not_not.1 hd]⟩ ⟨rfl, rfl, rfl, trivial⟩
    · skip
      refine Tl_q (JO_q rfl rfl (Jq_lss rfl rfl rfl (b := false) (dF (by omega)))) rfl ?_
      refine Tl_end ?_
      refine At_then ?_
      refine Tc_f rfl ?_
      refine Tc_exitA ?_
      refine At_then_exit ?_
      refine At_then_exit ?_
      refine At_block_exit ?_
      refine At_then ?_
      refine Tc_seq ?_
      refine Tc_region ?_
      refine Tl_q (JO_q rfl rfl (Jq_assign rfl rfl)) rfl ?_
      refine Tl_end ?_
      refine At_then ?_
      exact Tc_ret1 (fun _ _ h => h) rfl rfl (by rw [decide_eq_true]; rw [List.take_of_length_le (by omega), List.take_of_length_le (by omega)] at hab; exact hab)

set_option maxRecDepth 10000 in
theorem rof_spec (x : Nat) (hx : x < 18446744073709551616) : Ctr Tryz.prog 72 [V.one (Leaf.val (.int .u64 x))] (R.one (V.one (natL (limbs x)))) := by
  refine Ctr.of_body Tryz.func72 rfl Tryz.ntmps72 (Nat.le_of_ble_eq_true rfl) (fun w0 A0 => ?_)
  refine Tc_seq ?_
  refine Tc_region ?_
  refine Tl_q (JO_q rfl rfl (Jq_assign_nil rfl)) rfl ?_
  refine Tl_end ?_
  refine At_then ?_
  refine Tc_seq ?_
  refine Tc_region ?_
  refine Tl_q (JO_q rfl rfl (Jq_move rfl rfl)) rfl ?_
  refine Tl_q (JO_q rfl rfl (Jq_convert rfl rfl un62 us59 (r := ((x % 4294967296 : Nat) : Int)) (wu32 (by omega)))) rfl ?_
  refine Tl_q (JO_q rfl rfl (Jq_move rfl rfl)) rfl ?_
  refine Tl_q (JO_q rfl rfl (Jq_shr rfl rfl rfl (by decide) (r := ((x / 4294967296 : Nat) : Int)) (shr_nat x 32 rfl))) rfl ?_
  refine Tl_q (JO_q rfl rfl (Jq_convert rfl rfl un62 us59 (r := ((x / 4294967296 : Nat) : Int)) (wu32 (by omega)))) rfl ?_
  refine Tl_e (JO_e rfl rfl (Je_buildSlice rfl un22 ty62 tz62 rfl (by decide) (by decide) rfl (by decide) rfl)) rfl rfl ?_
  refine Tl_e (JO_e rfl rfl (Je_call rfl fn91 rfl (rmake_spec [x % 4294967296, x / 4294967296] (Small.cons (by omega) (Small.cons (by omega) Small.nil)) (by simp)))) rfl rfl ?_
  refine Tl_q (JO_q rfl rfl (Jq_assign rfl rfl)) rfl ?_
  refine Tl_end ?_
  refine At_then ?_
  exact Tc_ret1 (fun _ _ h => h) rfl rfl (by rw [show val [x % 4294967296, x / 4294967296] = x from by simp; omega])

set_option maxRecDepth 10000 in
theorem ruint_ge (la : List Nat) (hs : Small la) (hl : la.length ≤ 10000000000000) (hx : 18446744073709551616 ≤ val la) : Ctr Tryz.prog 102 [V.one (natL la)] (R.tup [V.one (Leaf.val (.int .u64 ((0 : Nat) : Int))), V.one (Leaf.val (.bool false))]) := by
  refine Ctr.of_body Tryz.func102 rfl Tryz.ntmps102 (Nat.le_of_ble_eq_true rfl) (fun w0 A0 => ?_)
  refine Tc_seq ?_
  refine Tc_region ?_
  refine Tl_q (JO_q rfl rfl (Jq_assign rfl rfl)) rfl ?_
  refine Tl_q (JO_q rfl rfl (Jq_assign rfl rfl)) rfl ?_
  refine Tl_end ?_
  refine At_then ?_
  refine Tc_seq ?_
  refine Tc_region ?_
  refine Tl_q (JO_q rfl rfl (Jq_move rfl rfl)) rfl ?_
  refine Tl_e (JO_e rfl rfl (Je_call rfl fn91 rfl (rmake_spec la hs hl))) rfl rfl ?_
  refine Tl_q (JO_q rfl rfl (Jq_assign rfl rfl)) rfl ?_
  refine Tl_end ?_
  refine At_then ?_
  refine Tc_seq ?_
  refine Tc_seq ?_
  have hv := val_limbs (val la); have hsl := small_limbs (val la)
  have hlen : (limbs (val la)).length ≤ 2 ↔ val la < 4294967296 ^ 2 := limbs_length_le
  generalize limbs (val la) = l at *
  refine Tc_region ?_
  refine Tl_q (JO_q rfl rfl (Jq_move rfl rfl)) rfl ?_
  refine Tl_q (JO_q rfl rfl (Jq_len rfl rfl un23)) rfl ?_
  refine Tl_end ?_
  refine At_then ?_
  refine Tc_block ?_
  refine Tc_seq ?_
  refine Tc_region ?_
  refine Tl_q (JO_q rfl rfl (Jq_eql rfl rfl rfl (b := false) (eF (by omega)))) rfl ?_
  refine Tl_q (JO_q rfl rfl (Jq_assign rfl rfl)) rfl ?_
  refine Tl_end ?_
  refine At_then ?_
  refine Tc_f rfl ?_
  refine Tc_seq ?_
  refine Tc_region ?_
  refine Tl_q (JO_q rfl rfl (Jq_eql rfl rfl rfl (b := false) (eF (by omega)))) rfl ?_
  refine Tl_q (JO_q rfl rfl (Jq_assign rfl rfl)) rfl ?_
  refine Tl_end ?_
  refine At_then ?_
  refine Tc_f rfl ?_
  refine Tc_seq ?_
  refine Tc_region ?_
  refine Tl_q (JO_q rfl rfl (Jq_eql rfl rfl rfl (b := false) (eF (by omega)))) rfl ?_
  refine Tl_q (JO_q rfl rfl (Jq_assign rfl rfl)) rfl ?_
  refine Tl_end ?_
  refine At_then ?_
  refine Tc_f rfl ?_
  refine Tc_skipA ?_
  refine At_block ?_
  refine At_then ?_
  refine Tc_seq ?_
  refine Tc_region ?_
  refine Tl_q (JO_q rfl rfl (Jq_assign rfl rfl)) rfl ?_
  refine Tl_q (JO_q rfl rfl (Jq_assign rfl rfl)) rfl ?_
  refine Tl_end ?_
  refine At_then ?_
  exact Tc_ret2 (fun _ _ h => h) rfl rfl rfl rfl

set_option maxRecDepth 10000 in
theorem ruint_lt (la : List Nat) (hs : Small la) (hl : la.length ≤ 10000000000000) (hx : val la < 18446744073709551616) : Ctr Tryz.prog 102 [V.one (natL la)] (R.tup [V.one (Leaf.val (.int .u64 ((val la : Nat) : Int))), V.one (Leaf.val (.bool true))]) := by
  refine Ctr.of_body Tryz.func102 rfl Tryz.ntmps102 (Nat.le_of_ble_eq_true rfl) (fun w0 A0 => ?_)
  refine Tc_seq ?_
  refine Tc_region ?_
  refine Tl_q (JO_q rfl rfl (Jq_assign rfl rfl)) rfl ?_
  refine Tl_q (JO_q rfl rfl (Jq_assign rfl rfl)) rfl ?_
  refine Tl_end ?_
  refine At_then ?_
  refine Tc_seq ?_
  refine Tc_region ?_
  refine Tl_q (JO_q rfl rfl (Jq_move rfl rfl)) rfl ?_
  refine Tl_e (JO_e rfl rfl (Je_call rfl fn91 rfl (rmake_spec la hs hl))) rfl rfl ?_
  refine Tl_q (JO_q rfl rfl (Jq_assign rfl rfl)) rfl ?_
  refine Tl_end ?_
  refine At_then ?_
  refine Tc_seq ?_
  refine Tc_seq ?_
  have hv := val_limbs (val la); have hsl := small_limbs (val la)
  have hlen : (limbs (val la)).length ≤ 2 ↔ val la < 4294967296 ^ 2 := limbs_length_le
  generalize limbs (val la) = l at *
  refine Tc_region ?_
  refine Tl_q (JO_q rfl rfl (Jq_move rfl rfl)) rfl ?_
  refine Tl_q (JO_q rfl rfl (Jq_len rfl rfl un23)) rfl ?_
  refine Tl_end ?_
  refine At_then ?_
  refine Tc_block ?_
  refine Tc_seq ?_
  refine Tc_region ?_
  by_cases h0 : l.length = 0
  · skip
    refine Tl_q (JO_q rfl rfl (Jq_eql rfl rfl rfl (b := true) (eT (by omega)))) rfl ?_
    refine Tl_q (JO_q rfl rfl (Jq_assign rfl rfl)) rfl ?_
    refine Tl_end ?_
    refine At_then ?_
    refine Tc_t rfl ?_
    refine Tc_seq ?_
    refine Tc_region ?_
    refine Tl_q (JO_q rfl rfl (Jq_assign rfl rfl)) rfl ?_
    refine Tl_q (JO_q rfl rfl (Jq_assign rfl rfl)) rfl ?_
    refine Tl_end ?_
    refine At_then ?_
    exact Tc_ret2 (fun _ _ h => h) rfl rfl rfl (by rw [← hv, List.eq_nil_of_length_eq_zero h0]; rfl)
  · skip
    refine Tl_q (JO_q rfl rfl (Jq_eql rfl rfl rfl (b := false) (eF (by omega)))) rfl ?_
    refine Tl_q (JO_q rfl rfl (Jq_assign rfl rfl)) rfl ?_
    refine Tl_end ?_
    refine At_then ?_
    refine Tc_f rfl ?_
    refine Tc_seq ?_
    refine Tc_region ?_
    by_cases h1 : l.length = 1
    · skip
      refine Tl_q (JO_q rfl rfl (Jq_eql rfl rfl rfl (b := true) (eT (by omega)))) rfl ?_
      refine Tl_q (JO_q rfl rfl (Jq_assign rfl rfl)) rfl ?_
      refine Tl_end ?_
      refine At_then ?_
      refine Tc_t rfl ?_
      refine Tc_seq ?_
      refine Tc_region ?_
      refine Tl_q (JO_q rfl rfl (Jq_move rfl rfl)) rfl ?_
      refine Tl_q (JO_q rfl rfl (Jq_index1 rfl rfl rfl un23 ty62 (by omega) (by omega) (get_u32i 0 (by omega) rfl))) rfl ?_
      refine Tl_q (JO_q rfl rfl (Jq_load_ref rfl rfl ty62)) rfl ?_
      refine Tl_q (JO_q rfl rfl (Jq_convert rfl rfl un59 us62 (r := ((l[0]'(by omega) : Nat) : Int)) (wu64 (by have := hsl.get 0 (by omega); omega)))) rfl ?_
      refine Tl_q (JO_q rfl rfl (Jq_assign rfl rfl)) rfl ?_
      refine Tl_q (JO_q rfl rfl (Jq_assign rfl rfl)) rfl ?_
      refine Tl_end ?_
      refine At_then ?_
      exact Tc_ret2 (fun _ _ h => h) rfl rfl rfl (by match l, h1, hv with
  | [d], _, hv => rw [← hv]; simp [val])
    · skip
      refine Tl_q (JO_q rfl rfl (Jq_eql rfl rfl rfl (b := false) (eF (by omega)))) rfl ?_
      refine Tl_q (JO_q rfl rfl (Jq_assign rfl rfl)) rfl ?_
      refine Tl_end ?_
      refine At_then ?_
      refine Tc_f rfl ?_
      refine Tc_seq ?_
      have h2 : l.length = 2 := by omega
      obtain ⟨p, q, rfl⟩ : ∃ p q, l = [p, q] := by
        match l, h2 with
        | [p, q], _ => exact ⟨p, q, rfl⟩
      have hp := hsl.head; have hq := hsl.tail.head
      refine Tc_region ?_
      refine Tl_q (JO_q rfl rfl (Jq_eql rfl rfl rfl (b := true) (eT rfl))) rfl ?_
      refine Tl_q (JO_q rfl rfl (Jq_assign rfl rfl)) rfl ?_
      refine Tl_end ?_
      refine At_then ?_
      refine Tc_t rfl ?_
      refine Tc_seq ?_
      refine Tc_drawK 0 [none, none, none, none, none, none, none, none, none, none, none, none] [] follows (by kernel_rfl) ?_
      refine DK_q (JO_q rfl rfl (Jq_move rfl rfl)) ?_
      refine DK_q (JO_q rfl rfl (Jq_index1 rfl rfl rfl un23 ty62 (by omega) (by simp) rfl)) ?_
      refine DK_q (JO_q rfl rfl (Jq_load_ref rfl rfl ty62)) ?_
      refine DK_q (JO_q rfl rfl (Jq_convert rfl rfl un59 us62 (r := ((p : Nat) : Int)) (wu64 (by omega)))) ?_
      refine DK_q (JO_q rfl rfl (Jq_move rfl rfl)) ?_
      refine DK_q (JO_q rfl rfl (Jq_index1 rfl rfl rfl un23 ty62 (by omega) (by simp) rfl)) ?_
      refine DK_q (JO_q rfl rfl (Jq_load_ref rfl rfl ty62)) ?_
      refine DK_q (JO_q rfl rfl (Jq_convert rfl rfl un59 us62 (r := ((q : Nat) : Int)) (wu64 (by omega)))) ?_
      refine DK_q (JO_q rfl rfl (Jq_shl rfl rfl rfl (by decide) (r := ((q * 2 ^ 32 : Nat) : Int)) (shl64 _ 32 rfl (by omega)))) ?_
      refine DK_q (JO_q rfl rfl (Jq_or rfl rfl rfl (r := ((p + q * 2 ^ 32 : Nat) : Int)) (or64' 32 (Nat.mul_mod_left _ _) (by omega) (by omega)))) ?_
      refine DK_q (JO_q rfl rfl (Jq_assign rfl rfl)) ?_
      refine DK_q (JO_q rfl rfl (Jq_assign rfl rfl)) ?_
      refine DK_nil ?_
      refine At_then ?_
      exact Tc_ret2 (fun _ _ h => h) rfl rfl rfl (by rw [← hv]; simp [val]; omega)

set_option maxRecDepth 10000 in
theorem rcmp_spec (a b : List Nat) (hsa : Small a) (hsb : Small b) : Ctr Tryz.prog 62 [V.one (natL a), V.one (natL b)] (R.one (V.one (Leaf.val (.int .i64 (cmpN (val a) (val b)))))) := by
  refine Ctr.of_body Tryz.func62 rfl Tryz.ntmps62 (Nat.le_of_ble_eq_true rfl) (fun w0 A0 => ?_)
  refine Tc_seq ?_
  refine Tc_len (s := 0) rfl (fun hma => ?_)
  refine Tc_len (s := 1) rfl (fun hmb => ?_)
  obtain ⟨mm, hmm⟩ : ∃ mm, max a.length b.length = mm := ⟨_, rfl⟩
  refine Tc_region ?_
  refine Tl_q (JO_q rfl rfl (Jq_assign rfl rfl)) rfl ?_
  refine Tl_end ?_
  refine At_then ?_
  refine Tc_seq ?_
  refine Tc_seq ?_
  refine Tc_region ?_
  refine Tl_q (JO_q rfl rfl (Jq_move rfl rfl)) rfl ?_
  refine Tl_q (JO_q rfl rfl (Jq_len rfl rfl un23)) rfl ?_
  refine Tl_q (JO_q rfl rfl (Jq_move rfl rfl)) rfl ?_
  refine Tl_q (JO_q rfl rfl (Jq_len rfl rfl un23)) rfl ?_
  refine Tl_q (JO_q rfl rfl (Jq_max rfl rfl rfl (r := ((mm : Nat) : Int)) (by split <;> omega))) rfl ?_
  refine Tl_q (JO_q rfl rfl (Jq_sub rfl rfl rfl (r := (mm : Int) - 1) (w64 (by omega) (by omega) (by omega)))) rfl ?_
  refine Tl_q (JO_q rfl rfl (Jq_assign rfl rfl)) rfl ?_
  refine Tl_end ?_
  refine At_then ?_
  refine Tc_block ?_
  refine Tc_loopR (fun m Γ H => ∃ (n : Nat), n = m ∧ Γ = [(0, some (D.v (V.one (natL a)))), (1, some (D.v (V.one (natL b)))), (5, some (D.int ((n : Int) - 1)))] ∧ H = [] ∧ n ≤ mm ∧ ∀ i, n ≤ i → a.getD i 0 = b.getD i 0) ⟨mm, rfl, rfl, rfl, Nat.le_refl _, fun i hi => by rw [getD_out (by omega), getD_out (by omega)]⟩ ⟨rfl, rfl, rfl, trivial⟩ ?_
  rintro m Γ H ⟨n, rfl, rfl, rfl, hnm, heq⟩
  refine Tc_seq ?_
  refine Tc_seq ?_
  refine Tc_region ?_
  refine Tl_q (JO_q rfl rfl (Jq_move rfl rfl)) rfl ?_
  by_cases hp : 0 < n
  · skip
    refine Tl_q (JO_q rfl rfl (Jq_geq rfl rfl rfl (b := true) (dT (by omega)))) rfl ?_
    refine Tl_end ?_
    refine At_then ?_
    refine Tc_t rfl ?_
    refine Tc_skipA ?_
    refine At_then ?_
    refine Tc_seq ?_
    refine Tc_block ?_
    refine Tc_seq ?_
    refine Tc_seq ?_
    have hn1 : ((n : Int) - 1) = ((n - 1 : Nat) : Int) := by omega
    have hn2 : n - 1 + 1 = n := by omega
    rw [hn1]
    refine Tc_region ?_
    refine Tl_q (JO_q rfl rfl (Jq_move rfl rfl)) rfl ?_
    refine Tl_q (JO_q rfl rfl (Jq_move rfl rfl)) rfl ?_
    refine Tl_e (JO_e rfl rfl (Je_call rfl fn90 rfl (limb_spec a (n - 1)))) rfl rfl ?_
    refine Tl_q (JO_q rfl rfl (Jq_move rfl rfl)) rfl ?_
    refine Tl_q (JO_q rfl rfl (Jq_move rfl rfl)) rfl ?_
    refine Tl_e (JO_e rfl rfl (Je_call rfl fn90 rfl (limb_spec b (n - 1)))) rfl rfl ?_
    by_cases hlt : a.getD (n - 1) 0 < b.getD (n - 1) 0
    · skip
      refine Tl_q (JO_q rfl rfl (Jq_lss rfl rfl rfl (b := true) (dT (by omega)))) rfl ?_
      refine Tl_end ?_
      refine At_then ?_
      refine Tc_t rfl ?_
      refine Tc_seq ?_
      refine Tc_region ?_
      refine Tl_q (JO_q rfl rfl (Jq_assign rfl rfl)) rfl ?_
      refine Tl_end ?_
      refine At_then ?_
      exact Tc_ret1 (fun _ _ h => h) rfl rfl (by rw [cmpN_lt (cmp_getD hsa (by rw [hn2]; exact heq) hlt)])
    · skip
      refine Tl_q (JO_q rfl rfl (Jq_lss rfl rfl rfl (b := false) (dF (by omega)))) rfl ?_
      refine Tl_end ?_
      refine At_then ?_
      refine Tc_f rfl ?_
      refine Tc_skipA ?_
      refine At_then ?_
      refine Tc_seq ?_
      refine Tc_region ?_
      refine Tl_q (JO_q rfl rfl (Jq_move rfl rfl)) rfl ?_
      refine Tl_q (JO_q rfl rfl (Jq_move rfl rfl)) rfl ?_
      refine Tl_e (JO_e rfl rfl (Je_call rfl fn90 rfl (limb_spec a (n - 1)))) rfl rfl ?_
      refine Tl_q (JO_q rfl rfl (Jq_move rfl rfl)) rfl ?_
      refine Tl_q (JO_q rfl rfl (Jq_move rfl rfl)) rfl ?_
      refine Tl_e (JO_e rfl rfl (Je_call rfl fn90 rfl (limb_spec b (n - 1)))) rfl rfl ?_
      by_cases hgt : b.getD (n - 1) 0 < a.getD (n - 1) 0
      · skip
        refine Tl_q (JO_q rfl rfl (Jq_gtr rfl rfl rfl (b := true) (dT (by omega)))) rfl ?_
        refine Tl_end ?_
        refine At_then ?_
        refine Tc_t rfl ?_
        refine Tc_seq ?_
        refine Tc_region ?_
        refine Tl_q (JO_q rfl rfl (Jq_assign rfl rfl)) rfl ?_
        refine Tl_end ?_
        refine At_then ?_
        exact Tc_ret1 (fun _ _ h => h) rfl rfl (by rw [cmpN_gt (cmp_getD hsb (by rw [hn2]; exact fun i hi => (heq i hi).symm) hgt)])
      · skip
        refine Tl_q (JO_q rfl rfl (Jq_gtr rfl rfl rfl (b := false) (dF (by omega)))) rfl ?_
        refine Tl_end ?_
        refine At_then ?_
        refine Tc_f rfl ?_
        refine Tc_skipA ?_
        refine At_block ?_
        refine At_then ?_
        refine Tc_region ?_
        refine Tl_q (JO_q rfl rfl (Jq_move rfl rfl)) rfl ?_
        refine Tl_q (JO_q rfl rfl (Jq_sub rfl rfl rfl (r := ((n - 1 : Nat) : Int) - 1) (w64 (by omega) (by omega) (by omega)))) rfl ?_
        refine Tl_q (JO_q rfl rfl (Jq_assign rfl rfl)) rfl ?_
        refine Tl_end ?_
        exact At_next (m' := n - 1) (by omega) ⟨n - 1, rfl, rfl, rfl, by omega, fun i hi => (if e : i = n - 1 then by subst e; omega else heq i (by omega))⟩ ⟨rfl, rfl, rfl, trivial⟩
  · skip
    refine Tl_q (JO_q rfl rfl (Jq_geq rfl rfl rfl (b := false) (dF (by omega)))) rfl ?_
    refine Tl_end ?_
    refine At_then ?_
    refine Tc_f rfl ?_
    refine Tc_exitA ?_
    refine At_then_exit ?_
    refine At_then_exit ?_
    refine At_block_exit ?_
    refine At_then ?_
    refine Tc_seq ?_
    refine Tc_region ?_
    refine Tl_q (JO_q rfl rfl (Jq_assign rfl rfl)) rfl ?_
    refine Tl_end ?_
    refine At_then ?_
    exact Tc_ret1 (fun _ _ h => h) rfl rfl (by rw [cmpN_eq (eq_getD (fun i hi => heq i (by omega)))])

set_option maxRecDepth 10000 in
theorem radd_spec (a b : List Nat) (hsa : Small a) (hsb : Small b) (hla0 : a.length ≤ 9000000000000) (hlb0 : b.length ≤ 9000000000000) : Ctr Tryz.prog 94 [V.one (natL a), V.one (natL b)] (R.one (V.one (natL (limbs (val a + val b))))) := by
  refine Ctr.of_body Tryz.func94 rfl Tryz.ntmps94 (Nat.le_of_ble_eq_true rfl) (fun w0 A0 => ?_)
  refine Tc_seq ?_
  refine Tc_region ?_
  refine Tl_q (JO_q rfl rfl (Jq_assign_nil rfl)) rfl ?_
  refine Tl_end ?_
  refine At_then ?_
  refine Tc_seq ?_
  refine Tc_region ?_
  refine Tl_nil_own (u := 62) (sz := 1) rfl rfl rfl rfl rfl ?_
  refine Tl_end ?_
  refine At_then ?_
  refine Tc_seq ?_
  refine Tc_region ?_
  refine Tl_q (JO_q rfl rfl (Jq_assign rfl rfl)) rfl ?_
  refine Tl_end ?_
  refine At_then ?_
  refine Tc_seq ?_
  refine Tc_seq ?_
  refine Tc_region ?_
  refine Tl_q (JO_q rfl rfl (Jq_assign rfl rfl)) rfl ?_
  refine Tl_end ?_
  refine At_then ?_
  refine Tc_block ?_
  refine Tc_loopR (fun m Γ H => ∃ (k : Nat) (out : List Nat) (c : Nat), a.length + b.length - k = m ∧ Γ = [(0, some (D.v (V.one (natL a)))), (1, some (D.v (V.one (natL b)))), (5, some (D.own 0 out.length)), (6, some (D.val (.int .u64 ((c : Nat) : Int)))), (7, some (D.int ((k : Nat) : Int)))] ∧ H = [some ⟨62, out.map u32L, some 1, none⟩] ∧ out.length = k ∧ (k ≤ a.length ∨ k ≤ b.length) ∧ Small out ∧ c ≤ 1 ∧ val out + c * 4294967296 ^ k = val (a.take k) + val (b.take k)) ⟨0, [], 0, rfl, rfl, rfl, rfl, .inl (Nat.zero_le _), Small.nil, Nat.zero_le _, rfl⟩ ⟨rfl, rfl, rfl, rfl, rfl, trivial⟩ ?_
  rintro m Γ H ⟨k, out, c, rfl, rfl, rfl, hol, hk, hos, hc, heq⟩
  have hak := hsa.getD k; have hbk := hsb.getD k
  refine Tc_seq ?_
  refine Tc_seq ?_
  refine Tc_region ?_
  refine Tl_q (JO_q rfl rfl (Jq_move rfl rfl)) rfl ?_
  refine Tl_q (JO_q rfl rfl (Jq_move rfl rfl)) rfl ?_
  refine Tl_q (JO_q rfl rfl (Jq_len rfl rfl un23)) rfl ?_
  by_cases hka : k < a.length
  · skip
    refine Tl_q (JO_q rfl rfl (Jq_lss rfl rfl rfl (b := true) (dT (by omega)))) rfl ?_
    refine Tl_q (JO_q rfl rfl (Jq_move rfl rfl)) rfl ?_
    refine Tl_q (JO_skip rfl rfl rfl) rfl ?_
    refine Tl_q (JO_skip rfl rfl rfl) rfl ?_
    refine Tl_q (JO_skip rfl rfl rfl) rfl ?_
    refine Tl_q (JO_skip rfl rfl rfl) rfl ?_
    refine Tl_q (JO_q rfl rfl (Jq_pick_t rfl rfl rfl)) rfl ?_
    refine Tl_end ?_
    refine At_then ?_
    refine Tc_t rfl ?_
    refine Tc_skipA ?_
    refine At_then ?_
    refine Tc_seq ?_
    refine Tc_block ?_
    refine Tc_seq ?_
    refine Tc_region ?_
    refine Tl_q (JO_q rfl rfl (Jq_move rfl rfl)) rfl ?_
    refine Tl_q (JO_q rfl rfl (Jq_move rfl rfl)) rfl ?_
    refine Tl_q (JO_q rfl rfl (Jq_move rfl rfl)) rfl ?_
    refine Tl_e (JO_e rfl rfl (Je_call rfl fn90 rfl (limb_spec a k))) rfl rfl ?_
    refine Tl_q (JO_q rfl rfl (Jq_convert rfl rfl un59 us62 (r := ((a.getD k 0 : Nat) : Int)) (wu64 (by omega)))) rfl ?_
    refine Tl_q (JO_q rfl rfl (Jq_move rfl rfl)) rfl ?_
    refine Tl_q (JO_q rfl rfl (Jq_move rfl rfl)) rfl ?_
    refine Tl_e (JO_e rfl rfl (Je_call rfl fn90 rfl (limb_spec b k))) rfl rfl ?_
    refine Tl_q (JO_q rfl rfl (Jq_convert rfl rfl un59 us62 (r := ((b.getD k 0 : Nat) : Int)) (wu64 (by omega)))) rfl ?_
    refine Tl_q (JO_q rfl rfl (Jq_add rfl rfl rfl (r := ((a.getD k 0 + b.getD k 0 : Nat) : Int)) (wu64 (by omega)))) rfl ?_
    refine Tl_q (JO_q rfl rfl (Jq_add rfl rfl rfl (r := ((c + (a.getD k 0 + b.getD k 0) : Nat) : Int)) (wu64 (by omega)))) rfl ?_
    refine Tl_q (JO_q rfl rfl (Jq_assign rfl rfl)) rfl ?_
    refine Tl_end ?_
    refine At_then ?_
    refine Tc_seq ?_
    refine Tc_region ?_
    refine Tl_q (JO_q rfl rfl (Jq_move rfl rfl)) rfl ?_
    refine Tl_q (JO_q rfl rfl (Jq_move rfl rfl)) rfl ?_
    refine Tl_q (JO_q rfl rfl (Jq_convert rfl rfl un62 us59 (r := (((c + (a.getD k 0 + b.getD k 0)) % 4294967296 : Nat) : Int)) (wu32 (by omega)))) rfl ?_
    refine Tl_e (JO_e rfl rfl (Je_buildSlice rfl un22 ty62 tz62 rfl (by decide) (by decide) rfl (by decide) rfl)) rfl rfl ?_
    obtain ⟨ti3, hi3, hz3, hs3, hb3⟩ := in62
    refine Tl_append rfl rfl rfl rfl rfl rfl rfl rfl rfl (by simp) rfl (by decide) un22 un22 hi3 hz3 hs3 rfl (by simp only [maxLen]; omega) (by rw [hb3]; omega) (nm := (out ++ [(c + (a.getD k 0 + b.getD k 0)) % 4294967296]).length) (by simp) (ls := ((out ++ [(c + (a.getD k 0 + b.getD k 0)) % 4294967296]).map u32L)) (by rw [List.map_append]; rfl) ?_
    refine Tl_q (JO_q rfl rfl (Jq_assign rfl rfl)) rfl ?_
    refine Tl_end ?_
    refine At_then ?_
    refine Tc_region ?_
    refine Tl_q (JO_q rfl rfl (Jq_move rfl rfl)) rfl ?_
    refine Tl_q (JO_q rfl rfl (Jq_shr rfl rfl rfl (by decide) (r := (((c + (a.getD k 0 + b.getD k 0)) / 4294967296 : Nat) : Int)) (shr_nat _ 32 rfl))) rfl ?_
    refine Tl_q (JO_q rfl rfl (Jq_assign rfl rfl)) rfl ?_
    refine Tl_end ?_
    refine At_block ?_
    refine At_then ?_
    refine Tc_region ?_
    refine Tl_q (JO_q rfl rfl (Jq_move rfl rfl)) rfl ?_
    refine Tl_q (JO_q rfl rfl (Jq_add rfl rfl rfl (r := ((k + 1 : Nat) : Int)) (w64 (by omega) (by omega) (by omega)))) rfl ?_
    refine Tl_q (JO_q rfl rfl (Jq_assign rfl rfl)) rfl ?_
    refine Tl_end ?_
    exact At_next (m' := a.length + b.length - (k + 1)) (by omega) ⟨k + 1, _, (c + (a.getD k 0 + b.getD k 0)) / 4294967296, rfl, rfl, rfl, by simp [hol], by omega, small_app1 hos (Nat.mod_lt _ (by decide)), by omega, add_app hol heq rfl⟩ ⟨rfl, rfl, rfl, rfl, rfl, trivial⟩
  · skip
    refine Tl_q (JO_q rfl rfl (Jq_lss rfl rfl rfl (b := false) (dF (by omega)))) rfl ?_
    refine Tl_q (JO_q rfl rfl (Jq_move rfl rfl)) rfl ?_
    refine Tl_q (JO_qg rfl rfl rfl rfl (Jq_move rfl rfl)) rfl ?_
    refine Tl_q (JO_qg rfl rfl rfl rfl (Jq_move rfl rfl)) rfl ?_
    refine Tl_q (JO_qg rfl rfl rfl rfl (Jq_len rfl rfl un23)) rfl ?_
    by_cases hkb : k < b.length
    · skip
      refine Tl_q (JO_qg rfl rfl rfl rfl (Jq_lss rfl rfl rfl (b := true) (dT (by omega)))) rfl ?_
      refine Tl_q (JO_q rfl rfl (Jq_pick_f rfl rfl rfl)) rfl ?_
      refine Tl_end ?_
      refine At_then ?_
      refine Tc_t rfl ?_
      refine Tc_skipA ?_
      refine At_then ?_
      refine Tc_seq ?_
      refine Tc_block ?_
      refine Tc_seq ?_
      refine Tc_region ?_
      refine Tl_q (JO_q rfl rfl (Jq_move rfl rfl)) rfl ?_
      refine Tl_q (JO_q rfl rfl (Jq_move rfl rfl)) rfl ?_
      refine Tl_q (JO_q rfl rfl (Jq_move rfl rfl)) rfl ?_
      refine Tl_e (JO_e rfl rfl (Je_call rfl fn90 rfl (limb_spec a k))) rfl rfl ?_
      refine Tl_q (JO_q rfl rfl (Jq_convert rfl rfl un59 us62 (r := ((a.getD k 0 : Nat) : Int)) (wu64 (by omega)))) rfl ?_
      refine Tl_q (JO_q rfl rfl (Jq_move rfl rfl)) rfl ?_
      refine Tl_q (JO_q rfl rfl (Jq_move rfl rfl)) rfl ?_
      refine Tl_e (JO_e rfl rfl (Je_call rfl fn90 rfl (limb_spec b k))) rfl rfl ?_
      refine Tl_q (JO_q rfl rfl (Jq_convert rfl rfl un59 us62 (r := ((b.getD k 0 : Nat) : Int)) (wu64 (by omega)))) rfl ?_
      refine Tl_q (JO_q rfl rfl (Jq_add rfl rfl rfl (r := ((a.getD k 0 + b.getD k 0 : Nat) : Int)) (wu64 (by omega)))) rfl ?_
      refine Tl_q (JO_q rfl rfl (Jq_add rfl rfl rfl (r := ((c + (a.getD k 0 + b.getD k 0) : Nat) : Int)) (wu64 (by omega)))) rfl ?_
      refine Tl_q (JO_q rfl rfl (Jq_assign rfl rfl)) rfl ?_
      refine Tl_end ?_
      refine At_then ?_
      refine Tc_seq ?_
      refine Tc_region ?_
      refine Tl_q (JO_q rfl rfl (Jq_move rfl rfl)) rfl ?_
      refine Tl_q (JO_q rfl rfl (Jq_move rfl rfl)) rfl ?_
      refine Tl_q (JO_q rfl rfl (Jq_convert rfl rfl un62 us59 (r := (((c + (a.getD k 0 + b.getD k 0)) % 4294967296 : Nat) : Int)) (wu32 (by omega)))) rfl ?_
      refine Tl_e (JO_e rfl rfl (Je_buildSlice rfl un22 ty62 tz62 rfl (by decide) (by decide) rfl (by decide) rfl)) rfl rfl ?_
      obtain ⟨ti5, hi5, hz5, hs5, hb5⟩ := in62
      refine Tl_append rfl rfl rfl rfl rfl rfl rfl rfl rfl (by simp) rfl (by decide) un22 un22 hi5 hz5 hs5 rfl (by simp only [maxLen]; omega) (by rw [hb5]; omega) (nm := (out ++ [(c + (a.getD k 0 + b.getD k 0)) % 4294967296]).length) (by simp) (ls := ((out ++ [(c + (a.getD k 0 + b.getD k 0)) % 4294967296]).map u32L)) (by rw [List.map_append]; rfl) ?_
      refine Tl_q (JO_q rfl rfl (Jq_assign rfl rfl)) rfl ?_
      refine Tl_end ?_
      refine At_then ?_
      refine Tc_region ?_
      refine Tl_q (JO_q rfl rfl (Jq_move rfl rfl)) rfl ?_
      refine Tl_q (JO_q rfl rfl (Jq_shr rfl rfl rfl (by decide) (r := (((c + (a.getD k 0 + b.getD k 0)) / 4294967296 : Nat) : Int)) (shr_nat _ 32 rfl))) rfl ?_
      refine Tl_q (JO_q rfl rfl (Jq_assign rfl rfl)) rfl ?_
      refine Tl_end ?_
      refine At_block ?_
      refine At_then ?_
      refine Tc_region ?_
      refine Tl_q (JO_q rfl rfl (Jq_move rfl rfl)) rfl ?_
      refine Tl_q (JO_q rfl rfl (Jq_add rfl rfl rfl (r := ((k + 1 : Nat) : Int)) (w64 (by omega) (by omega) (by omega)))) rfl ?_
      refine Tl_q (JO_q rfl rfl (Jq_assign rfl rfl)) rfl ?_
      refine Tl_end ?_
      exact At_next (m' := a.length + b.length - (k + 1)) (by omega) ⟨k + 1, _, (c + (a.getD k 0 + b.getD k 0)) / 4294967296, rfl, rfl, rfl, by simp [hol], by omega, small_app1 hos (Nat.mod_lt _ (by decide)), by omega, add_app hol heq rfl⟩ ⟨rfl, rfl, rfl, rfl, rfl, trivial⟩
    · skip
      refine Tl_q (JO_qg rfl rfl rfl rfl (Jq_lss rfl rfl rfl (b := false) (dF (by omega)))) rfl ?_
      refine Tl_q (JO_q rfl rfl (Jq_pick_f rfl rfl rfl)) rfl ?_
      refine Tl_end ?_
      refine At_then ?_
      refine Tc_f rfl ?_
      refine Tc_exitA ?_
      refine At_then_exit ?_
      refine At_then_exit ?_
      refine At_block_exit ?_
      refine At_then ?_
      refine Tc_seq ?_
      refine Tc_region ?_
      refine Tl_q (JO_q rfl rfl (Jq_move rfl rfl)) rfl ?_
      refine Tl_q (JO_q rfl rfl (Jq_move rfl rfl)) rfl ?_
      refine Tl_q (JO_q rfl rfl (Jq_convert rfl rfl un62 us59 (r := ((c : Nat) : Int)) (wu32 (by omega)))) rfl ?_
      refine Tl_e (JO_e rfl rfl (Je_buildSlice rfl un22 ty62 tz62 rfl (by decide) (by decide) rfl (by decide) rfl)) rfl rfl ?_
      obtain ⟨ti6, hi6, hz6, hs6, hb6⟩ := in62
      refine Tl_append rfl rfl rfl rfl rfl rfl rfl rfl rfl (by simp) rfl (by decide) un22 un22 hi6 hz6 hs6 rfl (by simp only [maxLen]; omega) (by rw [hb6]; omega) (nm := (out ++ [c]).length) (by simp) (ls := ((out ++ [c]).map u32L)) (by rw [List.map_append]; rfl) ?_
      refine Tl_share_nat 42 (out ++ [c]) rfl rfl rfl rfl (by simp) ?_
      refine Tl_e (JO_e rfl rfl (Je_call rfl fn91 rfl (rmake_spec (out ++ [c]) (small_app1 hos (by omega)) (by simp; omega)))) rfl rfl ?_
      refine Tl_q (JO_q rfl rfl (Jq_assign rfl rfl)) rfl ?_
      refine Tl_end ?_
      refine At_then ?_
      exact Tc_ret1 (fun _ _ h => h) rfl rfl (by rw [val_app1, hol, heq, val_take_all a k (by omega), val_take_all b k (by omega)])

set_option maxRecDepth 10000 in
theorem rsub_lt_spec (a b : List Nat) (hsa : Small a) (hsb : Small b) (hlt : val a < val b) : Ctr Tryz.prog 103 [V.one (natL a), V.one (natL b)] (R.tup [V.one nilL, V.one (Leaf.val (.int .i64 2))]) := by
  refine Ctr.of_body Tryz.func103 rfl Tryz.ntmps103 (Nat.le_of_ble_eq_true rfl) (fun w0 A0 => ?_)
  refine Tc_seq ?_
  refine Tc_region ?_
  refine Tl_q (JO_q rfl rfl (Jq_assign_nil rfl)) rfl ?_
  refine Tl_q (JO_q rfl rfl (Jq_assign rfl rfl)) rfl ?_
  refine Tl_end ?_
  refine At_then ?_
  refine Tc_seq ?_
  refine Tc_seq ?_
  refine Tc_region ?_
  refine Tl_q (JO_q rfl rfl (Jq_move rfl rfl)) rfl ?_
  refine Tl_q (JO_q rfl rfl (Jq_move rfl rfl)) rfl ?_
  refine Tl_e (JO_e rfl rfl (Je_call rfl fn62 rfl (rcmp_spec a b hsa hsb))) rfl rfl ?_
  refine Tl_q (JO_q rfl rfl (Jq_lss rfl rfl rfl (b := true) (dT (by rw [cmpN_lt hlt]; decide)))) rfl ?_
  refine Tl_end ?_
  refine At_then ?_
  refine Tc_t rfl ?_
  refine Tc_seq ?_
  refine Tc_region ?_
  refine Tl_q (JO_q rfl rfl (Jq_assign_nil rfl)) rfl ?_
  refine Tl_q (JO_q rfl rfl (Jq_assign rfl rfl)) rfl ?_
  refine Tl_end ?_
  refine At_then ?_
  exact Tc_ret2 (fun _ _ h => h) rfl rfl rfl rfl

set_option maxRecDepth 10000 in
theorem rsub_spec (a b : List Nat) (hsa : Small a) (hsb : Small b) (hla0 : a.length ≤ 9000000000000) (hge : val b ≤ val a) : Ctr Tryz.prog 103 [V.one (natL a), V.one (natL b)] (R.tup [V.one (natL (limbs (val a - val b))), V.one (Leaf.val (.int .i64 0))]) := by
  refine Ctr.of_body Tryz.func103 rfl Tryz.ntmps103 (Nat.le_of_ble_eq_true rfl) (fun w0 A0 => ?_)
  refine Tc_seq ?_
  refine Tc_region ?_
  refine Tl_q (JO_q rfl rfl (Jq_assign_nil rfl)) rfl ?_
  refine Tl_q (JO_q rfl rfl (Jq_assign rfl rfl)) rfl ?_
  refine Tl_end ?_
  refine At_then ?_
  refine Tc_seq ?_
  refine Tc_seq ?_
  refine Tc_region ?_
  refine Tl_q (JO_q rfl rfl (Jq_move rfl rfl)) rfl ?_
  refine Tl_q (JO_q rfl rfl (Jq_move rfl rfl)) rfl ?_
  refine Tl_e (JO_e rfl rfl (Je_call rfl fn62 rfl (rcmp_spec a b hsa hsb))) rfl rfl ?_
  refine Tl_q (JO_q rfl rfl (Jq_lss rfl rfl rfl (b := false) (dF (by unfold cmpN; rw [if_neg (by omega)]; split <;> decide)))) rfl ?_
  refine Tl_end ?_
  refine At_then ?_
  refine Tc_f rfl ?_
  refine Tc_skipA ?_
  refine At_then ?_
  refine Tc_seq ?_
  refine Tc_region ?_
  refine Tl_nil_own (u := 62) (sz := 1) rfl rfl rfl rfl rfl ?_
  refine Tl_end ?_
  refine At_then ?_
  refine Tc_seq ?_
  refine Tc_region ?_
  refine Tl_q (JO_q rfl rfl (Jq_assign rfl rfl)) rfl ?_
  refine Tl_end ?_
  refine At_then ?_
  refine Tc_seq ?_
  refine Tc_seq ?_
  refine Tc_region ?_
  refine Tl_q (JO_q rfl rfl (Jq_assign rfl rfl)) rfl ?_
  refine Tl_end ?_
  refine At_then ?_
  refine Tc_block ?_
  refine Tc_loopR (fun m Γ H => ∃ (k : Nat) (out : List Nat) (c : Nat), a.length - k = m ∧ Γ = [(0, some (D.v (V.one (natL a)))), (1, some (D.v (V.one (natL b)))), (6, some (D.own 0 out.length)), (7, some (D.val (.int .u64 ((c : Nat) : Int)))), (8, some (D.int ((k : Nat) : Int)))] ∧ H = [some ⟨62, out.map u32L, some 1, none⟩] ∧ out.length = k ∧ k ≤ a.length ∧ Small out ∧ c ≤ 1 ∧ val out + val (b.take k) = val (a.take k) + c * 4294967296 ^ k) ⟨0, [], 0, rfl, rfl, rfl, rfl, Nat.zero_le _, Small.nil, Nat.zero_le _, rfl⟩ ⟨rfl, rfl, rfl, rfl, rfl, trivial⟩ ?_
  rintro m Γ H ⟨k, out, c, rfl, rfl, rfl, hol, hk, hos, hc, heq⟩
  refine Tc_seq ?_
  refine Tc_seq ?_
  refine Tc_region ?_
  refine Tl_q (JO_q rfl rfl (Jq_move rfl rfl)) rfl ?_
  refine Tl_q (JO_q rfl rfl (Jq_move rfl rfl)) rfl ?_
  refine Tl_q (JO_q rfl rfl (Jq_len rfl rfl un23)) rfl ?_
  by_cases hka : k < a.length
  · skip
    refine Tl_q (JO_q rfl rfl (Jq_lss rfl rfl rfl (b := true) (dT (by omega)))) rfl ?_
    refine Tl_end ?_
    refine At_then ?_
    refine Tc_t rfl ?_
    refine Tc_skipA ?_
    refine At_then ?_
    refine Tc_seq ?_
    refine Tc_block ?_
    refine Tc_seq ?_
    have hak := hsa.getD k; have hbk := hsb.getD k
    refine Tc_region ?_
    refine Tl_q (JO_q rfl rfl (Jq_move rfl rfl)) rfl ?_
    refine Tl_q (JO_q rfl rfl (Jq_move rfl rfl)) rfl ?_
    refine Tl_e (JO_e rfl rfl (Je_call rfl fn90 rfl (limb_spec a k))) rfl rfl ?_
    refine Tl_q (JO_q rfl rfl (Jq_convert rfl rfl un59 us62 (r := ((a.getD k 0 : Nat) : Int)) (wu64 (by omega)))) rfl ?_
    refine Tl_q (JO_q rfl rfl (Jq_move rfl rfl)) rfl ?_
    refine Tl_q (JO_q rfl rfl (Jq_move rfl rfl)) rfl ?_
    refine Tl_e (JO_e rfl rfl (Je_call rfl fn90 rfl (limb_spec b k))) rfl rfl ?_
    refine Tl_q (JO_q rfl rfl (Jq_convert rfl rfl un59 us62 (r := ((b.getD k 0 : Nat) : Int)) (wu64 (by omega)))) rfl ?_
    refine Tl_q (JO_q rfl rfl (Jq_move rfl rfl)) rfl ?_
    refine Tl_q (JO_q rfl rfl (Jq_add rfl rfl rfl (r := ((b.getD k 0 + c : Nat) : Int)) (wu64 (by omega)))) rfl ?_
    refine Tl_q (JO_q rfl rfl (Jq_assign rfl rfl)) rfl ?_
    refine Tl_q (JO_q rfl rfl (Jq_assign rfl rfl)) rfl ?_
    refine Tl_end ?_
    refine At_then ?_
    refine Tc_seq ?_
    refine Tc_region ?_
    refine Tl_q (JO_q rfl rfl (Jq_assign rfl rfl)) rfl ?_
    refine Tl_end ?_
    refine At_then ?_
    refine Tc_seq ?_
    refine Tc_seq ?_
    refine Tc_region ?_
    refine Tl_q (JO_q rfl rfl (Jq_move rfl rfl)) rfl ?_
    refine Tl_q (JO_q rfl rfl (Jq_move rfl rfl)) rfl ?_
    by_cases hbr : a.getD k 0 < b.getD k 0 + c
    · skip
      refine Tl_q (JO_q rfl rfl (Jq_lss rfl rfl rfl (b := true) (dT (by omega)))) rfl ?_
      refine Tl_end ?_
      refine At_then ?_
      refine Tc_t rfl ?_
      refine Tc_seq ?_
      refine Tc_region ?_
      refine Tl_q (JO_q rfl rfl (Jq_move rfl rfl)) rfl ?_
      refine Tl_q (JO_q rfl rfl (Jq_add rfl rfl rfl (r := ((4294967296 + a.getD k 0 : Nat) : Int)) (wu64 (by omega)))) rfl ?_
      refine Tl_q (JO_q rfl rfl (Jq_assign rfl rfl)) rfl ?_
      refine Tl_end ?_
      refine At_then ?_
      refine Tc_region ?_
      refine Tl_q (JO_q rfl rfl (Jq_assign rfl rfl)) rfl ?_
      refine Tl_end ?_
      refine At_then ?_
      refine Tc_region ?_
      refine Tl_q (JO_q rfl rfl (Jq_move rfl rfl)) rfl ?_
      refine Tl_q (JO_q rfl rfl (Jq_move rfl rfl)) rfl ?_
      refine Tl_q (JO_q rfl rfl (Jq_move rfl rfl)) rfl ?_
      refine Tl_q (JO_q rfl rfl (Jq_sub rfl rfl rfl (r := ((4294967296 + a.getD k 0 - (b.getD k 0 + c) : Nat) : Int)) (wu64 (by omega)))) rfl ?_
      refine Tl_q (JO_q rfl rfl (Jq_convert rfl rfl un62 us59 (r := ((4294967296 + a.getD k 0 - (b.getD k 0 + c) : Nat) : Int)) (wu32 (by omega)))) rfl ?_
      refine Tl_e (JO_e rfl rfl (Je_buildSlice rfl un22 ty62 tz62 rfl (by decide) (by decide) rfl (by decide) rfl)) rfl rfl ?_
      obtain ⟨ti4, hi4, hz4, hs4, hb4⟩ := in62
      refine Tl_append rfl rfl rfl rfl rfl rfl rfl rfl rfl (by simp) rfl (by decide) un22 un22 hi4 hz4 hs4 rfl (by simp only [maxLen]; omega) (by rw [hb4]; omega) (nm := (out ++ [4294967296 + a.getD k 0 - (b.getD k 0 + c)]).length) (by simp) (ls := ((out ++ [4294967296 + a.getD k 0 - (b.getD k 0 + c)]).map u32L)) (by rw [List.map_append]; rfl) ?_
      refine Tl_q (JO_q rfl rfl (Jq_assign rfl rfl)) rfl ?_
      refine Tl_end ?_
      refine At_block ?_
      refine At_then ?_
      refine Tc_region ?_
      refine Tl_q (JO_q rfl rfl (Jq_move rfl rfl)) rfl ?_
      refine Tl_q (JO_q rfl rfl (Jq_add rfl rfl rfl (r := ((k + 1 : Nat) : Int)) (w64 (by omega) (by omega) (by omega)))) rfl ?_
      refine Tl_q (JO_q rfl rfl (Jq_assign rfl rfl)) rfl ?_
      refine Tl_end ?_
      exact At_next (m' := a.length - (k + 1)) (by omega) ⟨k + 1, _, 1, rfl, rfl, rfl, by simp [hol], by omega, small_app1 hos (by omega), by omega, sub_app hol heq (by omega)⟩ ⟨rfl, rfl, rfl, rfl, rfl, trivial⟩
    · skip
      refine Tl_q (JO_q rfl rfl (Jq_lss rfl rfl rfl (b := false) (dF (by omega)))) rfl ?_
      refine Tl_end ?_
      refine At_then ?_
      refine Tc_f rfl ?_
      refine Tc_skipA ?_
      refine At_then ?_
      refine Tc_region ?_
      refine Tl_q (JO_q rfl rfl (Jq_move rfl rfl)) rfl ?_
      refine Tl_q (JO_q rfl rfl (Jq_move rfl rfl)) rfl ?_
      refine Tl_q (JO_q rfl rfl (Jq_move rfl rfl)) rfl ?_
      refine Tl_q (JO_q rfl rfl (Jq_sub rfl rfl rfl (r := ((a.getD k 0 - (b.getD k 0 + c) : Nat) : Int)) (wu64 (by omega)))) rfl ?_
      refine Tl_q (JO_q rfl rfl (Jq_convert rfl rfl un62 us59 (r := ((a.getD k 0 - (b.getD k 0 + c) : Nat) : Int)) (wu32 (by omega)))) rfl ?_
      refine Tl_e (JO_e rfl rfl (Je_buildSlice rfl un22 ty62 tz62 rfl (by decide) (by decide) rfl (by decide) rfl)) rfl rfl ?_
      obtain ⟨ti5, hi5, hz5, hs5, hb5⟩ := in62
      refine Tl_append rfl rfl rfl rfl rfl rfl rfl rfl rfl (by simp) rfl (by decide) un22 un22 hi5 hz5 hs5 rfl (by simp only [maxLen]; omega) (by rw [hb5]; omega) (nm := (out ++ [a.getD k 0 - (b.getD k 0 + c)]).length) (by simp) (ls := ((out ++ [a.getD k 0 - (b.getD k 0 + c)]).map u32L)) (by rw [List.map_append]; rfl) ?_
      refine Tl_q (JO_q rfl rfl (Jq_assign rfl rfl)) rfl ?_
      refine Tl_end ?_
      refine At_block ?_
      refine At_then ?_
      refine Tc_region ?_
      refine Tl_q (JO_q rfl rfl (Jq_move rfl rfl)) rfl ?_
      refine Tl_q (JO_q rfl rfl (Jq_add rfl rfl rfl (r := ((k + 1 : Nat) : Int)) (w64 (by omega) (by omega) (by omega)))) rfl ?_
      refine Tl_q (JO_q rfl rfl (Jq_assign rfl rfl)) rfl ?_
      refine Tl_end ?_
      exact At_next (m' := a.length - (k + 1)) (by omega) ⟨k + 1, _, 0, rfl, rfl, rfl, by simp [hol], by omega, small_app1 hos (by omega), by omega, sub_app hol heq (by omega)⟩ ⟨rfl, rfl, rfl, rfl, rfl, trivial⟩
  · skip
    refine Tl_q (JO_q rfl rfl (Jq_lss rfl rfl rfl (b := false) (dF (by omega)))) rfl ?_
    refine Tl_end ?_
    refine At_then ?_
    refine Tc_f rfl ?_
    refine Tc_exitA ?_
    refine At_then_exit ?_
    refine At_then_exit ?_
    refine At_block_exit ?_
    refine At_then ?_
    refine Tc_seq ?_
    have hke : k = a.length := by omega
    subst hke
    refine Tc_region ?_
    refine Tl_q (JO_q rfl rfl (Jq_move rfl rfl)) rfl ?_
    refine Tl_share_nat 43 (out) rfl rfl rfl rfl rfl ?_
    refine Tl_e (JO_e rfl rfl (Je_call rfl fn91 rfl (rmake_spec out hos (by omega)))) rfl rfl ?_
    refine Tl_q (JO_q rfl rfl (Jq_assign rfl rfl)) rfl ?_
    refine Tl_q (JO_q rfl rfl (Jq_assign rfl rfl)) rfl ?_
    refine Tl_end ?_
    refine At_then ?_
    exact Tc_ret2 (fun _ _ h => h) rfl rfl rfl (by rw [sub_end hsa hos (by omega) hge heq])

theorem radd_w (a b : List Nat) (hsa : Small a) (hsb : Small b) (hla0 : a.length ≤ 9000000000000) (hlb0 : b.length ≤ 9000000000000) (m n : Nat) (hm : val a = m) (hn : val b = n) : Ctr Tryz.prog 94 [V.one (natL a), V.one (natL b)] (R.one (V.one (natL (limbs (m + n))))) := by
  subst hm; subst hn
  exact radd_spec a b hsa hsb hla0 hlb0

theorem rcmp_w (a b : List Nat) (hsa : Small a) (hsb : Small b) (m n : Nat) (hm : val a = m) (hn : val b = n) : Ctr Tryz.prog 62 [V.one (natL a), V.one (natL b)] (R.one (V.one (Leaf.val (.int .i64 (cmpN m n))))) := by
  subst hm; subst hn
  exact rcmp_spec a b hsa hsb

theorem rsub_w (a b : List Nat) (hsa : Small a) (hsb : Small b) (hla0 : a.length ≤ 9000000000000) (m n : Nat) (hm : val a = m) (hn : val b = n) (hge : n ≤ m) : Ctr Tryz.prog 103 [V.one (natL a), V.one (natL b)] (R.tup [V.one (natL (limbs (m - n))), V.one (Leaf.val (.int .i64 0))]) := by
  subst hm; subst hn; exact rsub_spec a b hsa hsb hla0 hge

theorem rsub_ltw (a b : List Nat) (hsa : Small a) (hsb : Small b) (m n : Nat) (hm : val a = m) (hn : val b = n) (hlt : m < n) : Ctr Tryz.prog 103 [V.one (natL a), V.one (natL b)] (R.tup [V.one nilL, V.one (Leaf.val (.int .i64 2))]) := by
  subst hm; subst hn; exact rsub_lt_spec a b hsa hsb hlt

set_option maxRecDepth 10000 in
theorem rmul_spec (a b : List Nat) (hsa : Small a) (hsb : Small b) (hla0 : a.length ≤ 4000000000000) (hlb0 : b.length ≤ 4000000000000) : Ctr Tryz.prog 63 [V.one (natL a), V.one (natL b)] (R.one (V.one (natL (limbs (val a * val b))))) := by
  refine Ctr.of_body Tryz.func63 rfl Tryz.ntmps63 (Nat.le_of_ble_eq_true rfl) (fun w0 A0 => ?_)
  refine Tc_seq ?_
  refine Tc_region ?_
  refine Tl_q (JO_q rfl rfl (Jq_assign_nil rfl)) rfl ?_
  refine Tl_end ?_
  refine At_then ?_
  refine Tc_seq ?_
  refine Tc_region ?_
  refine Tl_q (JO_q rfl rfl (Jq_move rfl rfl)) rfl ?_
  refine Tl_q (JO_q rfl rfl (Jq_len rfl rfl un23)) rfl ?_
  refine Tl_q (JO_q rfl rfl (Jq_move rfl rfl)) rfl ?_
  refine Tl_q (JO_q rfl rfl (Jq_len rfl rfl un23)) rfl ?_
  refine Tl_q (JO_q rfl rfl (Jq_add rfl rfl rfl (r := ((a.length + b.length : Nat) : Int)) (w64 (by omega) (by omega) (by omega)))) rfl ?_
  refine Tl_q (JO_q rfl rfl (Jq_add rfl rfl rfl (r := ((a.length + b.length + 1 : Nat) : Int)) (w64 (by omega) (by omega) (by omega)))) rfl ?_
  obtain ⟨ti1, hi1, hz1, hs1, hb1⟩ := in62
  refine Tl_e (JO_e rfl rfl (Je_make (i := 0) (n := a.length + b.length + 1) (ls := ((List.replicate (a.length + b.length + 1) 0).map u32L)) rfl rfl rfl un22 hi1 hz1 hs1 (by decide) rfl (by decide) rfl (by rw [hb1]; omega) (by simp only [maxLen]; omega) (zc_u32 _) rfl)) rfl rfl ?_
  refine Tl_q (JO_q rfl rfl (Jq_assign rfl rfl)) rfl ?_
  refine Tl_end ?_
  refine At_then ?_
  refine Tc_seq ?_
  refine Tc_seq ?_
  refine Tc_region ?_
  refine Tl_q (JO_q rfl rfl (Jq_assign rfl rfl)) rfl ?_
  refine Tl_end ?_
  refine At_then ?_
  refine Tc_block ?_
  refine Tc_loopR (fun m Γ H => ∃ (i : Nat) (out : List Nat), a.length - i = m ∧ Γ = [(0, some (D.v (V.one (natL a)))), (1, some (D.v (V.one (natL b)))), (5, some (D.own 0 (a.length + b.length + 1))), (6, some (D.int ((i : Nat) : Int)))] ∧ H = [some ⟨62, out.map u32L, some 1, none⟩] ∧ i ≤ a.length ∧ out.length = a.length + b.length + 1 ∧ Small out ∧ val out = val (a.take i) * val b) ⟨0, List.replicate (a.length + b.length + 1) 0, rfl, rfl, rfl, Nat.zero_le _, by simp, Small.replicate _, by simp [val_replicate]⟩ ⟨rfl, rfl, rfl, rfl, trivial⟩ ?_
  rintro m Γ H ⟨i, out, rfl, rfl, rfl, hile, hol, hos, heq⟩
  refine Tc_seq ?_
  refine Tc_seq ?_
  refine Tc_region ?_
  refine Tl_q (JO_q rfl rfl (Jq_move rfl rfl)) rfl ?_
  refine Tl_q (JO_q rfl rfl (Jq_move rfl rfl)) rfl ?_
  refine Tl_q (JO_q rfl rfl (Jq_len rfl rfl un23)) rfl ?_
  by_cases hi : i < a.length
  · skip
    refine Tl_q (JO_q rfl rfl (Jq_lss rfl rfl rfl (b := true) (dT (by omega)))) rfl ?_
    refine Tl_end ?_
    refine At_then ?_
    refine Tc_t rfl ?_
    refine Tc_skipA ?_
    refine At_then ?_
    refine Tc_seq ?_
    refine Tc_block ?_
    refine Tc_seq ?_
    have hai := hsa.get i hi
    refine Tc_region ?_
    refine Tl_q (JO_q rfl rfl (Jq_assign rfl rfl)) rfl ?_
    refine Tl_end ?_
    refine At_then ?_
    refine Tc_seq ?_
    refine Tc_region ?_
    refine Tl_q (JO_q rfl rfl (Jq_assign rfl rfl)) rfl ?_
    refine Tl_end ?_
    refine At_then ?_
    refine Tc_block ?_
    refine Tc_loopR (fun m Γ H => ∃ (k : Nat) (o : List Nat) (c : Nat), b.length + 1 - k = m ∧ Γ = [(0, some (D.v (V.one (natL a)))), (1, some (D.v (V.one (natL b)))), (5, some (D.own 0 (a.length + b.length + 1))), (6, some (D.int ((i : Nat) : Int))), (7, some (D.val (.int .u64 ((c : Nat) : Int)))), (8, some (D.int ((k : Nat) : Int)))] ∧ H = [some ⟨62, o.map u32L, some 1, none⟩] ∧ k ≤ b.length + 1 ∧ o.length = a.length + b.length + 1 ∧ Small o ∧ c < 4294967296 ∧ val o + c * 4294967296 ^ (i + k) = val (a.take i) * val b + 4294967296 ^ i * (a[i] * val (b.take k))) ⟨0, out, 0, rfl, rfl, rfl, Nat.zero_le _, hol, hos, by omega, by simp [heq]⟩ ⟨rfl, rfl, rfl, rfl, rfl, rfl, trivial⟩ ?_
    rintro m Γ H ⟨k, o, c, rfl, rfl, rfl, hkle, hoo1, hoo, hc, hq⟩
    refine Tc_seq ?_
    refine Tc_seq ?_
    refine Tc_region ?_
    refine Tl_q (JO_q rfl rfl (Jq_move rfl rfl)) rfl ?_
    refine Tl_q (JO_q rfl rfl (Jq_move rfl rfl)) rfl ?_
    refine Tl_q (JO_q rfl rfl (Jq_len rfl rfl un23)) rfl ?_
    by_cases hk : k ≤ b.length
    · skip
      refine Tl_q (JO_q rfl rfl (Jq_leq rfl rfl rfl (b := true) (dT (by omega)))) rfl ?_
      refine Tl_end ?_
      refine At_then ?_
      refine Tc_t rfl ?_
      refine Tc_skipA ?_
      refine At_then ?_
      refine Tc_seq ?_
      refine Tc_block ?_
      refine Tc_seq ?_
      have hbk := hsb.getD k; have hok := hoo.get (i + k) (by omega)
      have hm := mul_carry hc hai hbk hok
      have hm2 := hm.1
      refine Tc_drawK 0 [none, none, none, none, none, none, none, none, none, none, none, none, none, none, none, none, none, none, none, none, none] [] follows (by kernel_rfl) ?_
      refine DK_q (JO_q rfl rfl (Jq_move rfl rfl)) ?_
      refine DK_q (JO_q rfl rfl (Jq_move rfl rfl)) ?_
      refine DK_q (JO_q rfl rfl (Jq_move rfl rfl)) ?_
      refine DK_q (JO_q rfl rfl (Jq_index1 rfl rfl rfl un23 ty62 (by omega) (by omega) (get_u32 hi))) ?_
      refine DK_q (JO_q rfl rfl (Jq_load_ref rfl rfl ty62)) ?_
      refine DK_q (JO_q rfl rfl (Jq_convert rfl rfl un59 us62 (r := ((a[i]'hi : Nat) : Int)) (wu64 (by omega)))) ?_
      refine DK_q (JO_q rfl rfl (Jq_move rfl rfl)) ?_
      refine DK_q (JO_q rfl rfl (Jq_move rfl rfl)) ?_
      refine DK_c rfl rfl (Jd_call rfl fn90 rfl (limb_spec b k)) ?_
      refine DK_q (JO_q rfl rfl (Jq_convert rfl rfl un59 us62 (r := ((b.getD k 0 : Nat) : Int)) (wu64 (by omega)))) ?_
      refine DK_q (JO_q rfl rfl (Jq_mul rfl rfl rfl (r := ((a[i]'hi * b.getD k 0 : Nat) : Int)) (wu64 (by rw [← Int.natCast_mul]; omega)))) ?_
      refine DK_q (JO_q rfl rfl (Jq_move rfl rfl)) ?_
      refine DK_q (JO_q rfl rfl (Jq_move rfl rfl)) ?_
      refine DK_q (JO_q rfl rfl (Jq_move rfl rfl)) ?_
      refine DK_q (JO_q rfl rfl (Jq_add rfl rfl rfl (r := ((i + k : Nat) : Int)) (w64 (by omega) (by omega) (by omega)))) ?_
      refine DK_q (JO_q rfl rfl (Jq_index_own rfl rfl rfl rfl (by decide) (by simp [hoo1]) (by decide) un22 ty62 (by omega) (by omega) (off := i + k) (by omega))) ?_
      refine DK_q (JO_q rfl rfl (Jq_load rfl rfl rfl (by decide) ty62 (get_own (by omega)))) ?_
      refine DK_q (JO_q rfl rfl (Jq_convert rfl rfl un59 us62 (r := ((o[i + k]'(by omega) : Nat) : Int)) (wu64 (by omega)))) ?_
      refine DK_q (JO_q rfl rfl (Jq_add rfl rfl rfl (r := ((a[i]'hi * b.getD k 0 + o[i + k]'(by omega) : Nat) : Int)) (wu64 (by omega)))) ?_
      refine DK_q (JO_q rfl rfl (Jq_add rfl rfl rfl (r := ((c + (a[i]'hi * b.getD k 0 + o[i + k]'(by omega)) : Nat) : Int)) (wu64 (by omega)))) ?_
      refine DK_q (JO_q rfl rfl (Jq_assign rfl rfl)) ?_
      refine DK_nil ?_
      refine At_then ?_
      refine Tc_seq ?_
      refine Tc_region ?_
      refine Tl_q (JO_q rfl rfl (Jq_move rfl rfl)) rfl ?_
      refine Tl_q (JO_q rfl rfl (Jq_move rfl rfl)) rfl ?_
      refine Tl_q (JO_q rfl rfl (Jq_move rfl rfl)) rfl ?_
      refine Tl_q (JO_q rfl rfl (Jq_add rfl rfl rfl (r := ((i + k : Nat) : Int)) (w64 (by omega) (by omega) (by omega)))) rfl ?_
      refine Tl_q (JO_q rfl rfl (Jq_move rfl rfl)) rfl ?_
      refine Tl_q (JO_q rfl rfl (Jq_convert rfl rfl un62 us59 (r := (((c + (a[i]'hi * b.getD k 0 + o[i + k]'(by omega))) % 4294967296 : Nat) : Int)) (wu32 (by omega)))) rfl ?_
      refine Tl_q (JO_q rfl rfl (Jq_index_own rfl rfl rfl rfl (by decide) (by simp [hoo1]) (by decide) un22 ty62 (by omega) (by omega) (off := i + k) (by omega))) rfl ?_
      refine Tl_e (JO_e rfl rfl (Je_store (ls := ((o.set (i + k) ((c + (a[i]'hi * b.getD k 0 + o[i + k]'(by omega))) % 4294967296)).map u32L)) rfl rfl rfl rfl ty62 rfl (by decide) (by simp; omega) (splice_u32 (by omega)))) rfl rfl ?_
      refine Tl_end ?_
      refine At_then ?_
      refine Tc_region ?_
      refine Tl_q (JO_q rfl rfl (Jq_move rfl rfl)) rfl ?_
      refine Tl_q (JO_q rfl rfl (Jq_shr rfl rfl rfl (by decide) (r := (((c + (a[i]'hi * b.getD k 0 + o[i + k]'(by omega))) / 4294967296 : Nat) : Int)) (shr_nat _ 32 rfl))) rfl ?_
      refine Tl_q (JO_q rfl rfl (Jq_assign rfl rfl)) rfl ?_
      refine Tl_end ?_
      refine At_block ?_
      refine At_then ?_
      refine Tc_region ?_
      refine Tl_q (JO_q rfl rfl (Jq_move rfl rfl)) rfl ?_
      refine Tl_q (JO_q rfl rfl (Jq_add rfl rfl rfl (r := ((k + 1 : Nat) : Int)) (w64 (by omega) (by omega) (by omega)))) rfl ?_
      refine Tl_q (JO_q rfl rfl (Jq_assign rfl rfl)) rfl ?_
      refine Tl_end ?_
      exact At_next (m' := b.length + 1 - (k + 1)) (by omega) ⟨k + 1, _, _, rfl, rfl, rfl, by omega, by simp [hoo1], hoo.set _ _ (by omega), hm.2.1, mul_stepD (by omega) _ hq⟩ ⟨rfl, rfl, rfl, rfl, rfl, rfl, trivial⟩
    · skip
      refine Tl_q (JO_q rfl rfl (Jq_leq rfl rfl rfl (b := false) (dF (by omega)))) rfl ?_
      refine Tl_end ?_
      refine At_then ?_
      refine Tc_f rfl ?_
      refine Tc_exitA ?_
      refine At_then_exit ?_
      refine At_then_exit ?_
      refine At_block_exit ?_
      refine At_block ?_
      refine At_then ?_
      refine Tc_region ?_
      refine Tl_q (JO_q rfl rfl (Jq_move rfl rfl)) rfl ?_
      refine Tl_q (JO_q rfl rfl (Jq_add rfl rfl rfl (r := ((i + 1 : Nat) : Int)) (w64 (by omega) (by omega) (by omega)))) rfl ?_
      refine Tl_q (JO_q rfl rfl (Jq_assign rfl rfl)) rfl ?_
      refine Tl_end ?_
      have hke : k = b.length + 1 := by omega
      subst hke
      exact At_next (m' := a.length - (i + 1)) (by omega) ⟨i + 1, _, rfl, rfl, rfl, by omega, hoo1, hoo, mul_end hsa hsb hi hq⟩ ⟨rfl, rfl, rfl, rfl, trivial⟩
  · skip
    refine Tl_q (JO_q rfl rfl (Jq_lss rfl rfl rfl (b := false) (dF (by omega)))) rfl ?_
    refine Tl_end ?_
    refine At_then ?_
    refine Tc_f rfl ?_
    refine Tc_exitA ?_
    refine At_then_exit ?_
    refine At_then_exit ?_
    refine At_block_exit ?_
    refine At_then ?_
    refine Tc_seq ?_
    refine Tc_region ?_
    refine Tl_q (JO_q rfl rfl (Jq_move rfl rfl)) rfl ?_
    refine Tl_share_nat 57 (out) rfl rfl rfl rfl (by omega) ?_
    refine Tl_e (JO_e rfl rfl (Je_call rfl fn91 rfl (rmake_spec out hos (by omega)))) rfl rfl ?_
    refine Tl_q (JO_q rfl rfl (Jq_assign rfl rfl)) rfl ?_
    refine Tl_end ?_
    refine At_then ?_
    exact Tc_ret1 (fun _ _ h => h) rfl rfl (by rw [heq, val_take_all a _ (by omega)])

set_option maxRecDepth 10000 in
theorem rshl_spec (a : List Nat) (k : Nat) (hsa : Small a) (hk : k ≤ 4194304) (hla0 : a.length ≤ 9000000000000) : Ctr Tryz.prog 66 [V.one (natL a), V.one (Leaf.val (.int .i64 ((k : Nat) : Int)))] (R.one (V.one (natL (limbs (val a * 2 ^ k))))) := by
  refine Ctr.of_body Tryz.func66 rfl Tryz.ntmps66 (Nat.le_of_ble_eq_true rfl) (fun w0 A0 => ?_)
  refine Tc_seq ?_
  refine Tc_region ?_
  refine Tl_q (JO_q rfl rfl (Jq_assign_nil rfl)) rfl ?_
  refine Tl_end ?_
  refine At_then ?_
  refine Tc_seq ?_
  refine Tc_region ?_
  refine Tl_q (JO_q rfl rfl (Jq_move rfl rfl)) rfl ?_
  refine Tl_q (JO_q rfl rfl (Jq_quo rfl rfl rfl (by decide) (r := ((k / 32 : Nat) : Int)) (w64 (tdivN k 32) (by omega) (by omega)))) rfl ?_
  obtain ⟨ti1, hi1, hz1, hs1, hb1⟩ := in62
  refine Tl_e (JO_e rfl rfl (Je_make (i := 0) (n := k / 32) (ls := ((List.replicate (k / 32) 0).map u32L)) rfl rfl rfl un22 hi1 hz1 hs1 (by decide) rfl (by decide) rfl (by rw [hb1]; omega) (by simp only [maxLen]; omega) (zc_u32 _) rfl)) rfl rfl ?_
  refine Tl_q (JO_q rfl rfl (Jq_assign rfl rfl)) rfl ?_
  refine Tl_end ?_
  refine At_then ?_
  refine Tc_seq ?_
  refine Tc_region ?_
  refine Tl_q (JO_q rfl rfl (Jq_assign rfl rfl)) rfl ?_
  refine Tl_end ?_
  refine At_then ?_
  refine Tc_seq ?_
  refine Tc_seq ?_
  refine Tc_region ?_
  refine Tl_q (JO_q rfl rfl (Jq_assign rfl rfl)) rfl ?_
  refine Tl_end ?_
  refine At_then ?_
  refine Tc_block ?_
  refine Tc_loopR (fun m Γ H => ∃ (i : Nat) (out : List Nat) (c : Nat), a.length - i = m ∧ Γ = [(0, some (D.v (V.one (natL a)))), (1, some (D.int ((k : Nat) : Int))), (5, some (D.own 0 out.length)), (6, some (D.val (.int .u64 ((c : Nat) : Int)))), (7, some (D.int ((i : Nat) : Int)))] ∧ H = [some ⟨62, out.map u32L, some 1, none⟩] ∧ i ≤ a.length ∧ out.length = k / 32 + i ∧ Small out ∧ c < 2 ^ (k % 32) ∧ val out + c * 4294967296 ^ out.length = val (a.take i) * 2 ^ k) ⟨0, List.replicate (k / 32) 0, 0, rfl, rfl, rfl, Nat.zero_le _, by simp, Small.replicate _, Nat.pow_pos (by decide), by simp [val_replicate]⟩ ⟨rfl, rfl, by rw [List.length_replicate]; rfl, rfl, rfl, trivial⟩ ?_
  rintro m Γ H ⟨i, out, c, rfl, rfl, rfl, hile, hol, hos, hc, heq⟩
  refine Tc_seq ?_
  refine Tc_seq ?_
  refine Tc_region ?_
  refine Tl_q (JO_q rfl rfl (Jq_move rfl rfl)) rfl ?_
  refine Tl_q (JO_q rfl rfl (Jq_move rfl rfl)) rfl ?_
  refine Tl_q (JO_q rfl rfl (Jq_len rfl rfl un23)) rfl ?_
  by_cases hi : i < a.length
  · skip
    refine Tl_q (JO_q rfl rfl (Jq_lss rfl rfl rfl (b := true) (dT (by omega)))) rfl ?_
    refine Tl_end ?_
    refine At_then ?_
    refine Tc_t rfl ?_
    refine Tc_skipA ?_
    refine At_then ?_
    refine Tc_seq ?_
    refine Tc_block ?_
    refine Tc_seq ?_
    have hai := hsa.get i hi; have hb := shl_bound (Nat.mod_lt k (by decide)) hai hc
    have hb1 := hb.1; have hb2 := hb.2.1
    refine Tc_region ?_
    refine Tl_q (JO_q rfl rfl (Jq_move rfl rfl)) rfl ?_
    refine Tl_q (JO_q rfl rfl (Jq_move rfl rfl)) rfl ?_
    refine Tl_q (JO_q rfl rfl (Jq_move rfl rfl)) rfl ?_
    refine Tl_q (JO_q rfl rfl (Jq_index1 rfl rfl rfl un23 ty62 (by omega) (by omega) (get_u32 (by omega)))) rfl ?_
    refine Tl_q (JO_q rfl rfl (Jq_load_ref rfl rfl ty62)) rfl ?_
    refine Tl_q (JO_q rfl rfl (Jq_convert rfl rfl un59 us62 (r := ((a[i]'hi : Nat) : Int)) (wu64 (by omega)))) rfl ?_
    refine Tl_q (JO_q rfl rfl (Jq_move rfl rfl)) rfl ?_
    refine Tl_q (JO_q rfl rfl (Jq_rem rfl rfl rfl (by decide) (r := ((k % 32 : Nat) : Int)) (tmodN k 32))) rfl ?_
    refine Tl_q (JO_q rfl rfl (Jq_shl rfl rfl rfl (by omega) (r := ((a[i]'hi * 2 ^ (k % 32) : Nat) : Int)) (shl64 _ (k % 32) (minbits64 (by omega)) hb1))) rfl ?_
    refine Tl_q (JO_q rfl rfl (Jq_or rfl rfl rfl (r := ((c + a[i]'hi * 2 ^ (k % 32) : Nat) : Int)) (or64' (k % 32) (Nat.mul_mod_left _ _) hc (by omega)))) rfl ?_
    refine Tl_q (JO_q rfl rfl (Jq_assign rfl rfl)) rfl ?_
    refine Tl_end ?_
    refine At_then ?_
    refine Tc_seq ?_
    refine Tc_region ?_
    refine Tl_q (JO_q rfl rfl (Jq_move rfl rfl)) rfl ?_
    refine Tl_q (JO_q rfl rfl (Jq_move rfl rfl)) rfl ?_
    refine Tl_q (JO_q rfl rfl (Jq_convert rfl rfl un62 us59 (r := (((c + a[i]'hi * 2 ^ (k % 32)) % 4294967296 : Nat) : Int)) (wu32 (by omega)))) rfl ?_
    refine Tl_e (JO_e rfl rfl (Je_buildSlice rfl un22 ty62 tz62 rfl (by decide) (by decide) rfl (by decide) rfl)) rfl rfl ?_
    obtain ⟨ti4, hi4, hz4, hs4, hb4⟩ := in62
    refine Tl_append rfl rfl rfl rfl rfl rfl rfl rfl rfl (by simp) rfl (by decide) un22 un22 hi4 hz4 hs4 rfl (by simp only [maxLen]; omega) (by rw [hb4]; omega) (nm := (out ++ [(c + a[i]'hi * 2 ^ (k % 32)) % 4294967296]).length) (by simp) (ls := ((out ++ [(c + a[i]'hi * 2 ^ (k % 32)) % 4294967296]).map u32L)) (by rw [List.map_append]; rfl) ?_
    refine Tl_q (JO_q rfl rfl (Jq_assign rfl rfl)) rfl ?_
    refine Tl_end ?_
    refine At_then ?_
    refine Tc_region ?_
    refine Tl_q (JO_q rfl rfl (Jq_move rfl rfl)) rfl ?_
    refine Tl_q (JO_q rfl rfl (Jq_shr rfl rfl rfl (by decide) (r := (((c + a[i]'hi * 2 ^ (k % 32)) / 4294967296 : Nat) : Int)) (shr_nat _ 32 rfl))) rfl ?_
    refine Tl_q (JO_q rfl rfl (Jq_assign rfl rfl)) rfl ?_
    refine Tl_end ?_
    refine At_block ?_
    refine At_then ?_
    refine Tc_region ?_
    refine Tl_q (JO_q rfl rfl (Jq_move rfl rfl)) rfl ?_
    refine Tl_q (JO_q rfl rfl (Jq_add rfl rfl rfl (r := ((i + 1 : Nat) : Int)) (w64 (by omega) (by omega) (by omega)))) rfl ?_
    refine Tl_q (JO_q rfl rfl (Jq_assign rfl rfl)) rfl ?_
    refine Tl_end ?_
    exact At_next (m' := a.length - (i + 1)) (by omega) ⟨i + 1, _, _, rfl, rfl, rfl, by omega, by simp; omega, small_app1 hos (Nat.mod_lt _ (by decide)), hb.2.2.1, by simpa using shl_app hi hol heq rfl⟩ ⟨rfl, rfl, rfl, rfl, rfl, trivial⟩
  · skip
    refine Tl_q (JO_q rfl rfl (Jq_lss rfl rfl rfl (b := false) (dF (by omega)))) rfl ?_
    refine Tl_end ?_
    refine At_then ?_
    refine Tc_f rfl ?_
    refine Tc_exitA ?_
    refine At_then_exit ?_
    refine At_then_exit ?_
    refine At_block_exit ?_
    refine At_then ?_
    refine Tc_seq ?_
    have hp : 2 ^ (k % 32) ≤ 2 ^ 31 := Nat.pow_le_pow_right (by decide) (by omega)
    have hc2 : c < 4294967296 := by omega
    refine Tc_region ?_
    refine Tl_q (JO_q rfl rfl (Jq_move rfl rfl)) rfl ?_
    refine Tl_q (JO_q rfl rfl (Jq_move rfl rfl)) rfl ?_
    refine Tl_q (JO_q rfl rfl (Jq_convert rfl rfl un62 us59 (r := ((c : Nat) : Int)) (wu32 (by omega)))) rfl ?_
    refine Tl_e (JO_e rfl rfl (Je_buildSlice rfl un22 ty62 tz62 rfl (by decide) (by decide) rfl (by decide) rfl)) rfl rfl ?_
    obtain ⟨ti5, hi5, hz5, hs5, hb5⟩ := in62
    refine Tl_append rfl rfl rfl rfl rfl rfl rfl rfl rfl (by simp) rfl (by decide) un22 un22 hi5 hz5 hs5 rfl (by simp only [maxLen]; omega) (by rw [hb5]; omega) (nm := (out ++ [c]).length) (by simp) (ls := ((out ++ [c]).map u32L)) (by rw [List.map_append]; rfl) ?_
    refine Tl_share_nat 38 (out ++ [c]) rfl rfl rfl rfl (by simp) ?_
    refine Tl_e (JO_e rfl rfl (Je_call rfl fn91 rfl (rmake_spec (out ++ [c]) (small_app1 hos hc2) (by simp; omega)))) rfl rfl ?_
    refine Tl_q (JO_q rfl rfl (Jq_assign rfl rfl)) rfl ?_
    refine Tl_end ?_
    refine At_then ?_
    exact Tc_ret1 (fun _ _ h => h) rfl rfl (by rw [val_app1, heq, val_take_all a _ (by omega)])

theorem rmul_w (a b : List Nat) (hsa : Small a) (hsb : Small b) (hla0 : a.length ≤ 4000000000000) (hlb0 : b.length ≤ 4000000000000) (m n : Nat) (hm : val a = m) (hn : val b = n) : Ctr Tryz.prog 63 [V.one (natL a), V.one (natL b)] (R.one (V.one (natL (limbs (m * n))))) := by
  subst hm; subst hn
  exact rmul_spec a b hsa hsb hla0 hlb0

theorem rshl_w (a : List Nat) (k : Nat) (hsa : Small a) (hk : k ≤ 4194304) (hla0 : a.length ≤ 9000000000000) (m : Nat) (hm : val a = m) : Ctr Tryz.prog 66 [V.one (natL a), V.one (Leaf.val (.int .i64 ((k : Nat) : Int)))] (R.one (V.one (natL (limbs (m * 2 ^ k))))) := by
  subst hm; exact rshl_spec a k hsa hk hla0

set_option maxRecDepth 10000 in
theorem rbits_spec (la : List Nat) (hsa : Small la) (hla : la.length ≤ 10000000000000) : Ctr Tryz.prog 92 [V.one (natL la)] (R.one (V.one (Leaf.val (.int .i64 ((bl (val la) : Nat) : Int))))) := by
  refine Ctr.of_body Tryz.func92 rfl Tryz.ntmps92 (Nat.le_of_ble_eq_true rfl) (fun w0 A0 => ?_)
  refine Tc_seq ?_
  refine Tc_region ?_
  refine Tl_q (JO_q rfl rfl (Jq_assign rfl rfl)) rfl ?_
  refine Tl_end ?_
  refine At_then ?_
  refine Tc_seq ?_
  refine Tc_region ?_
  refine Tl_q (JO_q rfl rfl (Jq_move rfl rfl)) rfl ?_
  refine Tl_e (JO_e rfl rfl (Je_call rfl fn91 rfl (rmake_spec la hsa hla))) rfl rfl ?_
  refine Tl_q (JO_q rfl rfl (Jq_assign rfl rfl)) rfl ?_
  refine Tl_end ?_
  refine At_then ?_
  refine Tc_seq ?_
  refine Tc_seq ?_
  have hl0 := limbs_val_length hsa
  have hb := fun h => bl_limbs (canon_limbs (val la)) h
  have hs := small_limbs (val la)
  rw [val_limbs] at hb
  have hz0 : (limbs (val la)).length = 0 → val la = 0 := fun h => limbs_eq_nil.1 (List.eq_nil_of_length_eq_zero h)
  generalize limbs (val la) = a at *
  refine Tc_region ?_
  refine Tl_q (JO_q rfl rfl (Jq_move rfl rfl)) rfl ?_
  refine Tl_q (JO_q rfl rfl (Jq_len rfl rfl un23)) rfl ?_
  by_cases hz : a.length = 0
  · skip
    refine Tl_q (JO_q rfl rfl (Jq_eql rfl rfl rfl (b := true) (eT (by omega)))) rfl ?_
    refine Tl_end ?_
    refine At_then ?_
    refine Tc_t rfl ?_
    refine Tc_seq ?_
    refine Tc_region ?_
    refine Tl_q (JO_q rfl rfl (Jq_assign rfl rfl)) rfl ?_
    refine Tl_end ?_
    refine At_then ?_
    exact Tc_ret1 (fun _ _ h => h) rfl rfl (by rw [hz0 hz]; rfl)
  · skip
    refine Tl_q (JO_q rfl rfl (Jq_eql rfl rfl rfl (b := false) (eF (by omega)))) rfl ?_
    refine Tl_end ?_
    refine At_then ?_
    refine Tc_f rfl ?_
    refine Tc_skipA ?_
    refine At_then ?_
    refine Tc_seq ?_
    have hb := hb (by omega); have htop := hs.get (a.length - 1) (by omega)
    have hbt := bl_le_of_lt (k := 32) htop
    refine Tc_region ?_
    refine Tl_q (JO_q rfl rfl (Jq_move rfl rfl)) rfl ?_
    refine Tl_q (JO_q rfl rfl (Jq_len rfl rfl un23)) rfl ?_
    refine Tl_q (JO_q rfl rfl (Jq_sub rfl rfl rfl (r := ((a.length - 1 : Nat) : Int)) (w64 (by omega) (by omega) (by omega)))) rfl ?_
    refine Tl_q (JO_q rfl rfl (Jq_mul rfl rfl rfl (r := ((32 * (a.length - 1) : Nat) : Int)) (w64 (by omega) (by omega) (by omega)))) rfl ?_
    refine Tl_q (JO_q rfl rfl (Jq_assign rfl rfl)) rfl ?_
    refine Tl_end ?_
    refine At_then ?_
    refine Tc_seq ?_
    refine Tc_seq ?_
    refine Tc_region ?_
    refine Tl_q (JO_q rfl rfl (Jq_move rfl rfl)) rfl ?_
    refine Tl_q (JO_q rfl rfl (Jq_move rfl rfl)) rfl ?_
    refine Tl_q (JO_q rfl rfl (Jq_len rfl rfl un23)) rfl ?_
    refine Tl_q (JO_q rfl rfl (Jq_sub rfl rfl rfl (r := ((a.length - 1 : Nat) : Int)) (w64 (by omega) (by omega) (by omega)))) rfl ?_
    refine Tl_q (JO_q rfl rfl (Jq_index1 rfl rfl rfl un23 ty62 (by omega) (by omega) (get_u32i (a.length - 1) (by omega) rfl))) rfl ?_
    refine Tl_q (JO_q rfl rfl (Jq_load_ref rfl rfl ty62)) rfl ?_
    refine Tl_q (JO_q rfl rfl (Jq_assign rfl rfl)) rfl ?_
    refine Tl_end ?_
    refine At_then ?_
    refine Tc_block ?_
    refine Tc_loopR (fun m Γ H => ∃ (k : Nat) (x : Nat), x = m ∧ Γ = [(3, some (D.int ((k : Nat) : Int))), (4, some (D.val (.int .u32 ((x : Nat) : Int))))] ∧ H = [] ∧ k + bl x = bl (val la) ∧ x < 4294967296) ⟨32 * (a.length - 1), a[a.length - 1]'(by omega), rfl, rfl, rfl, hb.symm, htop⟩ ⟨rfl, rfl, trivial⟩ ?_
    rintro m Γ H ⟨k, x, rfl, rfl, rfl, hkx, hx⟩
    refine Tc_seq ?_
    refine Tc_seq ?_
    refine Tc_region ?_
    refine Tl_q (JO_q rfl rfl (Jq_move rfl rfl)) rfl ?_
    by_cases hx0 : 0 < x
    · skip
      refine Tl_q (JO_q rfl rfl (Jq_gtr rfl rfl rfl (b := true) (dT (by omega)))) rfl ?_
      refine Tl_end ?_
      refine At_then ?_
      refine Tc_t rfl ?_
      refine Tc_skipA ?_
      refine At_then ?_
      refine Tc_seq ?_
      refine Tc_block ?_
      have hbh := bl_half hx0
      refine Tc_region ?_
      refine Tl_q (JO_q rfl rfl (Jq_move rfl rfl)) rfl ?_
      refine Tl_q (JO_q rfl rfl (Jq_add rfl rfl rfl (r := ((k + 1 : Nat) : Int)) (w64 (by omega) (by omega) (by omega)))) rfl ?_
      refine Tl_q (JO_q rfl rfl (Jq_assign rfl rfl)) rfl ?_
      refine Tl_end ?_
      refine At_block ?_
      refine At_then ?_
      refine Tc_region ?_
      refine Tl_q (JO_q rfl rfl (Jq_move rfl rfl)) rfl ?_
      refine Tl_q (JO_q rfl rfl (Jq_shr rfl rfl rfl (by decide) (r := ((x / 2 : Nat) : Int)) (shr_nat x 1 rfl))) rfl ?_
      refine Tl_q (JO_q rfl rfl (Jq_assign rfl rfl)) rfl ?_
      refine Tl_end ?_
      exact At_next (m' := x / 2) (by omega) ⟨k + 1, x / 2, rfl, rfl, rfl, by omega, by omega⟩ ⟨rfl, rfl, trivial⟩
    · skip
      refine Tl_q (JO_q rfl rfl (Jq_gtr rfl rfl rfl (b := false) (dF (by omega)))) rfl ?_
      refine Tl_end ?_
      refine At_then ?_
      refine Tc_f rfl ?_
      refine Tc_exitA ?_
      refine At_then_exit ?_
      refine At_then_exit ?_
      refine At_block_exit ?_
      refine At_then ?_
      refine Tc_seq ?_
      refine Tc_region ?_
      refine Tl_q (JO_q rfl rfl (Jq_move rfl rfl)) rfl ?_
      refine Tl_q (JO_q rfl rfl (Jq_assign rfl rfl)) rfl ?_
      refine Tl_end ?_
      refine At_then ?_
      exact Tc_ret1 (fun _ _ h => h) rfl rfl (by rw [← hkx, show x = 0 from by omega]; rfl)

set_option maxRecDepth 10000 in
theorem rdivmod_zero (la lb : List Nat) (hsa : Small la) (hsb : Small lb) (hla0 : la.length ≤ 8000000000000) (hlb0 : lb.length ≤ 8000000000000) (hb0 : val lb = 0) : Ctr Tryz.prog 93 [V.one (natL la), V.one (natL lb)] (R.tup [V.one nilL, V.one nilL, V.one (Leaf.val (.int .i64 3))]) := by
  refine Ctr.of_body Tryz.func93 rfl Tryz.ntmps93 (Nat.le_of_ble_eq_true rfl) (fun w0 A0 => ?_)
  refine Tc_seq ?_
  refine Tc_region ?_
  refine Tl_q (JO_q rfl rfl (Jq_assign_nil rfl)) rfl ?_
  refine Tl_q (JO_q rfl rfl (Jq_assign_nil rfl)) rfl ?_
  refine Tl_q (JO_q rfl rfl (Jq_assign rfl rfl)) rfl ?_
  refine Tl_end ?_
  refine At_then ?_
  refine Tc_seq ?_
  by_cases ha : val la < 18446744073709551616
  · skip
    refine Tc_region ?_
    refine Tl_q (JO_q rfl rfl (Jq_move rfl rfl)) rfl ?_
    refine Tl_e (JO_e rfl rfl (Je_call rfl fn102 rfl (ruint_lt la hsa (by omega) ha))) rfl rfl ?_
    refine Tl_q (JO_q rfl rfl (Jq_move rfl rfl)) rfl ?_
    refine Tl_q (JO_q rfl rfl (Jq_extract rfl rfl rfl)) rfl ?_
    refine Tl_q (JO_q rfl rfl (Jq_extract rfl rfl rfl)) rfl ?_
    refine Tl_is true (rfl) ?_
    refine Tl_q (JO_q rfl rfl (Jq_assign rfl rfl)) rfl ?_
    refine Tl_q (JO_q rfl rfl (Jq_assign rfl rfl)) rfl ?_
    refine Tl_end ?_
    refine At_then ?_
    refine Tc_seq ?_
    refine Tc_region ?_
    refine Tl_q (JO_q rfl rfl (Jq_move rfl rfl)) rfl ?_
    refine Tl_e (JO_e rfl rfl (Je_call rfl fn102 rfl (ruint_lt lb hsb (by omega) (by omega)))) rfl rfl ?_
    refine Tl_q (JO_q rfl rfl (Jq_move rfl rfl)) rfl ?_
    refine Tl_q (JO_q rfl rfl (Jq_extract rfl rfl rfl)) rfl ?_
    refine Tl_q (JO_q rfl rfl (Jq_extract rfl rfl rfl)) rfl ?_
    refine Tl_is true (rfl) ?_
    refine Tl_q (JO_q rfl rfl (Jq_assign rfl rfl)) rfl ?_
    refine Tl_q (JO_q rfl rfl (Jq_assign rfl rfl)) rfl ?_
    refine Tl_end ?_
    refine At_then ?_
    refine Tc_seq ?_
    refine Tc_seq ?_
    refine Tc_region ?_
    refine Tl_q (JO_q rfl rfl (Jq_move rfl rfl)) rfl ?_
    refine Tl_q (JO_q rfl rfl (Jq_move rfl rfl)) rfl ?_
    refine Tl_q (JO_qg rfl rfl rfl rfl (Jq_move rfl rfl)) rfl ?_
    refine Tl_q (JO_qg rfl rfl rfl rfl (Jq_eql rfl rfl rfl (b := true) (eT (by omega)))) rfl ?_
    refine Tl_q (JO_q rfl rfl (Jq_pick_t rfl rfl rfl)) rfl ?_
    refine Tl_end ?_
    refine At_then ?_
    refine Tc_t rfl ?_
    refine Tc_seq ?_
    refine Tc_region ?_
    refine Tl_q (JO_q rfl rfl (Jq_assign_nil rfl)) rfl ?_
    refine Tl_q (JO_q rfl rfl (Jq_assign_nil rfl)) rfl ?_
    refine Tl_q (JO_q rfl rfl (Jq_assign rfl rfl)) rfl ?_
    refine Tl_end ?_
    refine At_then ?_
    exact Tc_ret3 (fun _ _ h => h) rfl rfl rfl rfl rfl
  · skip
    refine Tc_region ?_
    refine Tl_q (JO_q rfl rfl (Jq_move rfl rfl)) rfl ?_
    refine Tl_e (JO_e rfl rfl (Je_call rfl fn102 rfl (ruint_ge la hsa (by omega) (by omega)))) rfl rfl ?_
    refine Tl_q (JO_q rfl rfl (Jq_move rfl rfl)) rfl ?_
    refine Tl_q (JO_q rfl rfl (Jq_extract rfl rfl rfl)) rfl ?_
    refine Tl_q (JO_q rfl rfl (Jq_extract rfl rfl rfl)) rfl ?_
    refine Tl_is false (rfl) ?_
    refine Tl_q (JO_q rfl rfl (Jq_assign rfl rfl)) rfl ?_
    refine Tl_q (JO_q rfl rfl (Jq_assign rfl rfl)) rfl ?_
    refine Tl_end ?_
    refine At_then ?_
    refine Tc_seq ?_
    refine Tc_region ?_
    refine Tl_q (JO_q rfl rfl (Jq_move rfl rfl)) rfl ?_
    refine Tl_e (JO_e rfl rfl (Je_call rfl fn102 rfl (ruint_lt lb hsb (by omega) (by omega)))) rfl rfl ?_
    refine Tl_q (JO_q rfl rfl (Jq_move rfl rfl)) rfl ?_
    refine Tl_q (JO_q rfl rfl (Jq_extract rfl rfl rfl)) rfl ?_
    refine Tl_q (JO_q rfl rfl (Jq_extract rfl rfl rfl)) rfl ?_
    refine Tl_is true (rfl) ?_
    refine Tl_q (JO_q rfl rfl (Jq_assign rfl rfl)) rfl ?_
    refine Tl_q (JO_q rfl rfl (Jq_assign rfl rfl)) rfl ?_
    refine Tl_end ?_
    refine At_then ?_
    refine Tc_seq ?_
    refine Tc_seq ?_
    refine Tc_region ?_
    refine Tl_q (JO_q rfl rfl (Jq_move rfl rfl)) rfl ?_
    refine Tl_q (JO_q rfl rfl (Jq_move rfl rfl)) rfl ?_
    refine Tl_q (JO_qg rfl rfl rfl rfl (Jq_move rfl rfl)) rfl ?_
    refine Tl_q (JO_qg rfl rfl rfl rfl (Jq_eql rfl rfl rfl (b := true) (eT (by omega)))) rfl ?_
    refine Tl_q (JO_q rfl rfl (Jq_pick_t rfl rfl rfl)) rfl ?_
    refine Tl_end ?_
    refine At_then ?_
    refine Tc_t rfl ?_
    refine Tc_seq ?_
    refine Tc_region ?_
    refine Tl_q (JO_q rfl rfl (Jq_assign_nil rfl)) rfl ?_
    refine Tl_q (JO_q rfl rfl (Jq_assign_nil rfl)) rfl ?_
    refine Tl_q (JO_q rfl rfl (Jq_assign rfl rfl)) rfl ?_
    refine Tl_end ?_
    refine At_then ?_
    exact Tc_ret3 (fun _ _ h => h) rfl rfl rfl rfl rfl

set_option maxRecDepth 10000 in
theorem rdivmod_spec (la lb : List Nat) (hsa : Small la) (hsb : Small lb) (hla0 : la.length ≤ 8000000000000) (hlb0 : lb.length ≤ 8000000000000) (hb0 : val lb ≠ 0) : Ctr Tryz.prog 93 [V.one (natL la), V.one (natL lb)] (R.tup [V.one (natL (limbs (val la / val lb))), V.one (natL (limbs (val la % val lb))), V.one (Leaf.val (.int .i64 0))]) := by
  refine Ctr.of_body Tryz.func93 rfl Tryz.ntmps93 (Nat.le_of_ble_eq_true rfl) (fun w0 A0 => ?_)
  refine Tc_seq ?_
  refine Tc_region ?_
  refine Tl_q (JO_q rfl rfl (Jq_assign_nil rfl)) rfl ?_
  refine Tl_q (JO_q rfl rfl (Jq_assign_nil rfl)) rfl ?_
  refine Tl_q (JO_q rfl rfl (Jq_assign rfl rfl)) rfl ?_
  refine Tl_end ?_
  refine At_then ?_
  refine Tc_seq ?_
  by_cases ha : val la < 18446744073709551616
  · skip
    refine Tc_region ?_
    refine Tl_q (JO_q rfl rfl (Jq_move rfl rfl)) rfl ?_
    refine Tl_e (JO_e rfl rfl (Je_call rfl fn102 rfl (ruint_lt la hsa (by omega) (by omega)))) rfl rfl ?_
    refine Tl_q (JO_q rfl rfl (Jq_move rfl rfl)) rfl ?_
    refine Tl_q (JO_q rfl rfl (Jq_extract rfl rfl rfl)) rfl ?_
    refine Tl_q (JO_q rfl rfl (Jq_extract rfl rfl rfl)) rfl ?_
    refine Tl_is true (rfl) ?_
    refine Tl_q (JO_q rfl rfl (Jq_assign rfl rfl)) rfl ?_
    refine Tl_q (JO_q rfl rfl (Jq_assign rfl rfl)) rfl ?_
    refine Tl_end ?_
    refine At_then ?_
    refine Tc_seq ?_
    by_cases hb : val lb < 18446744073709551616
    · skip
      refine Tc_region ?_
      refine Tl_q (JO_q rfl rfl (Jq_move rfl rfl)) rfl ?_
      refine Tl_e (JO_e rfl rfl (Je_call rfl fn102 rfl (ruint_lt lb hsb (by omega) (by omega)))) rfl rfl ?_
      refine Tl_q (JO_q rfl rfl (Jq_move rfl rfl)) rfl ?_
      refine Tl_q (JO_q rfl rfl (Jq_extract rfl rfl rfl)) rfl ?_
      refine Tl_q (JO_q rfl rfl (Jq_extract rfl rfl rfl)) rfl ?_
      refine Tl_is true (rfl) ?_
      refine Tl_q (JO_q rfl rfl (Jq_assign rfl rfl)) rfl ?_
      refine Tl_q (JO_q rfl rfl (Jq_assign rfl rfl)) rfl ?_
      refine Tl_end ?_
      refine At_then ?_
      refine Tc_seq ?_
      refine Tc_seq ?_
      refine Tc_region ?_
      refine Tl_q (JO_q rfl rfl (Jq_move rfl rfl)) rfl ?_
      refine Tl_q (JO_q rfl rfl (Jq_move rfl rfl)) rfl ?_
      refine Tl_q (JO_qg rfl rfl rfl rfl (Jq_move rfl rfl)) rfl ?_
      refine Tl_q (JO_qg rfl rfl rfl rfl (Jq_eql rfl rfl rfl (b := false) (eF (by omega)))) rfl ?_
      refine Tl_q (JO_q rfl rfl (Jq_pick_t rfl rfl rfl)) rfl ?_
      refine Tl_end ?_
      refine At_then ?_
      refine Tc_f rfl ?_
      refine Tc_skipA ?_
      refine At_then ?_
      refine Tc_seq ?_
      refine Tc_seq ?_
      refine Tc_region ?_
      refine Tl_q (JO_q rfl rfl (Jq_move rfl rfl)) rfl ?_
      refine Tl_q (JO_q rfl rfl (Jq_move rfl rfl)) rfl ?_
      refine Tl_q (JO_qg rfl rfl rfl rfl (Jq_move rfl rfl)) rfl ?_
      refine Tl_q (JO_q rfl rfl (Jq_pick_t rfl rfl rfl)) rfl ?_
      refine Tl_end ?_
      refine At_then ?_
      refine Tc_t rfl ?_
      refine Tc_seq ?_
      refine Tc_drawK 0 [none, none, none, none, none, none, none, none, none, none, none] [] follows (by kernel_rfl) ?_
      refine DK_q (JO_q rfl rfl (Jq_move rfl rfl)) ?_
      refine DK_q (JO_q rfl rfl (Jq_move rfl rfl)) ?_
      refine DK_q (JO_q rfl rfl (Jq_quo rfl rfl rfl (by omega) (r := ((val la / val lb : Nat) : Int)) ((by rw [tdivN]; exact wrap_nat_u64 (Nat.lt_of_le_of_lt (Nat.div_le_self _ _) ha))))) ?_
      refine DK_c rfl rfl (Jd_call rfl fn72 rfl (rof_spec _ (Nat.lt_of_le_of_lt (Nat.div_le_self _ _) ha))) ?_
      refine DK_q (JO_q rfl rfl (Jq_move rfl rfl)) ?_
      refine DK_q (JO_q rfl rfl (Jq_move rfl rfl)) ?_
      refine DK_q (JO_q rfl rfl (Jq_rem rfl rfl rfl (by omega) (r := ((val la % val lb : Nat) : Int)) (tmodN _ _))) ?_
      refine DK_c rfl rfl (Jd_call rfl fn72 rfl (rof_spec _ (Nat.lt_of_le_of_lt (Nat.mod_le _ _) ha))) ?_
      refine DK_q (JO_q rfl rfl (Jq_assign rfl rfl)) ?_
      refine DK_q (JO_q rfl rfl (Jq_assign rfl rfl)) ?_
      refine DK_q (JO_q rfl rfl (Jq_assign rfl rfl)) ?_
      refine DK_nil ?_
      refine At_then ?_
      exact Tc_ret3 (fun _ _ h => h) rfl rfl rfl rfl rfl
    · skip
      refine Tc_region ?_
      refine Tl_q (JO_q rfl rfl (Jq_move rfl rfl)) rfl ?_
      refine Tl_e (JO_e rfl rfl (Je_call rfl fn102 rfl (ruint_ge lb hsb (by omega) (by omega)))) rfl rfl ?_
      refine Tl_q (JO_q rfl rfl (Jq_move rfl rfl)) rfl ?_
      refine Tl_q (JO_q rfl rfl (Jq_extract rfl rfl rfl)) rfl ?_
      refine Tl_q (JO_q rfl rfl (Jq_extract rfl rfl rfl)) rfl ?_
      refine Tl_is false (rfl) ?_
      refine Tl_q (JO_q rfl rfl (Jq_assign rfl rfl)) rfl ?_
      refine Tl_q (JO_q rfl rfl (Jq_assign rfl rfl)) rfl ?_
      refine Tl_end ?_
      refine At_then ?_
      refine Tc_seq ?_
      refine Tc_seq ?_
      refine Tc_region ?_
      refine Tl_q (JO_q rfl rfl (Jq_move rfl rfl)) rfl ?_
      refine Tl_q (JO_q rfl rfl (Jq_move rfl rfl)) rfl ?_
      refine Tl_q (JO_skip rfl rfl rfl) rfl ?_
      refine Tl_q (JO_skip rfl rfl rfl) rfl ?_
      refine Tl_q (JO_q rfl rfl (Jq_pick_f rfl rfl rfl)) rfl ?_
      refine Tl_end ?_
      refine At_then ?_
      refine Tc_f rfl ?_
      refine Tc_skipA ?_
      refine At_then ?_
      refine Tc_seq ?_
      refine Tc_seq ?_
      refine Tc_region ?_
      refine Tl_q (JO_q rfl rfl (Jq_move rfl rfl)) rfl ?_
      refine Tl_q (JO_q rfl rfl (Jq_move rfl rfl)) rfl ?_
      refine Tl_q (JO_qg rfl rfl rfl rfl (Jq_move rfl rfl)) rfl ?_
      refine Tl_q (JO_q rfl rfl (Jq_pick_t rfl rfl rfl)) rfl ?_
      refine Tl_end ?_
      refine At_then ?_
      refine Tc_f rfl ?_
      refine Tc_skipA ?_
      refine At_then ?_
      refine Tc_seq ?_
      refine Tc_region ?_
      refine Tl_q (JO_q rfl rfl (Jq_move rfl rfl)) rfl ?_
      refine Tl_q (JO_q rfl rfl (Jq_len rfl rfl un23)) rfl ?_
      obtain ⟨ti3, hi3, hz3, hs3, hb3⟩ := in62
      refine Tl_e (JO_e rfl rfl (Je_make (i := 0) (n := la.length) (ls := ((List.replicate (la.length) 0).map u32L)) rfl rfl rfl un22 hi3 hz3 hs3 (by decide) rfl (by decide) rfl (by rw [hb3]; omega) (by simp only [maxLen]; omega) (zc_u32 _) rfl)) rfl rfl ?_
      refine Tl_build0 rfl rfl rfl rfl un23 ty62 rfl ?_
      refine Tl_q (JO_q rfl rfl (Jq_assign rfl rfl)) rfl ?_
      refine Tl_q (JO_q rfl rfl (Jq_assign rfl rfl)) rfl ?_
      refine Tl_end ?_
      refine At_then ?_
      refine Tc_seq ?_
      refine Tc_seq ?_
      have hlbl : bl (val la) ≤ 32 * la.length := bl_le_of_lt (by rw [← pow32]; exact val_lt hsa)
      have hb0p : 0 < val lb := Nat.pos_of_ne_zero hb0
      refine Tc_share_nat 12 ([]) rfl rfl rfl rfl rfl ?_
      refine Tc_region ?_
      refine Tl_q (JO_q rfl rfl (Jq_move rfl rfl)) rfl ?_
      refine Tl_e (JO_e rfl rfl (Je_call rfl fn92 rfl (rbits_spec la hsa (by omega)))) rfl rfl ?_
      refine Tl_q (JO_q rfl rfl (Jq_sub rfl rfl rfl (r := (bl (val la) : Int) - 1) (w64 (by omega) (by omega) (by omega)))) rfl ?_
      refine Tl_q (JO_q rfl rfl (Jq_assign rfl rfl)) rfl ?_
      refine Tl_end ?_
      refine At_then ?_
      refine Tc_block ?_
      refine Tc_loopR (fun m Γ H => ∃ (n : Nat) (out : List Nat) (Q : Nat) (r : Nat), n = m ∧ Γ = [(0, some (D.v (V.one (natL la)))), (1, some (D.v (V.one (natL lb)))), (11, some (D.own 0 la.length)), (12, some (D.v (V.one (natL (limbs r))))), (13, some (D.int ((n : Int) - 1)))] ∧ H = [some ⟨62, (out).map u32L, some 1, none⟩, none] ∧ n ≤ bl (val la) ∧ out.length = la.length ∧ Small out ∧ val out = 2 ^ n * Q ∧ val la / 2 ^ n = Q * val lb + r ∧ r < val lb) ⟨bl (val la), List.replicate la.length 0, 0, 0, rfl, rfl, rfl, Nat.le_refl _, by simp, Small.replicate _, by simp [val_replicate], by rw [Nat.div_eq_of_lt (bl_lt _)]; simp, hb0p⟩ ⟨rfl, rfl, rfl, by rw [limbs_zero]; rfl, rfl, trivial⟩ ?_
      rintro m Γ H ⟨n, out, Q, r, rfl, rfl, rfl, hnb, hol, hos, hoq, hqr, hrb⟩
      refine Tc_seq ?_
      refine Tc_seq ?_
      refine Tc_region ?_
      refine Tl_q (JO_q rfl rfl (Jq_move rfl rfl)) rfl ?_
      by_cases hp : 0 < n
      · skip
        refine Tl_q (JO_q rfl rfl (Jq_geq rfl rfl rfl (b := true) (dT (by omega)))) rfl ?_
        refine Tl_end ?_
        refine At_then ?_
        refine Tc_t rfl ?_
        refine Tc_skipA ?_
        refine At_then ?_
        refine Tc_seq ?_
        refine Tc_block ?_
        refine Tc_seq ?_
        obtain ⟨n, rfl⟩ : ∃ n0, n = n0 + 1 := ⟨n - 1, by omega⟩
        have hn1 : (((n + 1 : Nat) : Int) - 1) = ((n : Nat) : Int) := by omega
        rw [hn1]
        have hni : n / 32 < la.length := bits_index (val_lt hsa) (by omega)
        have hrl := limbs_length_mono (Nat.le_of_lt hrb); have hlbv := limbs_val_length hsb
        have hbit := bit_of hsa hni
        have hlan := hsa.get (n / 32) hni
        have hstep := div_bit_step hqr
        have hsb1 := set_bit hos (by omega) hoq
        refine Tc_region ?_
        refine Tl_q (JO_q rfl rfl (Jq_move rfl rfl)) rfl ?_
        refine Tl_e (JO_e rfl rfl (Je_call rfl fn66 rfl (rshl_w (limbs r) 1 (small_limbs _) (by decide) (by omega) r (val_limbs _)))) rfl rfl ?_
        refine Tl_q (JO_q rfl rfl (Jq_assign rfl rfl)) rfl ?_
        refine Tl_end ?_
        refine At_then ?_
        refine Tc_seq ?_
        refine Tc_region ?_
        refine Tl_q (JO_q rfl rfl (Jq_move rfl rfl)) rfl ?_
        refine Tl_q (JO_q rfl rfl (Jq_move rfl rfl)) rfl ?_
        refine Tl_q (JO_q rfl rfl (Jq_move rfl rfl)) rfl ?_
        refine Tl_q (JO_q rfl rfl (Jq_quo rfl rfl rfl (by decide) (r := ((n / 32 : Nat) : Int)) (w64 (tdivN n 32) (by omega) (by omega)))) rfl ?_
        refine Tl_q (JO_q rfl rfl (Jq_index1 rfl rfl rfl un23 ty62 (by omega) (by omega) (get_u32 hni))) rfl ?_
        refine Tl_q (JO_q rfl rfl (Jq_load_ref rfl rfl ty62)) rfl ?_
        refine Tl_q (JO_q rfl rfl (Jq_move rfl rfl)) rfl ?_
        refine Tl_q (JO_q rfl rfl (Jq_rem rfl rfl rfl (by decide) (r := ((n % 32 : Nat) : Int)) (tmodN n 32))) rfl ?_
        refine Tl_q (JO_q rfl rfl (Jq_shr rfl rfl rfl (by omega) (r := ((la[n / 32]'hni / 2 ^ (n % 32) : Nat) : Int)) (shr_nat _ (n % 32) (by simp only [IntKind.bits]; omega)))) rfl ?_
        refine Tl_q (JO_q rfl rfl (Jq_and rfl rfl rfl (r := ((val la / 2 ^ n % 2 : Nat) : Int)) ((by rw [← hbit]; exact and_one (Nat.lt_of_le_of_lt (Nat.div_le_self _ _) hlan))))) rfl ?_
        refine Tl_e (JO_e rfl rfl (Je_buildSlice rfl un23 ty62 tz62 rfl (by decide) (by decide) rfl (by decide) rfl)) rfl rfl ?_
        have hr2 : r * 2 ^ 1 + val la / 2 ^ n % 2 < 2 * val lb := by omega
        have hl2 : (limbs (r * 2 ^ 1)).length ≤ (limbs (val lb)).length + 1 := by
          rw [limbs_length_le, Nat.pow_succ]
          have := (limbs_length_le (n := val lb) (k := (limbs (val lb)).length)).1 (Nat.le_refl _)
          omega
        have hl3 : (limbs (r * 2 ^ 1 + val la / 2 ^ n % 2)).length ≤ 9000000000000 := by
          refine Nat.le_trans (limbs_length_le (k := (limbs (val lb)).length + 1).2 ?_) (by omega)
          rw [Nat.pow_succ]
          have := (limbs_length_le (n := val lb) (k := (limbs (val lb)).length)).1 (Nat.le_refl _)
          omega
        refine Tl_e (JO_e rfl rfl (Je_call rfl fn94 rfl (radd_w (limbs (r * 2 ^ 1)) [val la / 2 ^ n % 2] (small_limbs _) (Small.cons (by omega) Small.nil) (by omega) (by simp) (r * 2 ^ 1) (val la / 2 ^ n % 2) (val_limbs _) (by simp)))) rfl rfl ?_
        refine Tl_q (JO_q rfl rfl (Jq_assign rfl rfl)) rfl ?_
        refine Tl_end ?_
        refine At_then ?_
        refine Tc_seq ?_
        refine Tc_region ?_
        refine Tl_q (JO_q rfl rfl (Jq_move rfl rfl)) rfl ?_
        refine Tl_q (JO_q rfl rfl (Jq_move rfl rfl)) rfl ?_
        refine Tl_e (JO_e rfl rfl (Je_call rfl fn62 rfl (rcmp_w (limbs (r * 2 ^ 1 + val la / 2 ^ n % 2)) lb (small_limbs _) hsb (r * 2 ^ 1 + val la / 2 ^ n % 2) (val lb) (val_limbs _) rfl))) rfl rfl ?_
        by_cases hge : val lb ≤ r * 2 ^ 1 + val la / 2 ^ n % 2
        · skip
          refine Tl_q (JO_q rfl rfl (Jq_geq rfl rfl rfl (b := true) (dT (by unfold cmpN; rw [if_neg (by omega)]; split <;> decide)))) rfl ?_
          refine Tl_end ?_
          refine At_then ?_
          refine Tc_t rfl ?_
          refine Tc_seq ?_
          refine Tc_region ?_
          refine Tl_q (JO_q rfl rfl (Jq_move rfl rfl)) rfl ?_
          refine Tl_q (JO_q rfl rfl (Jq_move rfl rfl)) rfl ?_
          refine Tl_e (JO_e rfl rfl (Je_call rfl fn103 rfl (rsub_w (limbs (r * 2 ^ 1 + val la / 2 ^ n % 2)) lb (small_limbs _) hsb hl3 (r * 2 ^ 1 + val la / 2 ^ n % 2) (val lb) (val_limbs _) rfl hge))) rfl rfl ?_
          refine Tl_q (JO_q rfl rfl (Jq_move rfl rfl)) rfl ?_
          refine Tl_q (JO_q rfl rfl (Jq_extract rfl rfl rfl)) rfl ?_
          refine Tl_q (JO_q rfl rfl (Jq_extract rfl rfl rfl)) rfl ?_
          refine Tl_q (JO_q rfl rfl (Jq_assign rfl rfl)) rfl ?_
          refine Tl_end ?_
          refine At_then ?_
          refine Tc_drawK 0 [none, none, none, none, none, none, none, none, none, none, some 0] [0] follows (by kernel_rfl) ?_
          refine DK_q (JO_q rfl rfl (Jq_move rfl rfl)) ?_
          refine DK_q (JO_q rfl rfl (Jq_move rfl rfl)) ?_
          refine DK_q (JO_q rfl rfl (Jq_quo rfl rfl rfl (by decide) (r := ((n / 32 : Nat) : Int)) (w64 (tdivN n 32) (by omega) (by omega)))) ?_
          refine DK_qp [] (JO_q rfl rfl (Jq_index_own rfl rfl rfl rfl (by decide) (by simp [hol]) (by decide) un22 ty62 (by omega) (by omega) (off := n / 32) (by omega))) (by kernel_rfl) ?_
          refine DK_qp [] (JO_q rfl rfl (Jq_load rfl rfl rfl (by decide) ty62 (get_own (by omega)))) (by kernel_rfl) ?_
          refine DK_q (JO_q rfl rfl (Jq_move rfl rfl)) ?_
          refine DK_q (JO_q rfl rfl (Jq_rem rfl rfl rfl (by decide) (r := ((n % 32 : Nat) : Int)) (tmodN n 32))) ?_
          refine DK_q (JO_q rfl rfl (Jq_shl rfl rfl rfl (by omega) (r := ((2 ^ (n % 32) : Nat) : Int)) ((by rw [show min (((n % 32 : Nat) : Int)).toNat IntKind.u32.bits = n % 32 from by simp only [IntKind.bits]; omega, Int.one_mul, show ((2 : Int) ^ (n % 32)) = ((2 ^ (n % 32) : Nat) : Int) from by rw [Int.natCast_pow]; rfl]; exact wrap_nat_u32 (by have : (2 : Nat) ^ (n % 32) ≤ 2 ^ 31 := Nat.pow_le_pow_right (by decide) (by omega); omega))))) ?_
          refine DK_q (JO_q rfl rfl (Jq_or rfl rfl rfl (r := ((out[n / 32]'(by omega) + 2 ^ (n % 32) : Nat) : Int)) (or32 (n % 32 + 1) hsb1.1 (Nat.pow_lt_pow_right (by decide) (Nat.lt_succ_self _)) hsb1.2.1))) ?_
          refine DK_qp [] (JO_q rfl rfl (Jq_index_own rfl rfl rfl rfl (by decide) (by simp [hol]) (by decide) un22 ty62 (by omega) (by omega) (off := n / 32) (by omega))) (by kernel_rfl) ?_
          refine DK_s 0 rfl rfl rfl (Jd_store (ls := ((out.set (n / 32) (out[n / 32]'(by omega) + 2 ^ (n % 32))).map u32L)) rfl rfl rfl rfl ty62 rfl (by decide) (by simp; omega) (splice_u32 (by omega))) ?_
          refine DK_nil ?_
          refine At_block ?_
          refine At_then ?_
          refine Tc_region ?_
          refine Tl_q (JO_q rfl rfl (Jq_move rfl rfl)) rfl ?_
          refine Tl_q (JO_q rfl rfl (Jq_sub rfl rfl rfl (r := ((n : Nat) : Int) - 1) (w64 (by omega) (by omega) (by omega)))) rfl ?_
          refine Tl_q (JO_q rfl rfl (Jq_assign rfl rfl)) rfl ?_
          refine Tl_end ?_
          exact At_next (m' := n) (by omega) ⟨n, _, 2 * Q + 1, _, rfl, rfl, rfl, by omega, by simp [hol], hos.set _ _ hsb1.2.1, hsb1.2.2, by rw [hstep, Nat.add_mul, Nat.one_mul]; omega, by omega⟩ ⟨rfl, rfl, rfl, rfl, rfl, trivial⟩
        · skip
          refine Tl_q (JO_q rfl rfl (Jq_geq rfl rfl rfl (b := false) (dF (by rw [cmpN_lt (by omega)]; decide)))) rfl ?_
          refine Tl_end ?_
          refine At_then ?_
          refine Tc_f rfl ?_
          refine Tc_skipA ?_
          refine At_block ?_
          refine At_then ?_
          refine Tc_region ?_
          refine Tl_q (JO_q rfl rfl (Jq_move rfl rfl)) rfl ?_
          refine Tl_q (JO_q rfl rfl (Jq_sub rfl rfl rfl (r := ((n : Nat) : Int) - 1) (w64 (by omega) (by omega) (by omega)))) rfl ?_
          refine Tl_q (JO_q rfl rfl (Jq_assign rfl rfl)) rfl ?_
          refine Tl_end ?_
          exact At_next (m' := n) (by omega) ⟨n, _, 2 * Q, _, rfl, rfl, rfl, by omega, hol, hos, by rw [hoq, Nat.pow_succ]; grind, by rw [hstep]; omega, by omega⟩ ⟨rfl, rfl, rfl, rfl, rfl, trivial⟩
      · skip
        refine Tl_q (JO_q rfl rfl (Jq_geq rfl rfl rfl (b := false) (dF (by omega)))) rfl ?_
        refine Tl_end ?_
        refine At_then ?_
        refine Tc_f rfl ?_
        refine Tc_exitA ?_
        refine At_then_exit ?_
        refine At_then_exit ?_
        refine At_block_exit ?_
        refine At_then ?_
        refine Tc_seq ?_
        have hn0 : n = 0 := by omega
        subst hn0
        rw [Nat.pow_zero, Nat.div_one] at hqr
        rw [Nat.pow_zero, Nat.one_mul] at hoq
        subst hoq
        have hdm : val la / val lb = val out ∧ val la % val lb = r := by
          rw [hqr, Nat.mul_comm]
          exact ⟨by rw [Nat.mul_add_div hb0p, Nat.div_eq_of_lt hrb, Nat.add_zero], by rw [Nat.mul_add_mod, Nat.mod_eq_of_lt hrb]⟩
        refine Tc_region ?_
        refine Tl_q (JO_q rfl rfl (Jq_move rfl rfl)) rfl ?_
        refine Tl_share_nat 86 (out) rfl rfl rfl rfl (by omega) ?_
        refine Tl_e (JO_e rfl rfl (Je_call rfl fn91 rfl (rmake_spec out hos (by omega)))) rfl rfl ?_
        refine Tl_q (JO_q rfl rfl (Jq_move rfl rfl)) rfl ?_
        refine Tl_q (JO_q rfl rfl (Jq_assign rfl rfl)) rfl ?_
        refine Tl_q (JO_q rfl rfl (Jq_assign rfl rfl)) rfl ?_
        refine Tl_q (JO_q rfl rfl (Jq_assign rfl rfl)) rfl ?_
        refine Tl_end ?_
        refine At_then ?_
        exact Tc_ret3 (fun _ _ h => h) rfl rfl rfl rfl (by rw [hdm.1, hdm.2])
  · skip
    refine Tc_region ?_
    refine Tl_q (JO_q rfl rfl (Jq_move rfl rfl)) rfl ?_
    refine Tl_e (JO_e rfl rfl (Je_call rfl fn102 rfl (ruint_ge la hsa (by omega) (by omega)))) rfl rfl ?_
    refine Tl_q (JO_q rfl rfl (Jq_move rfl rfl)) rfl ?_
    refine Tl_q (JO_q rfl rfl (Jq_extract rfl rfl rfl)) rfl ?_
    refine Tl_q (JO_q rfl rfl (Jq_extract rfl rfl rfl)) rfl ?_
    refine Tl_is false (rfl) ?_
    refine Tl_q (JO_q rfl rfl (Jq_assign rfl rfl)) rfl ?_
    refine Tl_q (JO_q rfl rfl (Jq_assign rfl rfl)) rfl ?_
    refine Tl_end ?_
    refine At_then ?_
    refine Tc_seq ?_
    by_cases hb : val lb < 18446744073709551616
    · skip
      refine Tc_region ?_
      refine Tl_q (JO_q rfl rfl (Jq_move rfl rfl)) rfl ?_
      refine Tl_e (JO_e rfl rfl (Je_call rfl fn102 rfl (ruint_lt lb hsb (by omega) (by omega)))) rfl rfl ?_
      refine Tl_q (JO_q rfl rfl (Jq_move rfl rfl)) rfl ?_
      refine Tl_q (JO_q rfl rfl (Jq_extract rfl rfl rfl)) rfl ?_
      refine Tl_q (JO_q rfl rfl (Jq_extract rfl rfl rfl)) rfl ?_
      refine Tl_is true (rfl) ?_
      refine Tl_q (JO_q rfl rfl (Jq_assign rfl rfl)) rfl ?_
      refine Tl_q (JO_q rfl rfl (Jq_assign rfl rfl)) rfl ?_
      refine Tl_end ?_
      refine At_then ?_
      refine Tc_seq ?_
      refine Tc_seq ?_
      refine Tc_region ?_
      refine Tl_q (JO_q rfl rfl (Jq_move rfl rfl)) rfl ?_
      refine Tl_q (JO_q rfl rfl (Jq_move rfl rfl)) rfl ?_
      refine Tl_q (JO_qg rfl rfl rfl rfl (Jq_move rfl rfl)) rfl ?_
      refine Tl_q (JO_qg rfl rfl rfl rfl (Jq_eql rfl rfl rfl (b := false) (eF (by omega)))) rfl ?_
      refine Tl_q (JO_q rfl rfl (Jq_pick_t rfl rfl rfl)) rfl ?_
      refine Tl_end ?_
      refine At_then ?_
      refine Tc_f rfl ?_
      refine Tc_skipA ?_
      refine At_then ?_
      refine Tc_seq ?_
      refine Tc_seq ?_
      refine Tc_region ?_
      refine Tl_q (JO_q rfl rfl (Jq_move rfl rfl)) rfl ?_
      refine Tl_q (JO_q rfl rfl (Jq_move rfl rfl)) rfl ?_
      refine Tl_q (JO_skip rfl rfl rfl) rfl ?_
      refine Tl_q (JO_q rfl rfl (Jq_pick_f rfl rfl rfl)) rfl ?_
      refine Tl_end ?_
      refine At_then ?_
      refine Tc_f rfl ?_
      refine Tc_skipA ?_
      refine At_then ?_
      refine Tc_seq ?_
      refine Tc_region ?_
      refine Tl_q (JO_q rfl rfl (Jq_move rfl rfl)) rfl ?_
      refine Tl_q (JO_q rfl rfl (Jq_len rfl rfl un23)) rfl ?_
      obtain ⟨ti8, hi8, hz8, hs8, hb8⟩ := in62
      refine Tl_e (JO_e rfl rfl (Je_make (i := 0) (n := la.length) (ls := ((List.replicate (la.length) 0).map u32L)) rfl rfl rfl un22 hi8 hz8 hs8 (by decide) rfl (by decide) rfl (by rw [hb8]; omega) (by simp only [maxLen]; omega) (zc_u32 _) rfl)) rfl rfl ?_
      refine Tl_build0 rfl rfl rfl rfl un23 ty62 rfl ?_
      refine Tl_q (JO_q rfl rfl (Jq_assign rfl rfl)) rfl ?_
      refine Tl_q (JO_q rfl rfl (Jq_assign rfl rfl)) rfl ?_
      refine Tl_end ?_
      refine At_then ?_
      refine Tc_seq ?_
      refine Tc_seq ?_
      have hlbl : bl (val la) ≤ 32 * la.length := bl_le_of_lt (by rw [← pow32]; exact val_lt hsa)
      have hb0p : 0 < val lb := Nat.pos_of_ne_zero hb0
      refine Tc_share_nat 12 ([]) rfl rfl rfl rfl rfl ?_
      refine Tc_region ?_
      refine Tl_q (JO_q rfl rfl (Jq_move rfl rfl)) rfl ?_
      refine Tl_e (JO_e rfl rfl (Je_call rfl fn92 rfl (rbits_spec la hsa (by omega)))) rfl rfl ?_
      refine Tl_q (JO_q rfl rfl (Jq_sub rfl rfl rfl (r := (bl (val la) : Int) - 1) (w64 (by omega) (by omega) (by omega)))) rfl ?_
      refine Tl_q (JO_q rfl rfl (Jq_assign rfl rfl)) rfl ?_
      refine Tl_end ?_
      refine At_then ?_
      refine Tc_block ?_
      refine Tc_loopR (fun m Γ H => ∃ (n : Nat) (out : List Nat) (Q : Nat) (r : Nat), n = m ∧ Γ = [(0, some (D.v (V.one (natL la)))), (1, some (D.v (V.one (natL lb)))), (11, some (D.own 0 la.length)), (12, some (D.v (V.one (natL (limbs r))))), (13, some (D.int ((n : Int) - 1)))] ∧ H = [some ⟨62, (out).map u32L, some 1, none⟩, none] ∧ n ≤ bl (val la) ∧ out.length = la.length ∧ Small out ∧ val out = 2 ^ n * Q ∧ val la / 2 ^ n = Q * val lb + r ∧ r < val lb) ⟨bl (val la), List.replicate la.length 0, 0, 0, rfl, rfl, rfl, Nat.le_refl _, by simp, Small.replicate _, by simp [val_replicate], by rw [Nat.div_eq_of_lt (bl_lt _)]; simp, hb0p⟩ ⟨rfl, rfl, rfl, by rw [limbs_zero]; rfl, rfl, trivial⟩ ?_
      rintro m Γ H ⟨n, out, Q, r, rfl, rfl, rfl, hnb, hol, hos, hoq, hqr, hrb⟩
      refine Tc_seq ?_
      refine Tc_seq ?_
      refine Tc_region ?_
      refine Tl_q (JO_q rfl rfl (Jq_move rfl rfl)) rfl ?_
      by_cases hp : 0 < n
      · skip
        refine Tl_q (JO_q rfl rfl (Jq_geq rfl rfl rfl (b := true) (dT (by omega)))) rfl ?_
        refine Tl_end ?_
        refine At_then ?_
        refine Tc_t rfl ?_
        refine Tc_skipA ?_
        refine At_then ?_
        refine Tc_seq ?_
        refine Tc_block ?_
        refine Tc_seq ?_
        obtain ⟨n, rfl⟩ : ∃ n0, n = n0 + 1 := ⟨n - 1, by omega⟩
        have hn1 : (((n + 1 : Nat) : Int) - 1) = ((n : Nat) : Int) := by omega
        rw [hn1]
        have hni : n / 32 < la.length := bits_index (val_lt hsa) (by omega)
        have hrl := limbs_length_mono (Nat.le_of_lt hrb); have hlbv := limbs_val_length hsb
        have hbit := bit_of hsa hni
        have hlan := hsa.get (n / 32) hni
        have hstep := div_bit_step hqr
        have hsb1 := set_bit hos (by omega) hoq
        refine Tc_region ?_
        refine Tl_q (JO_q rfl rfl (Jq_move rfl rfl)) rfl ?_
        refine Tl_e (JO_e rfl rfl (Je_call rfl fn66 rfl (rshl_w (limbs r) 1 (small_limbs _) (by decide) (by omega) r (val_limbs _)))) rfl rfl ?_
        refine Tl_q (JO_q rfl rfl (Jq_assign rfl rfl)) rfl ?_
        refine Tl_end ?_
        refine At_then ?_
        refine Tc_seq ?_
        refine Tc_region ?_
        refine Tl_q (JO_q rfl rfl (Jq_move rfl rfl)) rfl ?_
        refine Tl_q (JO_q rfl rfl (Jq_move rfl rfl)) rfl ?_
        refine Tl_q (JO_q rfl rfl (Jq_move rfl rfl)) rfl ?_
        refine Tl_q (JO_q rfl rfl (Jq_quo rfl rfl rfl (by decide) (r := ((n / 32 : Nat) : Int)) (w64 (tdivN n 32) (by omega) (by omega)))) rfl ?_
        refine Tl_q (JO_q rfl rfl (Jq_index1 rfl rfl rfl un23 ty62 (by omega) (by omega) (get_u32 hni))) rfl ?_
        refine Tl_q (JO_q rfl rfl (Jq_load_ref rfl rfl ty62)) rfl ?_
        refine Tl_q (JO_q rfl rfl (Jq_move rfl rfl)) rfl ?_
        refine Tl_q (JO_q rfl rfl (Jq_rem rfl rfl rfl (by decide) (r := ((n % 32 : Nat) : Int)) (tmodN n 32))) rfl ?_
        refine Tl_q (JO_q rfl rfl (Jq_shr rfl rfl rfl (by omega) (r := ((la[n / 32]'hni / 2 ^ (n % 32) : Nat) : Int)) (shr_nat _ (n % 32) (by simp only [IntKind.bits]; omega)))) rfl ?_
        refine Tl_q (JO_q rfl rfl (Jq_and rfl rfl rfl (r := ((val la / 2 ^ n % 2 : Nat) : Int)) ((by rw [← hbit]; exact and_one (Nat.lt_of_le_of_lt (Nat.div_le_self _ _) hlan))))) rfl ?_
        refine Tl_e (JO_e rfl rfl (Je_buildSlice rfl un23 ty62 tz62 rfl (by decide) (by decide) rfl (by decide) rfl)) rfl rfl ?_
        have hr2 : r * 2 ^ 1 + val la / 2 ^ n % 2 < 2 * val lb := by omega
        have hl2 : (limbs (r * 2 ^ 1)).length ≤ (limbs (val lb)).length + 1 := by
          rw [limbs_length_le, Nat.pow_succ]
          have := (limbs_length_le (n := val lb) (k := (limbs (val lb)).length)).1 (Nat.le_refl _)
          omega
        have hl3 : (limbs (r * 2 ^ 1 + val la / 2 ^ n % 2)).length ≤ 9000000000000 := by
          refine Nat.le_trans (limbs_length_le (k := (limbs (val lb)).length + 1).2 ?_) (by omega)
          rw [Nat.pow_succ]
          have := (limbs_length_le (n := val lb) (k := (limbs (val lb)).length)).1 (Nat.le_refl _)
          omega
        refine Tl_e (JO_e rfl rfl (Je_call rfl fn94 rfl (radd_w (limbs (r * 2 ^ 1)) [val la / 2 ^ n % 2] (small_limbs _) (Small.cons (by omega) Small.nil) (by omega) (by simp) (r * 2 ^ 1) (val la / 2 ^ n % 2) (val_limbs _) (by simp)))) rfl rfl ?_
        refine Tl_q (JO_q rfl rfl (Jq_assign rfl rfl)) rfl ?_
        refine Tl_end ?_
        refine At_then ?_
        refine Tc_seq ?_
        refine Tc_region ?_
        refine Tl_q (JO_q rfl rfl (Jq_move rfl rfl)) rfl ?_
        refine Tl_q (JO_q rfl rfl (Jq_move rfl rfl)) rfl ?_
        refine Tl_e (JO_e rfl rfl (Je_call rfl fn62 rfl (rcmp_w (limbs (r * 2 ^ 1 + val la / 2 ^ n % 2)) lb (small_limbs _) hsb (r * 2 ^ 1 + val la / 2 ^ n % 2) (val lb) (val_limbs _) rfl))) rfl rfl ?_
        by_cases hge : val lb ≤ r * 2 ^ 1 + val la / 2 ^ n % 2
        · skip
          refine Tl_q (JO_q rfl rfl (Jq_geq rfl rfl rfl (b := true) (dT (by unfold cmpN; rw [if_neg (by omega)]; split <;> decide)))) rfl ?_
          refine Tl_end ?_
          refine At_then ?_
          refine Tc_t rfl ?_
          refine Tc_seq ?_
          refine Tc_region ?_
          refine Tl_q (JO_q rfl rfl (Jq_move rfl rfl)) rfl ?_
          refine Tl_q (JO_q rfl rfl (Jq_move rfl rfl)) rfl ?_
          refine Tl_e (JO_e rfl rfl (Je_call rfl fn103 rfl (rsub_w (limbs (r * 2 ^ 1 + val la / 2 ^ n % 2)) lb (small_limbs _) hsb hl3 (r * 2 ^ 1 + val la / 2 ^ n % 2) (val lb) (val_limbs _) rfl hge))) rfl rfl ?_
          refine Tl_q (JO_q rfl rfl (Jq_move rfl rfl)) rfl ?_
          refine Tl_q (JO_q rfl rfl (Jq_extract rfl rfl rfl)) rfl ?_
          refine Tl_q (JO_q rfl rfl (Jq_extract rfl rfl rfl)) rfl ?_
          refine Tl_q (JO_q rfl rfl (Jq_assign rfl rfl)) rfl ?_
          refine Tl_end ?_
          refine At_then ?_
          refine Tc_drawK 0 [none, none, none, none, none, none, none, none, none, none, some 0] [0] follows (by kernel_rfl) ?_
          refine DK_q (JO_q rfl rfl (Jq_move rfl rfl)) ?_
          refine DK_q (JO_q rfl rfl (Jq_move rfl rfl)) ?_
          refine DK_q (JO_q rfl rfl (Jq_quo rfl rfl rfl (by decide) (r := ((n / 32 : Nat) : Int)) (w64 (tdivN n 32) (by omega) (by omega)))) ?_
          refine DK_qp [] (JO_q rfl rfl (Jq_index_own rfl rfl rfl rfl (by decide) (by simp [hol]) (by decide) un22 ty62 (by omega) (by omega) (off := n / 32) (by omega))) (by kernel_rfl) ?_
          refine DK_qp [] (JO_q rfl rfl (Jq_load rfl rfl rfl (by decide) ty62 (get_own (by omega)))) (by kernel_rfl) ?_
          refine DK_q (JO_q rfl rfl (Jq_move rfl rfl)) ?_
          refine DK_q (JO_q rfl rfl (Jq_rem rfl rfl rfl (by decide) (r := ((n % 32 : Nat) : Int)) (tmodN n 32))) ?_
          refine DK_q (JO_q rfl rfl (Jq_shl rfl rfl rfl (by omega) (r := ((2 ^ (n % 32) : Nat) : Int)) ((by rw [show min (((n % 32 : Nat) : Int)).toNat IntKind.u32.bits = n % 32 from by simp only [IntKind.bits]; omega, Int.one_mul, show ((2 : Int) ^ (n % 32)) = ((2 ^ (n % 32) : Nat) : Int) from by rw [Int.natCast_pow]; rfl]; exact wrap_nat_u32 (by have : (2 : Nat) ^ (n % 32) ≤ 2 ^ 31 := Nat.pow_le_pow_right (by decide) (by omega); omega))))) ?_
          refine DK_q (JO_q rfl rfl (Jq_or rfl rfl rfl (r := ((out[n / 32]'(by omega) + 2 ^ (n % 32) : Nat) : Int)) (or32 (n % 32 + 1) hsb1.1 (Nat.pow_lt_pow_right (by decide) (Nat.lt_succ_self _)) hsb1.2.1))) ?_
          refine DK_qp [] (JO_q rfl rfl (Jq_index_own rfl rfl rfl rfl (by decide) (by simp [hol]) (by decide) un22 ty62 (by omega) (by omega) (off := n / 32) (by omega))) (by kernel_rfl) ?_
          refine DK_s 0 rfl rfl rfl (Jd_store (ls := ((out.set (n / 32) (out[n / 32]'(by omega) + 2 ^ (n % 32))).map u32L)) rfl rfl rfl rfl ty62 rfl (by decide) (by simp; omega) (splice_u32 (by omega))) ?_
          refine DK_nil ?_
          refine At_block ?_
          refine At_then ?_
          refine Tc_region ?_
          refine Tl_q (JO_q rfl rfl (Jq_move rfl rfl)) rfl ?_
          refine Tl_q (JO_q rfl rfl (Jq_sub rfl rfl rfl (r := ((n : Nat) : Int) - 1) (w64 (by omega) (by omega) (by omega)))) rfl ?_
          refine Tl_q (JO_q rfl rfl (Jq_assign rfl rfl)) rfl ?_
          refine Tl_end ?_
          exact At_next (m' := n) (by omega) ⟨n, _, 2 * Q + 1, _, rfl, rfl, rfl, by omega, by simp [hol], hos.set _ _ hsb1.2.1, hsb1.2.2, by rw [hstep, Nat.add_mul, Nat.one_mul]; omega, by omega⟩ ⟨rfl, rfl, rfl, rfl, rfl, trivial⟩
        · skip
          refine Tl_q (JO_q rfl rfl (Jq_geq rfl rfl rfl (b := false) (dF (by rw [cmpN_lt (by omega)]; decide)))) rfl ?_
          refine Tl_end ?_
          refine At_then ?_
          refine Tc_f rfl ?_
          refine Tc_skipA ?_
          refine At_block ?_
          refine At_then ?_
          refine Tc_region ?_
          refine Tl_q (JO_q rfl rfl (Jq_move rfl rfl)) rfl ?_
          refine Tl_q (JO_q rfl rfl (Jq_sub rfl rfl rfl (r := ((n : Nat) : Int) - 1) (w64 (by omega) (by omega) (by omega)))) rfl ?_
          refine Tl_q (JO_q rfl rfl (Jq_assign rfl rfl)) rfl ?_
          refine Tl_end ?_
          exact At_next (m' := n) (by omega) ⟨n, _, 2 * Q, _, rfl, rfl, rfl, by omega, hol, hos, by rw [hoq, Nat.pow_succ]; grind, by rw [hstep]; omega, by omega⟩ ⟨rfl, rfl, rfl, rfl, rfl, trivial⟩
      · skip
        refine Tl_q (JO_q rfl rfl (Jq_geq rfl rfl rfl (b := false) (dF (by omega)))) rfl ?_
        refine Tl_end ?_
        refine At_then ?_
        refine Tc_f rfl ?_
        refine Tc_exitA ?_
        refine At_then_exit ?_
        refine At_then_exit ?_
        refine At_block_exit ?_
        refine At_then ?_
        refine Tc_seq ?_
        have hn0 : n = 0 := by omega
        subst hn0
        rw [Nat.pow_zero, Nat.div_one] at hqr
        rw [Nat.pow_zero, Nat.one_mul] at hoq
        subst hoq
        have hdm : val la / val lb = val out ∧ val la % val lb = r := by
          rw [hqr, Nat.mul_comm]
          exact ⟨by rw [Nat.mul_add_div hb0p, Nat.div_eq_of_lt hrb, Nat.add_zero], by rw [Nat.mul_add_mod, Nat.mod_eq_of_lt hrb]⟩
        refine Tc_region ?_
        refine Tl_q (JO_q rfl rfl (Jq_move rfl rfl)) rfl ?_
        refine Tl_share_nat 86 (out) rfl rfl rfl rfl (by omega) ?_
        refine Tl_e (JO_e rfl rfl (Je_call rfl fn91 rfl (rmake_spec out hos (by omega)))) rfl rfl ?_
        refine Tl_q (JO_q rfl rfl (Jq_move rfl rfl)) rfl ?_
        refine Tl_q (JO_q rfl rfl (Jq_assign rfl rfl)) rfl ?_
        refine Tl_q (JO_q rfl rfl (Jq_assign rfl rfl)) rfl ?_
        refine Tl_q (JO_q rfl rfl (Jq_assign rfl rfl)) rfl ?_
        refine Tl_end ?_
        refine At_then ?_
        exact Tc_ret3 (fun _ _ h => h) rfl rfl rfl rfl (by rw [hdm.1, hdm.2])
    · skip
      refine Tc_region ?_
      refine Tl_q (JO_q rfl rfl (Jq_move rfl rfl)) rfl ?_
      refine Tl_e (JO_e rfl rfl (Je_call rfl fn102 rfl (ruint_ge lb hsb (by omega) (by omega)))) rfl rfl ?_
      refine Tl_q (JO_q rfl rfl (Jq_move rfl rfl)) rfl ?_
      refine Tl_q (JO_q rfl rfl (Jq_extract rfl rfl rfl)) rfl ?_
      refine Tl_q (JO_q rfl rfl (Jq_extract rfl rfl rfl)) rfl ?_
      refine Tl_is false (rfl) ?_
      refine Tl_q (JO_q rfl rfl (Jq_assign rfl rfl)) rfl ?_
      refine Tl_q (JO_q rfl rfl (Jq_assign rfl rfl)) rfl ?_
      refine Tl_end ?_
      refine At_then ?_
      refine Tc_seq ?_
      refine Tc_seq ?_
      refine Tc_region ?_
      refine Tl_q (JO_q rfl rfl (Jq_move rfl rfl)) rfl ?_
      refine Tl_q (JO_q rfl rfl (Jq_move rfl rfl)) rfl ?_
      refine Tl_q (JO_skip rfl rfl rfl) rfl ?_
      refine Tl_q (JO_skip rfl rfl rfl) rfl ?_
      refine Tl_q (JO_q rfl rfl (Jq_pick_f rfl rfl rfl)) rfl ?_
      refine Tl_end ?_
      refine At_then ?_
      refine Tc_f rfl ?_
      refine Tc_skipA ?_
      refine At_then ?_
      refine Tc_seq ?_
      refine Tc_seq ?_
      refine Tc_region ?_
      refine Tl_q (JO_q rfl rfl (Jq_move rfl rfl)) rfl ?_
      refine Tl_q (JO_q rfl rfl (Jq_move rfl rfl)) rfl ?_
      refine Tl_q (JO_skip rfl rfl rfl) rfl ?_
      refine Tl_q (JO_q rfl rfl (Jq_pick_f rfl rfl rfl)) rfl ?_
      refine Tl_end ?_
      refine At_then ?_
      refine Tc_f rfl ?_
      refine Tc_skipA ?_
      refine At_then ?_
      refine Tc_seq ?_
      refine Tc_region ?_
      refine Tl_q (JO_q rfl rfl (Jq_move rfl rfl)) rfl ?_
      refine Tl_q (JO_q rfl rfl (Jq_len rfl rfl un23)) rfl ?_
      obtain ⟨ti12, hi12, hz12, hs12, hb12⟩ := in62
      refine Tl_e (JO_e rfl rfl (Je_make (i := 0) (n := la.length) (ls := ((List.replicate (la.length) 0).map u32L)) rfl rfl rfl un22 hi12 hz12 hs12 (by decide) rfl (by decide) rfl (by rw [hb12]; omega) (by simp only [maxLen]; omega) (zc_u32 _) rfl)) rfl rfl ?_
      refine Tl_build0 rfl rfl rfl rfl un23 ty62 rfl ?_
      refine Tl_q (JO_q rfl rfl (Jq_assign rfl rfl)) rfl ?_
      refine Tl_q (JO_q rfl rfl (Jq_assign rfl rfl)) rfl ?_
      refine Tl_end ?_
      refine At_then ?_
      refine Tc_seq ?_
      refine Tc_seq ?_
      have hlbl : bl (val la) ≤ 32 * la.length := bl_le_of_lt (by rw [← pow32]; exact val_lt hsa)
      have hb0p : 0 < val lb := Nat.pos_of_ne_zero hb0
      refine Tc_share_nat 12 ([]) rfl rfl rfl rfl rfl ?_
      refine Tc_region ?_
      refine Tl_q (JO_q rfl rfl (Jq_move rfl rfl)) rfl ?_
      refine Tl_e (JO_e rfl rfl (Je_call rfl fn92 rfl (rbits_spec la hsa (by omega)))) rfl rfl ?_
      refine Tl_q (JO_q rfl rfl (Jq_sub rfl rfl rfl (r := (bl (val la) : Int) - 1) (w64 (by omega) (by omega) (by omega)))) rfl ?_
      refine Tl_q (JO_q rfl rfl (Jq_assign rfl rfl)) rfl ?_
      refine Tl_end ?_
      refine At_then ?_
      refine Tc_block ?_
      refine Tc_loopR (fun m Γ H => ∃ (n : Nat) (out : List Nat) (Q : Nat) (r : Nat), n = m ∧ Γ = [(0, some (D.v (V.one (natL la)))), (1, some (D.v (V.one (natL lb)))), (11, some (D.own 0 la.length)), (12, some (D.v (V.one (natL (limbs r))))), (13, some (D.int ((n : Int) - 1)))] ∧ H = [some ⟨62, (out).map u32L, some 1, none⟩, none] ∧ n ≤ bl (val la) ∧ out.length = la.length ∧ Small out ∧ val out = 2 ^ n * Q ∧ val la / 2 ^ n = Q * val lb + r ∧ r < val lb) ⟨bl (val la), List.replicate la.length 0, 0, 0, rfl, rfl, rfl, Nat.le_refl _, by simp, Small.replicate _, by simp [val_replicate], by rw [Nat.div_eq_of_lt (bl_lt _)]; simp, hb0p⟩ ⟨rfl, rfl, rfl, by rw [limbs_zero]; rfl, rfl, trivial⟩ ?_
      rintro m Γ H ⟨n, out, Q, r, rfl, rfl, rfl, hnb, hol, hos, hoq, hqr, hrb⟩
      refine Tc_seq ?_
      refine Tc_seq ?_
      refine Tc_region ?_
      refine Tl_q (JO_q rfl rfl (Jq_move rfl rfl)) rfl ?_
      by_cases hp : 0 < n
      · skip
        refine Tl_q (JO_q rfl rfl (Jq_geq rfl rfl rfl (b := true) (dT (by omega)))) rfl ?_
        refine Tl_end ?_
        refine At_then ?_
        refine Tc_t rfl ?_
        refine Tc_skipA ?_
        refine At_then ?_
        refine Tc_seq ?_
        refine Tc_block ?_
        refine Tc_seq ?_
        obtain ⟨n, rfl⟩ : ∃ n0, n = n0 + 1 := ⟨n - 1, by omega⟩
        have hn1 : (((n + 1 : Nat) : Int) - 1) = ((n : Nat) : Int) := by omega
        rw [hn1]
        have hni : n / 32 < la.length := bits_index (val_lt hsa) (by omega)
        have hrl := limbs_length_mono (Nat.le_of_lt hrb); have hlbv := limbs_val_length hsb
        have hbit := bit_of hsa hni
        have hlan := hsa.get (n / 32) hni
        have hstep := div_bit_step hqr
        have hsb1 := set_bit hos (by omega) hoq
        refine Tc_region ?_
        refine Tl_q (JO_q rfl rfl (Jq_move rfl rfl)) rfl ?_
        refine Tl_e (JO_e rfl rfl (Je_call rfl fn66 rfl (rshl_w (limbs r) 1 (small_limbs _) (by decide) (by omega) r (val_limbs _)))) rfl rfl ?_
        refine Tl_q (JO_q rfl rfl (Jq_assign rfl rfl)) rfl ?_
        refine Tl_end ?_
        refine At_then ?_
        refine Tc_seq ?_
        refine Tc_region ?_
        refine Tl_q (JO_q rfl rfl (Jq_move rfl rfl)) rfl ?_
        refine Tl_q (JO_q rfl rfl (Jq_move rfl rfl)) rfl ?_
        refine Tl_q (JO_q rfl rfl (Jq_move rfl rfl)) rfl ?_
        refine Tl_q (JO_q rfl rfl (Jq_quo rfl rfl rfl (by decide) (r := ((n / 32 : Nat) : Int)) (w64 (tdivN n 32) (by omega) (by omega)))) rfl ?_
        refine Tl_q (JO_q rfl rfl (Jq_index1 rfl rfl rfl un23 ty62 (by omega) (by omega) (get_u32 hni))) rfl ?_
        refine Tl_q (JO_q rfl rfl (Jq_load_ref rfl rfl ty62)) rfl ?_
        refine Tl_q (JO_q rfl rfl (Jq_move rfl rfl)) rfl ?_
        refine Tl_q (JO_q rfl rfl (Jq_rem rfl rfl rfl (by decide) (r := ((n % 32 : Nat) : Int)) (tmodN n 32))) rfl ?_
        refine Tl_q (JO_q rfl rfl (Jq_shr rfl rfl rfl (by omega) (r := ((la[n / 32]'hni / 2 ^ (n % 32) : Nat) : Int)) (shr_nat _ (n % 32) (by simp only [IntKind.bits]; omega)))) rfl ?_
        refine Tl_q (JO_q rfl rfl (Jq_and rfl rfl rfl (r := ((val la / 2 ^ n % 2 : Nat) : Int)) ((by rw [← hbit]; exact and_one (Nat.lt_of_le_of_lt (Nat.div_le_self _ _) hlan))))) rfl ?_
        refine Tl_e (JO_e rfl rfl (Je_buildSlice rfl un23 ty62 tz62 rfl (by decide) (by decide) rfl (by decide) rfl)) rfl rfl ?_
        have hr2 : r * 2 ^ 1 + val la / 2 ^ n % 2 < 2 * val lb := by omega
        have hl2 : (limbs (r * 2 ^ 1)).length ≤ (limbs (val lb)).length + 1 := by
          rw [limbs_length_le, Nat.pow_succ]
          have := (limbs_length_le (n := val lb) (k := (limbs (val lb)).length)).1 (Nat.le_refl _)
          omega
        have hl3 : (limbs (r * 2 ^ 1 + val la / 2 ^ n % 2)).length ≤ 9000000000000 := by
          refine Nat.le_trans (limbs_length_le (k := (limbs (val lb)).length + 1).2 ?_) (by omega)
          rw [Nat.pow_succ]
          have := (limbs_length_le (n := val lb) (k := (limbs (val lb)).length)).1 (Nat.le_refl _)
          omega
        refine Tl_e (JO_e rfl rfl (Je_call rfl fn94 rfl (radd_w (limbs (r * 2 ^ 1)) [val la / 2 ^ n % 2] (small_limbs _) (Small.cons (by omega) Small.nil) (by omega) (by simp) (r * 2 ^ 1) (val la / 2 ^ n % 2) (val_limbs _) (by simp)))) rfl rfl ?_
        refine Tl_q (JO_q rfl rfl (Jq_assign rfl rfl)) rfl ?_
        refine Tl_end ?_
        refine At_then ?_
        refine Tc_seq ?_
        refine Tc_region ?_
        refine Tl_q (JO_q rfl rfl (Jq_move rfl rfl)) rfl ?_
        refine Tl_q (JO_q rfl rfl (Jq_move rfl rfl)) rfl ?_
        refine Tl_e (JO_e rfl rfl (Je_call rfl fn62 rfl (rcmp_w (limbs (r * 2 ^ 1 + val la / 2 ^ n % 2)) lb (small_limbs _) hsb (r * 2 ^ 1 + val la / 2 ^ n % 2) (val lb) (val_limbs _) rfl))) rfl rfl ?_
        by_cases hge : val lb ≤ r * 2 ^ 1 + val la / 2 ^ n % 2
        · skip
          refine Tl_q (JO_q rfl rfl (Jq_geq rfl rfl rfl (b := true) (dT (by unfold cmpN; rw [if_neg (by omega)]; split <;> decide)))) rfl ?_
          refine Tl_end ?_
          refine At_then ?_
          refine Tc_t rfl ?_
          refine Tc_seq ?_
          refine Tc_region ?_
          refine Tl_q (JO_q rfl rfl (Jq_move rfl rfl)) rfl ?_
          refine Tl_q (JO_q rfl rfl (Jq_move rfl rfl)) rfl ?_
          refine Tl_e (JO_e rfl rfl (Je_call rfl fn103 rfl (rsub_w (limbs (r * 2 ^ 1 + val la / 2 ^ n % 2)) lb (small_limbs _) hsb hl3 (r * 2 ^ 1 + val la / 2 ^ n % 2) (val lb) (val_limbs _) rfl hge))) rfl rfl ?_
          refine Tl_q (JO_q rfl rfl (Jq_move rfl rfl)) rfl ?_
          refine Tl_q (JO_q rfl rfl (Jq_extract rfl rfl rfl)) rfl ?_
          refine Tl_q (JO_q rfl rfl (Jq_extract rfl rfl rfl)) rfl ?_
          refine Tl_q (JO_q rfl rfl (Jq_assign rfl rfl)) rfl ?_
          refine Tl_end ?_
          refine At_then ?_
          refine Tc_drawK 0 [none, none, none, none, none, none, none, none, none, none, some 0] [0] follows (by kernel_rfl) ?_
          refine DK_q (JO_q rfl rfl (Jq_move rfl rfl)) ?_
          refine DK_q (JO_q rfl rfl (Jq_move rfl rfl)) ?_
          refine DK_q (JO_q rfl rfl (Jq_quo rfl rfl rfl (by decide) (r := ((n / 32 : Nat) : Int)) (w64 (tdivN n 32) (by omega) (by omega)))) ?_
          refine DK_qp [] (JO_q rfl rfl (Jq_index_own rfl rfl rfl rfl (by decide) (by simp [hol]) (by decide) un22 ty62 (by omega) (by omega) (off := n / 32) (by omega))) (by kernel_rfl) ?_
          refine DK_qp [] (JO_q rfl rfl (Jq_load rfl rfl rfl (by decide) ty62 (get_own (by omega)))) (by kernel_rfl) ?_
          refine DK_q (JO_q rfl rfl (Jq_move rfl rfl)) ?_
          refine DK_q (JO_q rfl rfl (Jq_rem rfl rfl rfl (by decide) (r := ((n % 32 : Nat) : Int)) (tmodN n 32))) ?_
          refine DK_q (JO_q rfl rfl (Jq_shl rfl rfl rfl (by omega) (r := ((2 ^ (n % 32) : Nat) : Int)) ((by rw [show min (((n % 32 : Nat) : Int)).toNat IntKind.u32.bits = n % 32 from by simp only [IntKind.bits]; omega, Int.one_mul, show ((2 : Int) ^ (n % 32)) = ((2 ^ (n % 32) : Nat) : Int) from by rw [Int.natCast_pow]; rfl]; exact wrap_nat_u32 (by have : (2 : Nat) ^ (n % 32) ≤ 2 ^ 31 := Nat.pow_le_pow_right (by decide) (by omega); omega))))) ?_
          refine DK_q (JO_q rfl rfl (Jq_or rfl rfl rfl (r := ((out[n / 32]'(by omega) + 2 ^ (n % 32) : Nat) : Int)) (or32 (n % 32 + 1) hsb1.1 (Nat.pow_lt_pow_right (by decide) (Nat.lt_succ_self _)) hsb1.2.1))) ?_
          refine DK_qp [] (JO_q rfl rfl (Jq_index_own rfl rfl rfl rfl (by decide) (by simp [hol]) (by decide) un22 ty62 (by omega) (by omega) (off := n / 32) (by omega))) (by kernel_rfl) ?_
          refine DK_s 0 rfl rfl rfl (Jd_store (ls := ((out.set (n / 32) (out[n / 32]'(by omega) + 2 ^ (n % 32))).map u32L)) rfl rfl rfl rfl ty62 rfl (by decide) (by simp; omega) (splice_u32 (by omega))) ?_
          refine DK_nil ?_
          refine At_block ?_
          refine At_then ?_
          refine Tc_region ?_
          refine Tl_q (JO_q rfl rfl (Jq_move rfl rfl)) rfl ?_
          refine Tl_q (JO_q rfl rfl (Jq_sub rfl rfl rfl (r := ((n : Nat) : Int) - 1) (w64 (by omega) (by omega) (by omega)))) rfl ?_
          refine Tl_q (JO_q rfl rfl (Jq_assign rfl rfl)) rfl ?_
          refine Tl_end ?_
          exact At_next (m' := n) (by omega) ⟨n, _, 2 * Q + 1, _, rfl, rfl, rfl, by omega, by simp [hol], hos.set _ _ hsb1.2.1, hsb1.2.2, by rw [hstep, Nat.add_mul, Nat.one_mul]; omega, by omega⟩ ⟨rfl, rfl, rfl, rfl, rfl, trivial⟩
        · skip
          refine Tl_q (JO_q rfl rfl (Jq_geq rfl rfl rfl (b := false) (dF (by rw [cmpN_lt (by omega)]; decide)))) rfl ?_
          refine Tl_end ?_
          refine At_then ?_
          refine Tc_f rfl ?_
          refine Tc_skipA ?_
          refine At_block ?_
          refine At_then ?_
          refine Tc_region ?_
          refine Tl_q (JO_q rfl rfl (Jq_move rfl rfl)) rfl ?_
          refine Tl_q (JO_q rfl rfl (Jq_sub rfl rfl rfl (r := ((n : Nat) : Int) - 1) (w64 (by omega) (by omega) (by omega)))) rfl ?_
          refine Tl_q (JO_q rfl rfl (Jq_assign rfl rfl)) rfl ?_
          refine Tl_end ?_
          exact At_next (m' := n) (by omega) ⟨n, _, 2 * Q, _, rfl, rfl, rfl, by omega, hol, hos, by rw [hoq, Nat.pow_succ]; grind, by rw [hstep]; omega, by omega⟩ ⟨rfl, rfl, rfl, rfl, rfl, trivial⟩
      · skip
        refine Tl_q (JO_q rfl rfl (Jq_geq rfl rfl rfl (b := false) (dF (by omega)))) rfl ?_
        refine Tl_end ?_
        refine At_then ?_
        refine Tc_f rfl ?_
        refine Tc_exitA ?_
        refine At_then_exit ?_
        refine At_then_exit ?_
        refine At_block_exit ?_
        refine At_then ?_
        refine Tc_seq ?_
        have hn0 : n = 0 := by omega
        subst hn0
        rw [Nat.pow_zero, Nat.div_one] at hqr
        rw [Nat.pow_zero, Nat.one_mul] at hoq
        subst hoq
        have hdm : val la / val lb = val out ∧ val la % val lb = r := by
          rw [hqr, Nat.mul_comm]
          exact ⟨by rw [Nat.mul_add_div hb0p, Nat.div_eq_of_lt hrb, Nat.add_zero], by rw [Nat.mul_add_mod, Nat.mod_eq_of_lt hrb]⟩
        refine Tc_region ?_
        refine Tl_q (JO_q rfl rfl (Jq_move rfl rfl)) rfl ?_
        refine Tl_share_nat 86 (out) rfl rfl rfl rfl (by omega) ?_
        refine Tl_e (JO_e rfl rfl (Je_call rfl fn91 rfl (rmake_spec out hos (by omega)))) rfl rfl ?_
        refine Tl_q (JO_q rfl rfl (Jq_move rfl rfl)) rfl ?_
        refine Tl_q (JO_q rfl rfl (Jq_assign rfl rfl)) rfl ?_
        refine Tl_q (JO_q rfl rfl (Jq_assign rfl rfl)) rfl ?_
        refine Tl_q (JO_q rfl rfl (Jq_assign rfl rfl)) rfl ?_
        refine Tl_end ?_
        refine At_then ?_
        exact Tc_ret3 (fun _ _ h => h) rfl rfl rfl rfl (by rw [hdm.1, hdm.2])

end Go.Proofs.YtpabkdpijcbkgaaGreatDoor
