/- Walks: natural.Valid, Uint, Add, Sub, Mul. -/
import Derived.Test.YtpabkdpijcbkgaaGreatDoorWkB
import Derived.Test.YtpabkdpijcbkgaaGreatDoorFwI
set_option linter.unusedSimpArgs false
set_option linter.unusedVariables false
namespace Go.Proofs.YtpabkdpijcbkgaaGreatDoor
open Go Go.RowKit Rc


set_option maxRecDepth 10000 in
theorem uint_spec (x : Nat) : Ctr Tryz.prog 98 [V.one (natL (limbs x))] (R.tup [V.one (Leaf.val (.int .u64 (if x < 18446744073709551616 then x else 0 : Nat))), V.one (Leaf.val (.bool (decide (x < 18446744073709551616))))]) := by
  refine Ctr.of_body Tryz.func98 rfl Tryz.ntmps98 (Nat.le_of_ble_eq_true rfl) (fun w0 A0 => ?_)
  refine Tc_seq ?_
  refine Tc_region ?_
  refine Tl_q (JO_q rfl rfl (Jq_assign rfl rfl)) rfl ?_
  refine Tl_q (JO_q rfl rfl (Jq_assign rfl rfl)) rfl ?_
  refine Tl_end ?_
  refine At_then ?_
  refine Tc_seq ?_
  refine Tc_region ?_
  refine Tl_q (JO_q rfl rfl (Jq_move rfl rfl)) rfl ?_
  refine Tl_e (JO_e rfl rfl (Je_call rfl fn60 rfl (trim_spec (limbs x) (small_limbs x)))) rfl rfl ?_
  refine Tl_q (JO_q rfl rfl (Jq_assign rfl rfl)) rfl ?_
  refine Tl_end ?_
  refine At_then ?_
  refine Tc_seq ?_
  refine Tc_seq ?_
  rw [val_limbs]
  have hx := val_limbs x; have hsl := small_limbs x
  have hlen : (limbs x).length ≤ 2 ↔ x < 4294967296 ^ 2 := limbs_length_le
  generalize limbs x = l at *
  refine Tc_region ?_
  refine Tl_q (JO_q rfl rfl (Jq_move rfl rfl)) rfl ?_
  refine Tl_q (JO_q rfl rfl (Jq_len rfl rfl un23)) rfl ?_
  by_cases hl : 2 < l.length
  · skip
    refine Tl_q (JO_q rfl rfl (Jq_gtr rfl rfl rfl (b := true) (dT (by omega)))) rfl ?_
    refine Tl_end ?_
    refine At_then ?_
    refine Tc_t rfl ?_
    refine Tc_seq ?_
    refine Tc_region ?_
    refine Tl_q (JO_q rfl rfl (Jq_assign rfl rfl)) rfl ?_
    refine Tl_q (JO_q rfl rfl (Jq_assign rfl rfl)) rfl ?_
    refine Tl_end ?_
    refine At_then ?_
    exact Tc_ret2 (fun _ _ h => h) rfl rfl rfl (by rw [if_neg (by omega), decide_eq_false (by omega)]; rfl)
  · skip
    refine Tl_q (JO_q rfl rfl (Jq_gtr rfl rfl rfl (b := false) (dF (by omega)))) rfl ?_
    refine Tl_end ?_
    refine At_then ?_
    refine Tc_f rfl ?_
    refine Tc_skipA ?_
    refine At_then ?_
    refine Tc_seq ?_
    refine Tc_region ?_
    refine Tl_q (JO_q rfl rfl (Jq_assign rfl rfl)) rfl ?_
    refine Tl_end ?_
    refine At_then ?_
    refine Tc_seq ?_
    refine Tc_seq ?_
    refine Tc_region ?_
    refine Tl_q (JO_q rfl rfl (Jq_move rfl rfl)) rfl ?_
    refine Tl_q (JO_q rfl rfl (Jq_len rfl rfl un23)) rfl ?_
    refine Tl_q (JO_q rfl rfl (Jq_move rfl rfl)) rfl ?_
    refine Tl_end ?_
    refine At_then ?_
    refine Tc_block ?_
    refine Tc_loopR (fun m Γ H => ∃ (i : Nat), l.length - i = m ∧ Γ = [(0, some (D.v (V.one (natL l)))), (4, some (D.val (.int .u64 ((val (l.take i) : Nat) : Int)))), (12, some (D.v (V.one (natL l)))), (13, some (D.int ((l.length : Nat) : Int))), (14, some (D.int ((i : Nat) : Int)))] ∧ H = [] ∧ i ≤ l.length) ⟨0, rfl, rfl, rfl, Nat.zero_le _⟩ ⟨rfl, rfl, rfl, rfl, rfl, trivial⟩ ?_
    rintro m Γ H ⟨i, rfl, rfl, rfl, h⟩
    refine Tc_seq ?_
    refine Tc_region ?_
    by_cases hp : i < l.length
    · skip
      refine Tl_q (JO_q rfl rfl (Jq_lss rfl rfl rfl (b := true) (dT (by omega)))) rfl ?_
      refine Tl_end ?_
      refine At_then ?_
      refine Tc_seq ?_
      refine Tc_t rfl ?_
      refine Tc_skipA ?_
      refine At_then ?_
      refine Tc_seq ?_
      refine Tc_block ?_
      refine Tc_seq ?_
      refine Tc_region ?_
      refine Tl_q (JO_q rfl rfl (Jq_move rfl rfl)) rfl ?_
      refine Tl_q (JO_q rfl rfl (Jq_index1 rfl rfl rfl un23 ty62 (by omega) (by omega) (get_u32 (by omega)))) rfl ?_
      refine Tl_q (JO_q rfl rfl (Jq_load_ref rfl rfl ty62)) rfl ?_
      refine Tl_q (JO_q rfl rfl (Jq_assign rfl rfl)) rfl ?_
      refine Tl_q (JO_q rfl rfl (Jq_assign rfl rfl)) rfl ?_
      refine Tl_end ?_
      refine At_then ?_
      have hd := hsl.get i hp
      have hv := val_take_succ l i hp
      have hlt := val_lt (hsl.take (i + 1))
      rw [List.length_take, Nat.min_eq_left (by omega), pow32] at hlt
      have hlt0 := val_lt (hsl.take i)
      rw [List.length_take, Nat.min_eq_left (by omega), pow32] at hlt0
      have h64 : (2 : Nat) ^ (32 * (i + 1)) ≤ 18446744073709551616 := by
        have : i = 0 ∨ i = 1 := by omega
        rcases this with e | e <;> subst e <;> decide
      rw [pow32, Nat.mul_comm] at hv
      refine Tc_region ?_
      refine Tl_q (JO_q rfl rfl (Jq_move rfl rfl)) rfl ?_
      refine Tl_q (JO_q rfl rfl (Jq_move rfl rfl)) rfl ?_
      refine Tl_q (JO_q rfl rfl (Jq_convert rfl rfl un59 us62 (r := ((l[i]'(by omega) : Nat) : Int)) (wu64 (by omega)))) rfl ?_
      refine Tl_q (JO_q rfl rfl (Jq_move rfl rfl)) rfl ?_
      refine Tl_q (JO_q rfl rfl (Jq_mul rfl rfl rfl (r := ((32 * i : Nat) : Int)) (w64 (by omega) (by omega) (by omega)))) rfl ?_
      refine Tl_q (JO_q rfl rfl (Jq_shl rfl rfl rfl (by omega) (r := ((l[i]'(by omega) * 2 ^ (32 * i) : Nat) : Int)) (shl64 _ (32 * i) (minbits64 (by omega)) (by omega)))) rfl ?_
      refine Tl_q (JO_q rfl rfl (Jq_or rfl rfl rfl (r := ((val (l.take (i + 1)) : Nat) : Int)) (by rw [hv]; exact or64' (32 * i) (Nat.mul_mod_left _ _) hlt0 (by omega)))) rfl ?_
      refine Tl_q (JO_q rfl rfl (Jq_assign rfl rfl)) rfl ?_
      refine Tl_end ?_
      refine At_block ?_
      refine At_then ?_
      refine Tc_region ?_
      refine Tl_q (JO_q rfl rfl (Jq_add rfl rfl rfl (r := ((i + 1 : Nat) : Int)) (w64 (by omega) (by omega) (by omega)))) rfl ?_
      refine Tl_q (JO_q rfl rfl (Jq_move rfl rfl)) rfl ?_
      refine Tl_end ?_
      exact At_next (m' := l.length - (i + 1)) (by omega) ⟨i + 1, rfl, rfl, rfl, by omega⟩ ⟨rfl, rfl, rfl, rfl, rfl, trivial⟩
    · skip
      refine Tl_q (JO_q rfl rfl (Jq_lss rfl rfl rfl (b := false) (dF (by omega)))) rfl ?_
      refine Tl_end ?_
      refine At_then ?_
      refine Tc_seq ?_
      refine Tc_f rfl ?_
      refine Tc_exitA ?_
      refine At_then_exit ?_
      refine At_then_exit ?_
      refine At_block_exit ?_
      refine At_then ?_
      refine Tc_seq ?_
      refine Tc_region ?_
      refine Tl_q (JO_q rfl rfl (Jq_move rfl rfl)) rfl ?_
      refine Tl_q (JO_q rfl rfl (Jq_assign rfl rfl)) rfl ?_
      refine Tl_q (JO_q rfl rfl (Jq_assign rfl rfl)) rfl ?_
      refine Tl_end ?_
      refine At_then ?_
      exact Tc_ret2 (fun _ _ h => h) rfl rfl rfl (by rw [val_take_all l i (by omega), hx, if_pos (by omega), decide_eq_true (by omega)])

set_option maxRecDepth 10000 in
theorem add_spec (la lb : List Nat) (hsa : Small la) (hsb : Small lb) (hla0 : la.length ≤ 10000000000000) (hlb0 : lb.length ≤ 10000000000000) : Ctr Tryz.prog 56 [V.one (natL la), V.one (natL lb)] (R.one (V.one (natL (limbs (val la + val lb))))) := by
  refine Ctr.of_body Tryz.func56 rfl Tryz.ntmps56 (Nat.le_of_ble_eq_true rfl) (fun w0 A0 => ?_)
  refine Tc_seq ?_
  refine Tc_region ?_
  refine Tl_q (JO_q rfl rfl (Jq_assign_nil rfl)) rfl ?_
  refine Tl_end ?_
  refine At_then ?_
  refine Tc_seq ?_
  refine Tc_region ?_
  refine Tl_q (JO_q rfl rfl (Jq_move rfl rfl)) rfl ?_
  refine Tl_e (JO_e rfl rfl (Je_call rfl fn60 rfl (trim_spec la hsa))) rfl rfl ?_
  refine Tl_q (JO_q rfl rfl (Jq_move rfl rfl)) rfl ?_
  refine Tl_e (JO_e rfl rfl (Je_call rfl fn60 rfl (trim_spec lb hsb))) rfl rfl ?_
  refine Tl_q (JO_q rfl rfl (Jq_assign rfl rfl)) rfl ?_
  refine Tl_q (JO_q rfl rfl (Jq_assign rfl rfl)) rfl ?_
  refine Tl_end ?_
  refine At_then ?_
  refine Tc_seq ?_
  refine Tc_seq ?_
  have hla := limbs_val_length hsa; have hlb := limbs_val_length hsb
  have va := val_limbs (val la); have vb := val_limbs (val lb); have sa := small_limbs (val la); have sb := small_limbs (val lb)
  generalize limbs (val la) = a at *
  generalize limbs (val lb) = b at *
  refine Tc_region ?_
  refine Tl_q (JO_q rfl rfl (Jq_move rfl rfl)) rfl ?_
  refine Tl_q (JO_q rfl rfl (Jq_len rfl rfl un23)) rfl ?_
  refine Tl_q (JO_q rfl rfl (Jq_move rfl rfl)) rfl ?_
  refine Tl_q (JO_q rfl rfl (Jq_len rfl rfl un23)) rfl ?_
  by_cases hab : a.length < b.length
  · skip
    refine Tl_q (JO_q rfl rfl (Jq_lss rfl rfl rfl (b := true) (dT (by omega)))) rfl ?_
    refine Tl_end ?_
    refine At_then ?_
    refine Tc_t rfl ?_
    refine Tc_region ?_
    refine Tl_q (JO_q rfl rfl (Jq_move rfl rfl)) rfl ?_
    refine Tl_q (JO_q rfl rfl (Jq_move rfl rfl)) rfl ?_
    refine Tl_q (JO_q rfl rfl (Jq_assign rfl rfl)) rfl ?_
    refine Tl_q (JO_q rfl rfl (Jq_assign rfl rfl)) rfl ?_
    refine Tl_end ?_
    refine At_then ?_
    refine Tc_seq ?_
    refine Tc_region ?_
    refine Tl_q (JO_q rfl rfl (Jq_move rfl rfl)) rfl ?_
    refine Tl_q (JO_q rfl rfl (Jq_len rfl rfl un23)) rfl ?_
    refine Tl_q (JO_q rfl rfl (Jq_add rfl rfl rfl (r := ((b.length + 1 : Nat) : Int)) (w64 (by omega) (by omega) (by omega)))) rfl ?_
    obtain ⟨ti2, hi2, hz2, hs2, hb2⟩ := in62
    refine Tl_e (JO_e rfl rfl (Je_make (i := 0) (n := b.length + 1) (ls := ((List.replicate (b.length + 1) 0).map u32L)) rfl rfl rfl un23 hi2 hz2 hs2 (by decide) rfl (by decide) rfl (by rw [hb2]; omega) (by simp only [maxLen]; omega) (zc_u32 _) rfl)) rfl rfl ?_
    refine Tl_q (JO_q rfl rfl (Jq_assign rfl rfl)) rfl ?_
    refine Tl_end ?_
    refine At_then ?_
    refine Tc_seq ?_
    refine Tc_region ?_
    refine Tl_q (JO_q rfl rfl (Jq_assign rfl rfl)) rfl ?_
    refine Tl_end ?_
    refine At_then ?_
    refine Tc_seq ?_
    refine Tc_seq ?_
    refine Tc_region ?_
    refine Tl_q (JO_q rfl rfl (Jq_move rfl rfl)) rfl ?_
    refine Tl_q (JO_q rfl rfl (Jq_len rfl rfl un23)) rfl ?_
    refine Tl_q (JO_q rfl rfl (Jq_move rfl rfl)) rfl ?_
    refine Tl_end ?_
    refine At_then ?_
    refine Tc_block ?_
    refine Tc_loopR (fun m Γ H => ∃ (k : Nat) (out : List Nat) (c : Nat), b.length - k = m ∧ Γ = [(0, some (D.v (V.one (natL b)))), (1, some (D.v (V.one (natL a)))), (5, some (D.own 0 (b.length + 1))), (6, some (D.val (.int .u64 ((c : Nat) : Int)))), (24, some (D.v (V.one (natL b)))), (25, some (D.int ((b.length : Nat) : Int))), (26, some (D.int ((k : Nat) : Int)))] ∧ H = [some ⟨62, out.map u32L, some 1, none⟩] ∧ k ≤ b.length ∧ out.length = b.length + 1 ∧ Small out ∧ c ≤ 1 ∧ val (out.take k) + c * 4294967296 ^ k = val (b.take k) + val (a.take k)) ⟨0, List.replicate (b.length + 1) 0, 0, rfl, rfl, rfl, Nat.zero_le _, by simp, Small.replicate _, by omega, rfl⟩ ⟨rfl, rfl, rfl, rfl, rfl, rfl, rfl, trivial⟩ ?_
    rintro m Γ H ⟨k, out, c, rfl, rfl, rfl, hkle, hol, hos, hc, heq⟩
    refine Tc_seq ?_
    refine Tc_region ?_
    by_cases hk : k < b.length
    · skip
      refine Tl_q (JO_q rfl rfl (Jq_lss rfl rfl rfl (b := true) (dT (by omega)))) rfl ?_
      refine Tl_end ?_
      refine At_then ?_
      refine Tc_seq ?_
      refine Tc_t rfl ?_
      refine Tc_skipA ?_
      refine At_then ?_
      refine Tc_seq ?_
      refine Tc_block ?_
      refine Tc_seq ?_
      have hak := sb.get k hk; have hbk := sa.getD k
      refine Tc_region ?_
      refine Tl_q (JO_q rfl rfl (Jq_move rfl rfl)) rfl ?_
      refine Tl_q (JO_q rfl rfl (Jq_index1 rfl rfl rfl un23 ty62 (by omega) (by omega) (get_u32 (by omega)))) rfl ?_
      refine Tl_q (JO_q rfl rfl (Jq_load_ref rfl rfl ty62)) rfl ?_
      refine Tl_q (JO_q rfl rfl (Jq_assign rfl rfl)) rfl ?_
      refine Tl_q (JO_q rfl rfl (Jq_assign rfl rfl)) rfl ?_
      refine Tl_end ?_
      refine At_then ?_
      refine Tc_seq ?_
      refine Tc_region ?_
      refine Tl_q (JO_q rfl rfl (Jq_move rfl rfl)) rfl ?_
      refine Tl_q (JO_q rfl rfl (Jq_move rfl rfl)) rfl ?_
      refine Tl_q (JO_q rfl rfl (Jq_convert rfl rfl un59 us62 (r := ((b[k]'hk : Nat) : Int)) (wu64 (by omega)))) rfl ?_
      refine Tl_q (JO_q rfl rfl (Jq_add rfl rfl rfl (r := ((c + b[k]'hk : Nat) : Int)) (wu64 (by omega)))) rfl ?_
      refine Tl_q (JO_q rfl rfl (Jq_assign rfl rfl)) rfl ?_
      refine Tl_end ?_
      refine At_then ?_
      refine Tc_seq ?_
      refine Tc_seq ?_
      refine Tc_region ?_
      refine Tl_q (JO_q rfl rfl (Jq_move rfl rfl)) rfl ?_
      refine Tl_q (JO_q rfl rfl (Jq_move rfl rfl)) rfl ?_
      refine Tl_q (JO_q rfl rfl (Jq_len rfl rfl un23)) rfl ?_
      by_cases hkb : k < a.length
      · skip
        refine Tl_q (JO_q rfl rfl (Jq_lss rfl rfl rfl (b := true) (dT (by omega)))) rfl ?_
        refine Tl_end ?_
        refine At_then ?_
        refine Tc_t rfl ?_
        have hbk2 := sa.get k hkb
        refine Tc_region ?_
        refine Tl_q (JO_q rfl rfl (Jq_move rfl rfl)) rfl ?_
        refine Tl_q (JO_q rfl rfl (Jq_move rfl rfl)) rfl ?_
        refine Tl_q (JO_q rfl rfl (Jq_move rfl rfl)) rfl ?_
        refine Tl_q (JO_q rfl rfl (Jq_index1 rfl rfl rfl un23 ty62 (by omega) (by omega) (get_u32 (by omega)))) rfl ?_
        refine Tl_q (JO_q rfl rfl (Jq_load_ref rfl rfl ty62)) rfl ?_
        refine Tl_q (JO_q rfl rfl (Jq_convert rfl rfl un59 us62 (r := ((a[k]'hkb : Nat) : Int)) (wu64 (by omega)))) rfl ?_
        refine Tl_q (JO_q rfl rfl (Jq_add rfl rfl rfl (r := ((c + b[k]'hk + a[k]'hkb : Nat) : Int)) (wu64 (by omega)))) rfl ?_
        refine Tl_q (JO_q rfl rfl (Jq_assign rfl rfl)) rfl ?_
        refine Tl_end ?_
        refine At_then ?_
        refine Tc_seq ?_
        refine Tc_region ?_
        refine Tl_q (JO_q rfl rfl (Jq_move rfl rfl)) rfl ?_
        refine Tl_q (JO_q rfl rfl (Jq_move rfl rfl)) rfl ?_
        refine Tl_q (JO_q rfl rfl (Jq_move rfl rfl)) rfl ?_
        refine Tl_q (JO_q rfl rfl (Jq_convert rfl rfl un62 us59 (r := (((c + b[k] + a[k]) % 4294967296 : Nat) : Int)) (wu32 (by omega)))) rfl ?_
        refine Tl_q (JO_q rfl rfl (Jq_index_own rfl rfl rfl rfl (by decide) (by simp [hol]) (by decide) un23 ty62 (by omega) (by omega) (off := k) (by omega))) rfl ?_
        refine Tl_e (JO_e rfl rfl (Je_store (ls := ((out.set k ((c + b[k] + a[k]) % 4294967296)).map u32L)) rfl rfl rfl rfl ty62 rfl (by decide) (by simp; omega) (splice_u32 (by omega)))) rfl rfl ?_
        refine Tl_end ?_
        refine At_then ?_
        refine Tc_region ?_
        refine Tl_q (JO_q rfl rfl (Jq_move rfl rfl)) rfl ?_
        refine Tl_q (JO_q rfl rfl (Jq_shr rfl rfl rfl (by decide) (r := (((c + b[k] + a[k]) / 4294967296 : Nat) : Int)) (shr_nat _ 32 rfl))) rfl ?_
        refine Tl_q (JO_q rfl rfl (Jq_assign rfl rfl)) rfl ?_
        refine Tl_end ?_
        refine At_block ?_
        refine At_then ?_
        refine Tc_region ?_
        refine Tl_q (JO_q rfl rfl (Jq_add rfl rfl rfl (r := ((k + 1 : Nat) : Int)) (w64 (by omega) (by omega) (by omega)))) rfl ?_
        refine Tl_q (JO_q rfl rfl (Jq_move rfl rfl)) rfl ?_
        refine Tl_end ?_
        exact At_next (m' := b.length - (k + 1)) (by omega) ⟨k + 1, _, (c + b[k] + a[k]) / 4294967296, rfl, rfl, rfl, by omega, by simp [hol], hos.set _ _ (by omega), by omega, add_step hk (by omega) heq (by rw [getD_of hkb])⟩ ⟨rfl, rfl, rfl, rfl, rfl, rfl, rfl, trivial⟩
      · skip
        refine Tl_q (JO_q rfl rfl (Jq_lss rfl rfl rfl (b := false) (dF (by omega)))) rfl ?_
        refine Tl_end ?_
        refine At_then ?_
        refine Tc_f rfl ?_
        refine Tc_skipA ?_
        refine At_then ?_
        refine Tc_seq ?_
        refine Tc_region ?_
        refine Tl_q (JO_q rfl rfl (Jq_move rfl rfl)) rfl ?_
        refine Tl_q (JO_q rfl rfl (Jq_move rfl rfl)) rfl ?_
        refine Tl_q (JO_q rfl rfl (Jq_move rfl rfl)) rfl ?_
        refine Tl_q (JO_q rfl rfl (Jq_convert rfl rfl un62 us59 (r := (((c + b[k]) % 4294967296 : Nat) : Int)) (wu32 (by omega)))) rfl ?_
        refine Tl_q (JO_q rfl rfl (Jq_index_own rfl rfl rfl rfl (by decide) (by simp [hol]) (by decide) un23 ty62 (by omega) (by omega) (off := k) (by omega))) rfl ?_
        refine Tl_e (JO_e rfl rfl (Je_store (ls := ((out.set k ((c + b[k]) % 4294967296)).map u32L)) rfl rfl rfl rfl ty62 rfl (by decide) (by simp; omega) (splice_u32 (by omega)))) rfl rfl ?_
        refine Tl_end ?_
        refine At_then ?_
        refine Tc_region ?_
        refine Tl_q (JO_q rfl rfl (Jq_move rfl rfl)) rfl ?_
        refine Tl_q (JO_q rfl rfl (Jq_shr rfl rfl rfl (by decide) (r := (((c + b[k]) / 4294967296 : Nat) : Int)) (shr_nat _ 32 rfl))) rfl ?_
        refine Tl_q (JO_q rfl rfl (Jq_assign rfl rfl)) rfl ?_
        refine Tl_end ?_
        refine At_block ?_
        refine At_then ?_
        refine Tc_region ?_
        refine Tl_q (JO_q rfl rfl (Jq_add rfl rfl rfl (r := ((k + 1 : Nat) : Int)) (w64 (by omega) (by omega) (by omega)))) rfl ?_
        refine Tl_q (JO_q rfl rfl (Jq_move rfl rfl)) rfl ?_
        refine Tl_end ?_
        exact At_next (m' := b.length - (k + 1)) (by omega) ⟨k + 1, _, (c + b[k]) / 4294967296, rfl, rfl, rfl, by omega, by simp [hol], hos.set _ _ (by omega), by omega, add_step hk (by omega) heq (by rw [getD_out (by omega), Nat.add_zero])⟩ ⟨rfl, rfl, rfl, rfl, rfl, rfl, rfl, trivial⟩
    · skip
      refine Tl_q (JO_q rfl rfl (Jq_lss rfl rfl rfl (b := false) (dF (by omega)))) rfl ?_
      refine Tl_end ?_
      refine At_then ?_
      refine Tc_seq ?_
      refine Tc_f rfl ?_
      refine Tc_exitA ?_
      refine At_then_exit ?_
      refine At_then_exit ?_
      refine At_block_exit ?_
      refine At_then ?_
      refine Tc_seq ?_
      refine Tc_region ?_
      refine Tl_q (JO_q rfl rfl (Jq_move rfl rfl)) rfl ?_
      refine Tl_q (JO_q rfl rfl (Jq_move rfl rfl)) rfl ?_
      refine Tl_q (JO_q rfl rfl (Jq_len rfl rfl un23)) rfl ?_
      refine Tl_q (JO_q rfl rfl (Jq_move rfl rfl)) rfl ?_
      refine Tl_q (JO_q rfl rfl (Jq_convert rfl rfl un62 us59 (r := ((c : Nat) : Int)) (wu32 (by omega)))) rfl ?_
      refine Tl_q (JO_q rfl rfl (Jq_index_own rfl rfl rfl rfl (by decide) (by simp [hol]) (by decide) un23 ty62 (by omega) (by omega) (off := b.length) (by omega))) rfl ?_
      refine Tl_e (JO_e rfl rfl (Je_store (ls := ((out.set b.length c).map u32L)) rfl rfl rfl rfl ty62 rfl (by decide) (by simp; omega) (splice_u32 (by omega)))) rfl rfl ?_
      refine Tl_end ?_
      refine At_then ?_
      refine Tc_seq ?_
      refine Tc_region ?_
      refine Tl_q (JO_q rfl rfl (Jq_move rfl rfl)) rfl ?_
      refine Tl_share_nat 60 (out.set b.length c) rfl rfl rfl rfl (by simp [hol]) ?_
      refine Tl_e (JO_e rfl rfl (Je_call rfl fn60 rfl (trim_spec (out.set b.length c) (hos.set _ _ (by omega))))) rfl rfl ?_
      refine Tl_q (JO_q rfl rfl (Jq_assign rfl rfl)) rfl ?_
      refine Tl_end ?_
      refine At_then ?_
      have hke : k = b.length := by omega
      subst hke
      have hfin := val_set_take out b.length c (by omega)
      rw [val_take_all _ _ (by simp [hol])] at hfin
      rw [val_take_all b _ (Nat.le_refl _), val_take_all a _ (by omega)] at heq
      exact Tc_ret1 (fun _ _ h => h) rfl rfl (by rw [show val (out.set b.length c) = val la + val lb from by rw [hfin, ← va, ← vb, Nat.mul_comm]; omega])
  · skip
    refine Tl_q (JO_q rfl rfl (Jq_lss rfl rfl rfl (b := false) (dF (by omega)))) rfl ?_
    refine Tl_end ?_
    refine At_then ?_
    refine Tc_f rfl ?_
    refine Tc_skipA ?_
    refine At_then ?_
    refine Tc_seq ?_
    refine Tc_region ?_
    refine Tl_q (JO_q rfl rfl (Jq_move rfl rfl)) rfl ?_
    refine Tl_q (JO_q rfl rfl (Jq_len rfl rfl un23)) rfl ?_
    refine Tl_q (JO_q rfl rfl (Jq_add rfl rfl rfl (r := ((a.length + 1 : Nat) : Int)) (w64 (by omega) (by omega) (by omega)))) rfl ?_
    obtain ⟨ti6, hi6, hz6, hs6, hb6⟩ := in62
    refine Tl_e (JO_e rfl rfl (Je_make (i := 0) (n := a.length + 1) (ls := ((List.replicate (a.length + 1) 0).map u32L)) rfl rfl rfl un23 hi6 hz6 hs6 (by decide) rfl (by decide) rfl (by rw [hb6]; omega) (by simp only [maxLen]; omega) (zc_u32 _) rfl)) rfl rfl ?_
    refine Tl_q (JO_q rfl rfl (Jq_assign rfl rfl)) rfl ?_
    refine Tl_end ?_
    refine At_then ?_
    refine Tc_seq ?_
    refine Tc_region ?_
    refine Tl_q (JO_q rfl rfl (Jq_assign rfl rfl)) rfl ?_
    refine Tl_end ?_
    refine At_then ?_
    refine Tc_seq ?_
    refine Tc_seq ?_
    refine Tc_region ?_
    refine Tl_q (JO_q rfl rfl (Jq_move rfl rfl)) rfl ?_
    refine Tl_q (JO_q rfl rfl (Jq_len rfl rfl un23)) rfl ?_
    refine Tl_q (JO_q rfl rfl (Jq_move rfl rfl)) rfl ?_
    refine Tl_end ?_
    refine At_then ?_
    refine Tc_block ?_
    refine Tc_loopR (fun m Γ H => ∃ (k : Nat) (out : List Nat) (c : Nat), a.length - k = m ∧ Γ = [(0, some (D.v (V.one (natL a)))), (1, some (D.v (V.one (natL b)))), (5, some (D.own 0 (a.length + 1))), (6, some (D.val (.int .u64 ((c : Nat) : Int)))), (24, some (D.v (V.one (natL a)))), (25, some (D.int ((a.length : Nat) : Int))), (26, some (D.int ((k : Nat) : Int)))] ∧ H = [some ⟨62, out.map u32L, some 1, none⟩] ∧ k ≤ a.length ∧ out.length = a.length + 1 ∧ Small out ∧ c ≤ 1 ∧ val (out.take k) + c * 4294967296 ^ k = val (a.take k) + val (b.take k)) ⟨0, List.replicate (a.length + 1) 0, 0, rfl, rfl, rfl, Nat.zero_le _, by simp, Small.replicate _, by omega, rfl⟩ ⟨rfl, rfl, rfl, rfl, rfl, rfl, rfl, trivial⟩ ?_
    rintro m Γ H ⟨k, out, c, rfl, rfl, rfl, hkle, hol, hos, hc, heq⟩
    refine Tc_seq ?_
    refine Tc_region ?_
    by_cases hk : k < a.length
    · skip
      refine Tl_q (JO_q rfl rfl (Jq_lss rfl rfl rfl (b := true) (dT (by omega)))) rfl ?_
      refine Tl_end ?_
      refine At_then ?_
      refine Tc_seq ?_
      refine Tc_t rfl ?_
      refine Tc_skipA ?_
      refine At_then ?_
      refine Tc_seq ?_
      refine Tc_block ?_
      refine Tc_seq ?_
      have hak := sa.get k hk; have hbk := sb.getD k
      refine Tc_region ?_
      refine Tl_q (JO_q rfl rfl (Jq_move rfl rfl)) rfl ?_
      refine Tl_q (JO_q rfl rfl (Jq_index1 rfl rfl rfl un23 ty62 (by omega) (by omega) (get_u32 (by omega)))) rfl ?_
      refine Tl_q (JO_q rfl rfl (Jq_load_ref rfl rfl ty62)) rfl ?_
      refine Tl_q (JO_q rfl rfl (Jq_assign rfl rfl)) rfl ?_
      refine Tl_q (JO_q rfl rfl (Jq_assign rfl rfl)) rfl ?_
      refine Tl_end ?_
      refine At_then ?_
      refine Tc_seq ?_
      refine Tc_region ?_
      refine Tl_q (JO_q rfl rfl (Jq_move rfl rfl)) rfl ?_
      refine Tl_q (JO_q rfl rfl (Jq_move rfl rfl)) rfl ?_
      refine Tl_q (JO_q rfl rfl (Jq_convert rfl rfl un59 us62 (r := ((a[k]'hk : Nat) : Int)) (wu64 (by omega)))) rfl ?_
      refine Tl_q (JO_q rfl rfl (Jq_add rfl rfl rfl (r := ((c + a[k]'hk : Nat) : Int)) (wu64 (by omega)))) rfl ?_
      refine Tl_q (JO_q rfl rfl (Jq_assign rfl rfl)) rfl ?_
      refine Tl_end ?_
      refine At_then ?_
      refine Tc_seq ?_
      refine Tc_seq ?_
      refine Tc_region ?_
      refine Tl_q (JO_q rfl rfl (Jq_move rfl rfl)) rfl ?_
      refine Tl_q (JO_q rfl rfl (Jq_move rfl rfl)) rfl ?_
      refine Tl_q (JO_q rfl rfl (Jq_len rfl rfl un23)) rfl ?_
      by_cases hkb : k < b.length
      · skip
        refine Tl_q (JO_q rfl rfl (Jq_lss rfl rfl rfl (b := true) (dT (by omega)))) rfl ?_
        refine Tl_end ?_
        refine At_then ?_
        refine Tc_t rfl ?_
        have hbk2 := sb.get k hkb
        refine Tc_region ?_
        refine Tl_q (JO_q rfl rfl (Jq_move rfl rfl)) rfl ?_
        refine Tl_q (JO_q rfl rfl (Jq_move rfl rfl)) rfl ?_
        refine Tl_q (JO_q rfl rfl (Jq_move rfl rfl)) rfl ?_
        refine Tl_q (JO_q rfl rfl (Jq_index1 rfl rfl rfl un23 ty62 (by omega) (by omega) (get_u32 (by omega)))) rfl ?_
        refine Tl_q (JO_q rfl rfl (Jq_load_ref rfl rfl ty62)) rfl ?_
        refine Tl_q (JO_q rfl rfl (Jq_convert rfl rfl un59 us62 (r := ((b[k]'hkb : Nat) : Int)) (wu64 (by omega)))) rfl ?_
        refine Tl_q (JO_q rfl rfl (Jq_add rfl rfl rfl (r := ((c + a[k]'hk + b[k]'hkb : Nat) : Int)) (wu64 (by omega)))) rfl ?_
        refine Tl_q (JO_q rfl rfl (Jq_assign rfl rfl)) rfl ?_
        refine Tl_end ?_
        refine At_then ?_
        refine Tc_seq ?_
        refine Tc_region ?_
        refine Tl_q (JO_q rfl rfl (Jq_move rfl rfl)) rfl ?_
        refine Tl_q (JO_q rfl rfl (Jq_move rfl rfl)) rfl ?_
        refine Tl_q (JO_q rfl rfl (Jq_move rfl rfl)) rfl ?_
        refine Tl_q (JO_q rfl rfl (Jq_convert rfl rfl un62 us59 (r := (((c + a[k] + b[k]) % 4294967296 : Nat) : Int)) (wu32 (by omega)))) rfl ?_
        refine Tl_q (JO_q rfl rfl (Jq_index_own rfl rfl rfl rfl (by decide) (by simp [hol]) (by decide) un23 ty62 (by omega) (by omega) (off := k) (by omega))) rfl ?_
        refine Tl_e (JO_e rfl rfl (Je_store (ls := ((out.set k ((c + a[k] + b[k]) % 4294967296)).map u32L)) rfl rfl rfl rfl ty62 rfl (by decide) (by simp; omega) (splice_u32 (by omega)))) rfl rfl ?_
        refine Tl_end ?_
        refine At_then ?_
        refine Tc_region ?_
        refine Tl_q (JO_q rfl rfl (Jq_move rfl rfl)) rfl ?_
        refine Tl_q (JO_q rfl rfl (Jq_shr rfl rfl rfl (by decide) (r := (((c + a[k] + b[k]) / 4294967296 : Nat) : Int)) (shr_nat _ 32 rfl))) rfl ?_
        refine Tl_q (JO_q rfl rfl (Jq_assign rfl rfl)) rfl ?_
        refine Tl_end ?_
        refine At_block ?_
        refine At_then ?_
        refine Tc_region ?_
        refine Tl_q (JO_q rfl rfl (Jq_add rfl rfl rfl (r := ((k + 1 : Nat) : Int)) (w64 (by omega) (by omega) (by omega)))) rfl ?_
        refine Tl_q (JO_q rfl rfl (Jq_move rfl rfl)) rfl ?_
        refine Tl_end ?_
        exact At_next (m' := a.length - (k + 1)) (by omega) ⟨k + 1, _, (c + a[k] + b[k]) / 4294967296, rfl, rfl, rfl, by omega, by simp [hol], hos.set _ _ (by omega), by omega, add_step hk (by omega) heq (by rw [getD_of hkb])⟩ ⟨rfl, rfl, rfl, rfl, rfl, rfl, rfl, trivial⟩
      · skip
        refine Tl_q (JO_q rfl rfl (Jq_lss rfl rfl rfl (b := false) (dF (by omega)))) rfl ?_
        refine Tl_end ?_
        refine At_then ?_
        refine Tc_f rfl ?_
        refine Tc_skipA ?_
        refine At_then ?_
        refine Tc_seq ?_
        refine Tc_region ?_
        refine Tl_q (JO_q rfl rfl (Jq_move rfl rfl)) rfl ?_
        refine Tl_q (JO_q rfl rfl (Jq_move rfl rfl)) rfl ?_
        refine Tl_q (JO_q rfl rfl (Jq_move rfl rfl)) rfl ?_
        refine Tl_q (JO_q rfl rfl (Jq_convert rfl rfl un62 us59 (r := (((c + a[k]) % 4294967296 : Nat) : Int)) (wu32 (by omega)))) rfl ?_
        refine Tl_q (JO_q rfl rfl (Jq_index_own rfl rfl rfl rfl (by decide) (by simp [hol]) (by decide) un23 ty62 (by omega) (by omega) (off := k) (by omega))) rfl ?_
        refine Tl_e (JO_e rfl rfl (Je_store (ls := ((out.set k ((c + a[k]) % 4294967296)).map u32L)) rfl rfl rfl rfl ty62 rfl (by decide) (by simp; omega) (splice_u32 (by omega)))) rfl rfl ?_
        refine Tl_end ?_
        refine At_then ?_
        refine Tc_region ?_
        refine Tl_q (JO_q rfl rfl (Jq_move rfl rfl)) rfl ?_
        refine Tl_q (JO_q rfl rfl (Jq_shr rfl rfl rfl (by decide) (r := (((c + a[k]) / 4294967296 : Nat) : Int)) (shr_nat _ 32 rfl))) rfl ?_
        refine Tl_q (JO_q rfl rfl (Jq_assign rfl rfl)) rfl ?_
        refine Tl_end ?_
        refine At_block ?_
        refine At_then ?_
        refine Tc_region ?_
        refine Tl_q (JO_q rfl rfl (Jq_add rfl rfl rfl (r := ((k + 1 : Nat) : Int)) (w64 (by omega) (by omega) (by omega)))) rfl ?_
        refine Tl_q (JO_q rfl rfl (Jq_move rfl rfl)) rfl ?_
        refine Tl_end ?_
        exact At_next (m' := a.length - (k + 1)) (by omega) ⟨k + 1, _, (c + a[k]) / 4294967296, rfl, rfl, rfl, by omega, by simp [hol], hos.set _ _ (by omega), by omega, add_step hk (by omega) heq (by rw [getD_out (by omega), Nat.add_zero])⟩ ⟨rfl, rfl, rfl, rfl, rfl, rfl, rfl, trivial⟩
    · skip
      refine Tl_q (JO_q rfl rfl (Jq_lss rfl rfl rfl (b := false) (dF (by omega)))) rfl ?_
      refine Tl_end ?_
      refine At_then ?_
      refine Tc_seq ?_
      refine Tc_f rfl ?_
      refine Tc_exitA ?_
      refine At_then_exit ?_
      refine At_then_exit ?_
      refine At_block_exit ?_
      refine At_then ?_
      refine Tc_seq ?_
      refine Tc_region ?_
      refine Tl_q (JO_q rfl rfl (Jq_move rfl rfl)) rfl ?_
      refine Tl_q (JO_q rfl rfl (Jq_move rfl rfl)) rfl ?_
      refine Tl_q (JO_q rfl rfl (Jq_len rfl rfl un23)) rfl ?_
      refine Tl_q (JO_q rfl rfl (Jq_move rfl rfl)) rfl ?_
      refine Tl_q (JO_q rfl rfl (Jq_convert rfl rfl un62 us59 (r := ((c : Nat) : Int)) (wu32 (by omega)))) rfl ?_
      refine Tl_q (JO_q rfl rfl (Jq_index_own rfl rfl rfl rfl (by decide) (by simp [hol]) (by decide) un23 ty62 (by omega) (by omega) (off := a.length) (by omega))) rfl ?_
      refine Tl_e (JO_e rfl rfl (Je_store (ls := ((out.set a.length c).map u32L)) rfl rfl rfl rfl ty62 rfl (by decide) (by simp; omega) (splice_u32 (by omega)))) rfl rfl ?_
      refine Tl_end ?_
      refine At_then ?_
      refine Tc_seq ?_
      refine Tc_region ?_
      refine Tl_q (JO_q rfl rfl (Jq_move rfl rfl)) rfl ?_
      refine Tl_share_nat 60 (out.set a.length c) rfl rfl rfl rfl (by simp [hol]) ?_
      refine Tl_e (JO_e rfl rfl (Je_call rfl fn60 rfl (trim_spec (out.set a.length c) (hos.set _ _ (by omega))))) rfl rfl ?_
      refine Tl_q (JO_q rfl rfl (Jq_assign rfl rfl)) rfl ?_
      refine Tl_end ?_
      refine At_then ?_
      have hke : k = a.length := by omega
      subst hke
      have hfin := val_set_take out a.length c (by omega)
      rw [val_take_all _ _ (by simp [hol])] at hfin
      rw [val_take_all a _ (Nat.le_refl _), val_take_all b _ (by omega)] at heq
      exact Tc_ret1 (fun _ _ h => h) rfl rfl (by rw [show val (out.set a.length c) = val la + val lb from by rw [hfin, ← va, ← vb, Nat.mul_comm]; omega])

set_option maxRecDepth 10000 in
theorem mul_spec (la lb : List Nat) (hsa : Small la) (hsb : Small lb) (hla0 : la.length ≤ 10000000000000) (hlb0 : lb.length ≤ 10000000000000) : Ctr Tryz.prog 47 [V.one (natL la), V.one (natL lb)] (R.one (V.one (natL (limbs (val la * val lb))))) := by
  refine Ctr.of_body Tryz.func47 rfl Tryz.ntmps47 (Nat.le_of_ble_eq_true rfl) (fun w0 A0 => ?_)
  refine Tc_seq ?_
  refine Tc_region ?_
  refine Tl_q (JO_q rfl rfl (Jq_assign_nil rfl)) rfl ?_
  refine Tl_end ?_
  refine At_then ?_
  refine Tc_seq ?_
  refine Tc_region ?_
  refine Tl_q (JO_q rfl rfl (Jq_move rfl rfl)) rfl ?_
  refine Tl_e (JO_e rfl rfl (Je_call rfl fn60 rfl (trim_spec la hsa))) rfl rfl ?_
  refine Tl_q (JO_q rfl rfl (Jq_move rfl rfl)) rfl ?_
  refine Tl_e (JO_e rfl rfl (Je_call rfl fn60 rfl (trim_spec lb hsb))) rfl rfl ?_
  refine Tl_q (JO_q rfl rfl (Jq_assign rfl rfl)) rfl ?_
  refine Tl_q (JO_q rfl rfl (Jq_assign rfl rfl)) rfl ?_
  refine Tl_end ?_
  refine At_then ?_
  refine Tc_seq ?_
  refine Tc_seq ?_
  have hla := limbs_val_length hsa; have hlb := limbs_val_length hsb
  have va := val_limbs (val la); have vb := val_limbs (val lb); have sa := small_limbs (val la); have sb := small_limbs (val lb)
  have ea : (limbs (val la)).length = 0 → val la = 0 := fun h => limbs_eq_nil.1 (List.eq_nil_of_length_eq_zero h)
  have eb : (limbs (val lb)).length = 0 → val lb = 0 := fun h => limbs_eq_nil.1 (List.eq_nil_of_length_eq_zero h)
  generalize limbs (val la) = a at *
  generalize limbs (val lb) = b at *
  refine Tc_region ?_
  refine Tl_q (JO_q rfl rfl (Jq_move rfl rfl)) rfl ?_
  refine Tl_q (JO_q rfl rfl (Jq_len rfl rfl un23)) rfl ?_
  by_cases ha0 : a.length = 0
  · skip
    refine Tl_q (JO_q rfl rfl (Jq_eql rfl rfl rfl (b := true) (eT (by omega)))) rfl ?_
    refine Tl_q (JO_q rfl rfl (Jq_move rfl rfl)) rfl ?_
    refine Tl_q (JO_skip rfl rfl rfl) rfl ?_
    refine Tl_q (JO_skip rfl rfl rfl) rfl ?_
    refine Tl_q (JO_skip rfl rfl rfl) rfl ?_
    refine Tl_q (JO_q rfl rfl (Jq_pick_t rfl rfl rfl)) rfl ?_
    refine Tl_end ?_
    refine At_then ?_
    refine Tc_t rfl ?_
    refine Tc_seq ?_
    refine Tc_region ?_
    refine Tl_q (JO_q rfl rfl (Jq_assign_nil rfl)) rfl ?_
    refine Tl_end ?_
    refine At_then ?_
    exact Tc_ret1 (fun _ _ h => h) rfl rfl (by rw [ea ha0, Nat.zero_mul, limbs_zero]; rfl)
  · skip
    refine Tl_q (JO_q rfl rfl (Jq_eql rfl rfl rfl (b := false) (eF (by omega)))) rfl ?_
    refine Tl_q (JO_q rfl rfl (Jq_move rfl rfl)) rfl ?_
    refine Tl_q (JO_qg rfl rfl rfl rfl (Jq_move rfl rfl)) rfl ?_
    refine Tl_q (JO_qg rfl rfl rfl rfl (Jq_len rfl rfl un23)) rfl ?_
    by_cases hb0 : b.length = 0
    · skip
      refine Tl_q (JO_qg rfl rfl rfl rfl (Jq_eql rfl rfl rfl (b := true) (eT (by omega)))) rfl ?_
      refine Tl_q (JO_q rfl rfl (Jq_pick_f rfl rfl rfl)) rfl ?_
      refine Tl_end ?_
      refine At_then ?_
      refine Tc_t rfl ?_
      refine Tc_seq ?_
      refine Tc_region ?_
      refine Tl_q (JO_q rfl rfl (Jq_assign_nil rfl)) rfl ?_
      refine Tl_end ?_
      refine At_then ?_
      exact Tc_ret1 (fun _ _ h => h) rfl rfl (by rw [eb hb0, Nat.mul_zero, limbs_zero]; rfl)
    · skip
      refine Tl_q (JO_qg rfl rfl rfl rfl (Jq_eql rfl rfl rfl (b := false) (eF (by omega)))) rfl ?_
      refine Tl_q (JO_q rfl rfl (Jq_pick_f rfl rfl rfl)) rfl ?_
      refine Tl_end ?_
      refine At_then ?_
      refine Tc_f rfl ?_
      refine Tc_skipA ?_
      refine At_then ?_
      refine Tc_seq ?_
      refine Tc_region ?_
      refine Tl_q (JO_q rfl rfl (Jq_move rfl rfl)) rfl ?_
      refine Tl_q (JO_q rfl rfl (Jq_len rfl rfl un23)) rfl ?_
      refine Tl_q (JO_q rfl rfl (Jq_move rfl rfl)) rfl ?_
      refine Tl_q (JO_q rfl rfl (Jq_len rfl rfl un23)) rfl ?_
      refine Tl_q (JO_q rfl rfl (Jq_add rfl rfl rfl (r := ((a.length + b.length : Nat) : Int)) (w64 (by omega) (by omega) (by omega)))) rfl ?_
      obtain ⟨ti3, hi3, hz3, hs3, hb3⟩ := in62
      refine Tl_e (JO_e rfl rfl (Je_make (i := 0) (n := a.length + b.length) (ls := ((List.replicate (a.length + b.length) 0).map u32L)) rfl rfl rfl un23 hi3 hz3 hs3 (by decide) rfl (by decide) rfl (by rw [hb3]; omega) (by simp only [maxLen]; omega) (zc_u32 _) rfl)) rfl rfl ?_
      refine Tl_q (JO_q rfl rfl (Jq_assign rfl rfl)) rfl ?_
      refine Tl_end ?_
      refine At_then ?_
      refine Tc_seq ?_
      refine Tc_seq ?_
      refine Tc_region ?_
      refine Tl_q (JO_q rfl rfl (Jq_move rfl rfl)) rfl ?_
      refine Tl_q (JO_q rfl rfl (Jq_len rfl rfl un23)) rfl ?_
      refine Tl_q (JO_q rfl rfl (Jq_move rfl rfl)) rfl ?_
      refine Tl_end ?_
      refine At_then ?_
      refine Tc_block ?_
      refine Tc_loopR (fun m Γ H => ∃ (i : Nat) (out : List Nat), a.length - i = m ∧ Γ = [(0, some (D.v (V.one (natL a)))), (1, some (D.v (V.one (natL b)))), (5, some (D.own 0 (a.length + b.length))), (29, some (D.v (V.one (natL a)))), (30, some (D.int ((a.length : Nat) : Int))), (31, some (D.int ((i : Nat) : Int)))] ∧ H = [some ⟨62, out.map u32L, some 1, none⟩] ∧ i ≤ a.length ∧ out.length = a.length + b.length ∧ Small out ∧ val out = val (a.take i) * val b ∧ (∀ j (hj : j < out.length), i + b.length ≤ j → out[j] = 0)) ⟨0, List.replicate (a.length + b.length) 0, rfl, rfl, rfl, Nat.zero_le _, by simp, Small.replicate _, by simp [val_replicate], by intro j hj _; simp⟩ ⟨rfl, rfl, rfl, rfl, rfl, rfl, trivial⟩ ?_
      rintro m Γ H ⟨i, out, rfl, rfl, rfl, hile, hol, hos, heq, hzero⟩
      refine Tc_seq ?_
      refine Tc_region ?_
      by_cases hi : i < a.length
      · skip
        refine Tl_q (JO_q rfl rfl (Jq_lss rfl rfl rfl (b := true) (dT (by omega)))) rfl ?_
        refine Tl_end ?_
        refine At_then ?_
        refine Tc_seq ?_
        refine Tc_t rfl ?_
        refine Tc_skipA ?_
        refine At_then ?_
        refine Tc_seq ?_
        refine Tc_block ?_
        refine Tc_seq ?_
        have hai := sa.get i hi
        refine Tc_region ?_
        refine Tl_q (JO_q rfl rfl (Jq_move rfl rfl)) rfl ?_
        refine Tl_q (JO_q rfl rfl (Jq_index1 rfl rfl rfl un23 ty62 (by omega) (by omega) (get_u32 (by omega)))) rfl ?_
        refine Tl_q (JO_q rfl rfl (Jq_load_ref rfl rfl ty62)) rfl ?_
        refine Tl_q (JO_q rfl rfl (Jq_assign rfl rfl)) rfl ?_
        refine Tl_q (JO_q rfl rfl (Jq_assign rfl rfl)) rfl ?_
        refine Tl_end ?_
        refine At_then ?_
        refine Tc_seq ?_
        refine Tc_region ?_
        refine Tl_q (JO_q rfl rfl (Jq_assign rfl rfl)) rfl ?_
        refine Tl_end ?_
        refine At_then ?_
        refine Tc_seq ?_
        refine Tc_seq ?_
        refine Tc_region ?_
        refine Tl_q (JO_q rfl rfl (Jq_move rfl rfl)) rfl ?_
        refine Tl_q (JO_q rfl rfl (Jq_len rfl rfl un23)) rfl ?_
        refine Tl_q (JO_q rfl rfl (Jq_move rfl rfl)) rfl ?_
        refine Tl_end ?_
        refine At_then ?_
        refine Tc_block ?_
        refine Tc_loopR (fun m Γ H => ∃ (k : Nat) (o : List Nat) (c : Nat), b.length - k = m ∧ Γ = [(0, some (D.v (V.one (natL a)))), (1, some (D.v (V.one (natL b)))), (5, some (D.own 0 (a.length + b.length))), (6, some (D.int ((i : Nat) : Int))), (7, some (D.val (.int .u32 ((a[i]'hi : Nat) : Int)))), (8, some (D.val (.int .u64 ((c : Nat) : Int)))), (29, some (D.v (V.one (natL a)))), (30, some (D.int ((a.length : Nat) : Int))), (31, some (D.int ((i : Nat) : Int))), (36, some (D.v (V.one (natL b)))), (37, some (D.int ((b.length : Nat) : Int))), (38, some (D.int ((k : Nat) : Int)))] ∧ H = [some ⟨62, o.map u32L, some 1, none⟩] ∧ k ≤ b.length ∧ o.length = a.length + b.length ∧ Small o ∧ c < 4294967296 ∧ val o + c * 4294967296 ^ (i + k) = val (a.take i) * val b + 4294967296 ^ i * (a[i] * val (b.take k)) ∧ (∀ j (hj : j < o.length), i + b.length ≤ j → o[j] = 0)) ⟨0, out, 0, rfl, rfl, rfl, Nat.zero_le _, hol, hos, by omega, by simp [heq], hzero⟩ ⟨rfl, rfl, rfl, rfl, rfl, rfl, rfl, rfl, rfl, rfl, rfl, rfl, trivial⟩ ?_
        rintro m Γ H ⟨k, o, c, rfl, rfl, rfl, hkle, hoo1, hoo, hc, hq, hz1⟩
        refine Tc_seq ?_
        refine Tc_region ?_
        by_cases hk : k < b.length
        · skip
          refine Tl_q (JO_q rfl rfl (Jq_lss rfl rfl rfl (b := true) (dT (by omega)))) rfl ?_
          refine Tl_end ?_
          refine At_then ?_
          refine Tc_seq ?_
          refine Tc_t rfl ?_
          refine Tc_skipA ?_
          refine At_then ?_
          refine Tc_seq ?_
          refine Tc_block ?_
          refine Tc_seq ?_
          have hbk := sb.get k hk; have hok := hoo.get (i + k) (by omega)
          have hm := mul_carry hc hai hbk hok
          have hm2 := hm.1
          refine Tc_region ?_
          refine Tl_q (JO_q rfl rfl (Jq_move rfl rfl)) rfl ?_
          refine Tl_q (JO_q rfl rfl (Jq_index1 rfl rfl rfl un23 ty62 (by omega) (by omega) (get_u32 (by omega)))) rfl ?_
          refine Tl_q (JO_q rfl rfl (Jq_load_ref rfl rfl ty62)) rfl ?_
          refine Tl_q (JO_q rfl rfl (Jq_assign rfl rfl)) rfl ?_
          refine Tl_q (JO_q rfl rfl (Jq_assign rfl rfl)) rfl ?_
          refine Tl_end ?_
          refine At_then ?_
          refine Tc_seq ?_
          refine Tc_region ?_
          refine Tl_q (JO_q rfl rfl (Jq_move rfl rfl)) rfl ?_
          refine Tl_q (JO_q rfl rfl (Jq_move rfl rfl)) rfl ?_
          refine Tl_q (JO_q rfl rfl (Jq_convert rfl rfl un59 us62 (r := ((a[i]'hi : Nat) : Int)) (wu64 (by omega)))) rfl ?_
          refine Tl_q (JO_q rfl rfl (Jq_move rfl rfl)) rfl ?_
          refine Tl_q (JO_q rfl rfl (Jq_convert rfl rfl un59 us62 (r := ((b[k]'hk : Nat) : Int)) (wu64 (by omega)))) rfl ?_
          refine Tl_q (JO_q rfl rfl (Jq_mul rfl rfl rfl (r := ((a[i]'hi * b[k]'hk : Nat) : Int)) (wu64 (by rw [← Int.natCast_mul]; omega)))) rfl ?_
          refine Tl_q (JO_q rfl rfl (Jq_move rfl rfl)) rfl ?_
          refine Tl_q (JO_q rfl rfl (Jq_move rfl rfl)) rfl ?_
          refine Tl_q (JO_q rfl rfl (Jq_move rfl rfl)) rfl ?_
          refine Tl_q (JO_q rfl rfl (Jq_add rfl rfl rfl (r := ((i + k : Nat) : Int)) (w64 (by omega) (by omega) (by omega)))) rfl ?_
          refine Tl_q (JO_q rfl rfl (Jq_index_own rfl rfl rfl rfl (by decide) (by simp [hoo1]) (by decide) un23 ty62 (by omega) (by omega) (off := i + k) (by omega))) rfl ?_
          refine Tl_q (JO_q rfl rfl (Jq_load rfl rfl rfl (by decide) ty62 (get_own (by omega)))) rfl ?_
          refine Tl_q (JO_q rfl rfl (Jq_convert rfl rfl un59 us62 (r := ((o[i + k]'(by omega) : Nat) : Int)) (wu64 (by omega)))) rfl ?_
          refine Tl_q (JO_q rfl rfl (Jq_add rfl rfl rfl (r := ((a[i]'hi * b[k]'hk + o[i + k]'(by omega) : Nat) : Int)) (wu64 (by omega)))) rfl ?_
          refine Tl_q (JO_q rfl rfl (Jq_add rfl rfl rfl (r := ((c + (a[i]'hi * b[k]'hk + o[i + k]'(by omega)) : Nat) : Int)) (wu64 (by omega)))) rfl ?_
          refine Tl_q (JO_q rfl rfl (Jq_assign rfl rfl)) rfl ?_
          refine Tl_end ?_
          refine At_then ?_
          refine Tc_seq ?_
          refine Tc_region ?_
          refine Tl_q (JO_q rfl rfl (Jq_move rfl rfl)) rfl ?_
          refine Tl_q (JO_q rfl rfl (Jq_move rfl rfl)) rfl ?_
          refine Tl_q (JO_q rfl rfl (Jq_move rfl rfl)) rfl ?_
          refine Tl_q (JO_q rfl rfl (Jq_add rfl rfl rfl (r := ((i + k : Nat) : Int)) (w64 (by omega) (by omega) (by omega)))) rfl ?_
          refine Tl_q (JO_q rfl rfl (Jq_move rfl rfl)) rfl ?_
          refine Tl_q (JO_q rfl rfl (Jq_convert rfl rfl un62 us59 (r := (((c + (a[i]'hi * b[k]'hk + o[i + k]'(by omega))) % 4294967296 : Nat) : Int)) (wu32 (by omega)))) rfl ?_
          refine Tl_q (JO_q rfl rfl (Jq_index_own rfl rfl rfl rfl (by decide) (by simp [hoo1]) (by decide) un23 ty62 (by omega) (by omega) (off := i + k) (by omega))) rfl ?_
          refine Tl_e (JO_e rfl rfl (Je_store (ls := ((o.set (i + k) ((c + (a[i]'hi * b[k]'hk + o[i + k]'(by omega))) % 4294967296)).map u32L)) rfl rfl rfl rfl ty62 rfl (by decide) (by simp; omega) (splice_u32 (by omega)))) rfl rfl ?_
          refine Tl_end ?_
          refine At_then ?_
          refine Tc_region ?_
          refine Tl_q (JO_q rfl rfl (Jq_move rfl rfl)) rfl ?_
          refine Tl_q (JO_q rfl rfl (Jq_shr rfl rfl rfl (by decide) (r := (((c + (a[i]'hi * b[k]'hk + o[i + k]'(by omega))) / 4294967296 : Nat) : Int)) (shr_nat _ 32 rfl))) rfl ?_
          refine Tl_q (JO_q rfl rfl (Jq_assign rfl rfl)) rfl ?_
          refine Tl_end ?_
          refine At_block ?_
          refine At_then ?_
          refine Tc_region ?_
          refine Tl_q (JO_q rfl rfl (Jq_add rfl rfl rfl (r := ((k + 1 : Nat) : Int)) (w64 (by omega) (by omega) (by omega)))) rfl ?_
          refine Tl_q (JO_q rfl rfl (Jq_move rfl rfl)) rfl ?_
          refine Tl_end ?_
          exact At_next (m' := b.length - (k + 1)) (by omega) ⟨k + 1, _, _, rfl, rfl, rfl, by omega, by simp [hoo1], hoo.set _ _ (by omega), hm.2.1, mul_step hk (by omega) _ hq, by intro j hj hle; rw [List.getElem_set_ne (by omega)]; exact hz1 j (by simpa using hj) hle⟩ ⟨rfl, rfl, rfl, rfl, rfl, rfl, rfl, rfl, rfl, rfl, rfl, rfl, trivial⟩
        · skip
          refine Tl_q (JO_q rfl rfl (Jq_lss rfl rfl rfl (b := false) (dF (by omega)))) rfl ?_
          refine Tl_end ?_
          refine At_then ?_
          refine Tc_seq ?_
          refine Tc_f rfl ?_
          refine Tc_exitA ?_
          refine At_then_exit ?_
          refine At_then_exit ?_
          refine At_block_exit ?_
          refine At_then ?_
          refine Tc_region ?_
          refine Tl_q (JO_q rfl rfl (Jq_move rfl rfl)) rfl ?_
          refine Tl_q (JO_q rfl rfl (Jq_move rfl rfl)) rfl ?_
          refine Tl_q (JO_q rfl rfl (Jq_move rfl rfl)) rfl ?_
          refine Tl_q (JO_q rfl rfl (Jq_len rfl rfl un23)) rfl ?_
          refine Tl_q (JO_q rfl rfl (Jq_add rfl rfl rfl (r := ((i + b.length : Nat) : Int)) (w64 (by omega) (by omega) (by omega)))) rfl ?_
          refine Tl_q (JO_q rfl rfl (Jq_move rfl rfl)) rfl ?_
          refine Tl_q (JO_q rfl rfl (Jq_convert rfl rfl un62 us59 (r := ((c : Nat) : Int)) (wu32 (by omega)))) rfl ?_
          refine Tl_q (JO_q rfl rfl (Jq_index_own rfl rfl rfl rfl (by decide) (by simp [hoo1]) (by decide) un23 ty62 (by omega) (by omega) (off := i + b.length) (by omega))) rfl ?_
          refine Tl_e (JO_e rfl rfl (Je_store (ls := ((o.set (i + b.length) c).map u32L)) rfl rfl rfl rfl ty62 rfl (by decide) (by simp; omega) (splice_u32 (by omega)))) rfl rfl ?_
          refine Tl_end ?_
          refine At_block ?_
          refine At_then ?_
          refine Tc_region ?_
          refine Tl_q (JO_q rfl rfl (Jq_add rfl rfl rfl (r := ((i + 1 : Nat) : Int)) (w64 (by omega) (by omega) (by omega)))) rfl ?_
          refine Tl_q (JO_q rfl rfl (Jq_move rfl rfl)) rfl ?_
          refine Tl_end ?_
          have hke : k = b.length := by omega
          subst hke
          have hzz := hz1 (i + b.length) (by omega) (Nat.le_refl _)
          have hvs := val_set o (i + b.length) c (by omega)
          rw [hzz, Nat.mul_zero, Nat.add_zero] at hvs
          rw [val_take_all b _ (Nat.le_refl _)] at hq
          have hfin : val (o.set (i + b.length) c) = val (a.take (i + 1)) * val b := by
            rw [hvs, val_take_succ a i hi, Nat.add_mul, Nat.mul_comm _ c, hq]; grind
          have hz2 : ∀ j (hj : j < (o.set (i + b.length) c).length), i + 1 + b.length ≤ j → (o.set (i + b.length) c)[j] = 0 := by
            intro j hj hle
            rw [List.getElem_set_ne (by omega)]; exact hz1 j (by simpa using hj) (by omega)
          have hol := hoo1
          exact At_next (m' := a.length - (i + 1)) (by omega) ⟨i + 1, _, rfl, rfl, rfl, by omega, by simp [hol], hoo.set _ _ hc, hfin, hz2⟩ ⟨rfl, rfl, rfl, rfl, rfl, rfl, trivial⟩
      · skip
        refine Tl_q (JO_q rfl rfl (Jq_lss rfl rfl rfl (b := false) (dF (by omega)))) rfl ?_
        refine Tl_end ?_
        refine At_then ?_
        refine Tc_seq ?_
        refine Tc_f rfl ?_
        refine Tc_exitA ?_
        refine At_then_exit ?_
        refine At_then_exit ?_
        refine At_block_exit ?_
        refine At_then ?_
        refine Tc_seq ?_
        refine Tc_region ?_
        refine Tl_q (JO_q rfl rfl (Jq_move rfl rfl)) rfl ?_
        refine Tl_share_nat 77 (out) rfl rfl rfl rfl (by omega) ?_
        refine Tl_e (JO_e rfl rfl (Je_call rfl fn60 rfl (trim_spec out hos))) rfl rfl ?_
        refine Tl_q (JO_q rfl rfl (Jq_assign rfl rfl)) rfl ?_
        refine Tl_end ?_
        refine At_then ?_
        have hie : i = a.length := by omega
        subst hie
        exact Tc_ret1 (fun _ _ h => h) rfl rfl (by rw [show val out = val la * val lb from by rw [heq, val_take_all a _ (Nat.le_refl _), va, vb]])

end Go.Proofs.YtpabkdpijcbkgaaGreatDoor
