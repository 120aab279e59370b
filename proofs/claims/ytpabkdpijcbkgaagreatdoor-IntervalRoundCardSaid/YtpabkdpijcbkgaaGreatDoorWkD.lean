/- Walks: bits.Len32, LeadingZeros32, natural.left, Shr, Bits, short. -/
import Derived.Test.YtpabkdpijcbkgaaGreatDoorWkC
import Derived.Test.YtpabkdpijcbkgaaGreatDoorKnuth
import Derived.Test.YtpabkdpijcbkgaaGreatDoorFwK
set_option linter.unusedSimpArgs false
set_option linter.unusedVariables false
namespace Go.Proofs.YtpabkdpijcbkgaaGreatDoor
open Go Go.RowKit Rc


set_option maxRecDepth 10000 in
theorem len32_spec (x : Nat) (hx : x < 4294967296) : Ctr Tryz.prog 99 [V.one (Leaf.val (.int .u32 x))] (R.one (V.one (Leaf.val (.int .i64 ((bl x : Nat) : Int))))) := by
  refine Ctr.of_body Tryz.func99 rfl Tryz.ntmps99 (Nat.le_of_ble_eq_true rfl) (fun w0 A0 => ?_)
  refine Tc_seq ?_
  refine Tc_region ?_
  refine Tl_q (JO_q rfl rfl (Jq_assign rfl rfl)) rfl ?_
  refine Tl_end ?_
  refine At_then ?_
  refine Tc_seq ?_
  refine Tc_seq ?_
  refine Tc_region ?_
  refine Tl_q (JO_q rfl rfl (Jq_move rfl rfl)) rfl ?_
  by_cases h1 : 65536 ≤ x
  · skip
    refine Tl_q (JO_q rfl rfl (Jq_geq rfl rfl rfl (b := true) (dT (by omega)))) rfl ?_
    refine Tl_end ?_
    refine At_then ?_
    refine Tc_t rfl ?_
    refine Tc_seq ?_
    refine Tc_region ?_
    refine Tl_q (JO_q rfl rfl (Jq_move rfl rfl)) rfl ?_
    refine Tl_q (JO_q rfl rfl (Jq_shr rfl rfl rfl (by decide) (r := ((x / 65536 : Nat) : Int)) (shr_nat x 16 rfl))) rfl ?_
    refine Tl_q (JO_q rfl rfl (Jq_assign rfl rfl)) rfl ?_
    refine Tl_end ?_
    refine At_then ?_
    refine Tc_region ?_
    refine Tl_q (JO_q rfl rfl (Jq_assign rfl rfl)) rfl ?_
    refine Tl_end ?_
    refine At_then ?_
    refine Tc_seq ?_
    refine Tc_seq ?_
    refine Tc_region ?_
    refine Tl_q (JO_q rfl rfl (Jq_move rfl rfl)) rfl ?_
    by_cases h2 : 256 ≤ x / 65536
    · skip
      refine Tl_q (JO_q rfl rfl (Jq_geq rfl rfl rfl (b := true) (dT (by omega)))) rfl ?_
      refine Tl_end ?_
      refine At_then ?_
      refine Tc_t rfl ?_
      refine Tc_seq ?_
      refine Tc_region ?_
      refine Tl_q (JO_q rfl rfl (Jq_move rfl rfl)) rfl ?_
      refine Tl_q (JO_q rfl rfl (Jq_shr rfl rfl rfl (by decide) (r := ((x / 65536 / 256 : Nat) : Int)) (shr_nat _ 8 rfl))) rfl ?_
      refine Tl_q (JO_q rfl rfl (Jq_assign rfl rfl)) rfl ?_
      refine Tl_end ?_
      refine At_then ?_
      refine Tc_region ?_
      refine Tl_q (JO_q rfl rfl (Jq_move rfl rfl)) rfl ?_
      refine Tl_q (JO_q rfl rfl (Jq_add rfl rfl rfl (r := ((24 : Nat) : Int)) (w64 (by omega) (by omega) (by omega)))) rfl ?_
      refine Tl_q (JO_q rfl rfl (Jq_assign rfl rfl)) rfl ?_
      refine Tl_end ?_
      refine At_then ?_
      refine Tc_seq ?_
      refine Tc_region ?_
      refine Tl_q (JO_q rfl rfl (Jq_move rfl rfl)) rfl ?_
      refine Tl_q (JO_q rfl rfl (Jq_move rfl rfl)) rfl ?_
      refine Tl_q (JO_q rfl rfl (Jq_convert rfl rfl un5 us62 (r := ((x / 65536 / 256 : Nat) : Int)) (wu8 (by omega)))) rfl ?_
      refine Tl_q (JO_q rfl rfl (Jq_index_str rfl rfl un9 (len8_get (by kernel_rfl) (x := x / 65536 / 256) (by omega)))) rfl ?_
      refine Tl_q (JO_q rfl rfl (Jq_convert rfl rfl un3 us5 (r := ((bl (x / 65536 / 256) : Nat) : Int)) (w64 (len8_val (by omega)) (by omega) (by have := bl_le_of_lt (n := x / 65536 / 256) (k := 8) (by omega); omega)))) rfl ?_
      refine Tl_q (JO_q rfl rfl (Jq_add rfl rfl rfl (r := ((bl x : Nat) : Int)) (w64 (by have h1 := bl_div (n := x) (k := 16) h1; have h2 := bl_div (n := x / 2 ^ 16) (k := 8) h2; simp only [Nat.reducePow] at h1 h2; omega) (by omega) (by have := bl_le_of_lt (n := x) (k := 32) hx; omega)))) rfl ?_
      refine Tl_q (JO_q rfl rfl (Jq_assign rfl rfl)) rfl ?_
      refine Tl_end ?_
      refine At_then ?_
      exact Tc_ret1 (fun _ _ h => h) rfl rfl rfl
    · skip
      refine Tl_q (JO_q rfl rfl (Jq_geq rfl rfl rfl (b := false) (dF (by omega)))) rfl ?_
      refine Tl_end ?_
      refine At_then ?_
      refine Tc_f rfl ?_
      refine Tc_skipA ?_
      refine At_then ?_
      refine Tc_seq ?_
      refine Tc_region ?_
      refine Tl_q (JO_q rfl rfl (Jq_move rfl rfl)) rfl ?_
      refine Tl_q (JO_q rfl rfl (Jq_move rfl rfl)) rfl ?_
      refine Tl_q (JO_q rfl rfl (Jq_convert rfl rfl un5 us62 (r := ((x / 65536 : Nat) : Int)) (wu8 (by omega)))) rfl ?_
      refine Tl_q (JO_q rfl rfl (Jq_index_str rfl rfl un9 (len8_get (by kernel_rfl) (x := x / 65536) (by omega)))) rfl ?_
      refine Tl_q (JO_q rfl rfl (Jq_convert rfl rfl un3 us5 (r := ((bl (x / 65536) : Nat) : Int)) (w64 (len8_val (by omega)) (by omega) (by have := bl_le_of_lt (n := x / 65536) (k := 8) (by omega); omega)))) rfl ?_
      refine Tl_q (JO_q rfl rfl (Jq_add rfl rfl rfl (r := ((bl x : Nat) : Int)) (w64 (by have h1 := bl_div (n := x) (k := 16) h1; simp only [Nat.reducePow] at h1; omega) (by omega) (by have := bl_le_of_lt (n := x) (k := 32) hx; omega)))) rfl ?_
      refine Tl_q (JO_q rfl rfl (Jq_assign rfl rfl)) rfl ?_
      refine Tl_end ?_
      refine At_then ?_
      exact Tc_ret1 (fun _ _ h => h) rfl rfl rfl
  · skip
    refine Tl_q (JO_q rfl rfl (Jq_geq rfl rfl rfl (b := false) (dF (by omega)))) rfl ?_
    refine Tl_end ?_
    refine At_then ?_
    refine Tc_f rfl ?_
    refine Tc_skipA ?_
    refine At_then ?_
    refine Tc_seq ?_
    refine Tc_seq ?_
    refine Tc_region ?_
    refine Tl_q (JO_q rfl rfl (Jq_move rfl rfl)) rfl ?_
    by_cases h2 : 256 ≤ x
    · skip
      refine Tl_q (JO_q rfl rfl (Jq_geq rfl rfl rfl (b := true) (dT (by omega)))) rfl ?_
      refine Tl_end ?_
      refine At_then ?_
      refine Tc_t rfl ?_
      refine Tc_seq ?_
      refine Tc_region ?_
      refine Tl_q (JO_q rfl rfl (Jq_move rfl rfl)) rfl ?_
      refine Tl_q (JO_q rfl rfl (Jq_shr rfl rfl rfl (by decide) (r := ((x / 256 : Nat) : Int)) (shr_nat x 8 rfl))) rfl ?_
      refine Tl_q (JO_q rfl rfl (Jq_assign rfl rfl)) rfl ?_
      refine Tl_end ?_
      refine At_then ?_
      refine Tc_region ?_
      refine Tl_q (JO_q rfl rfl (Jq_move rfl rfl)) rfl ?_
      refine Tl_q (JO_q rfl rfl (Jq_add rfl rfl rfl (r := ((8 : Nat) : Int)) (w64 (by omega) (by omega) (by omega)))) rfl ?_
      refine Tl_q (JO_q rfl rfl (Jq_assign rfl rfl)) rfl ?_
      refine Tl_end ?_
      refine At_then ?_
      refine Tc_seq ?_
      refine Tc_region ?_
      refine Tl_q (JO_q rfl rfl (Jq_move rfl rfl)) rfl ?_
      refine Tl_q (JO_q rfl rfl (Jq_move rfl rfl)) rfl ?_
      refine Tl_q (JO_q rfl rfl (Jq_convert rfl rfl un5 us62 (r := ((x / 256 : Nat) : Int)) (wu8 (by omega)))) rfl ?_
      refine Tl_q (JO_q rfl rfl (Jq_index_str rfl rfl un9 (len8_get (by kernel_rfl) (x := x / 256) (by omega)))) rfl ?_
      refine Tl_q (JO_q rfl rfl (Jq_convert rfl rfl un3 us5 (r := ((bl (x / 256) : Nat) : Int)) (w64 (len8_val (by omega)) (by omega) (by have := bl_le_of_lt (n := x / 256) (k := 8) (by omega); omega)))) rfl ?_
      refine Tl_q (JO_q rfl rfl (Jq_add rfl rfl rfl (r := ((bl x : Nat) : Int)) (w64 (by have h2 := bl_div (n := x) (k := 8) h2; simp only [Nat.reducePow] at h2; omega) (by omega) (by have := bl_le_of_lt (n := x) (k := 32) hx; omega)))) rfl ?_
      refine Tl_q (JO_q rfl rfl (Jq_assign rfl rfl)) rfl ?_
      refine Tl_end ?_
      refine At_then ?_
      exact Tc_ret1 (fun _ _ h => h) rfl rfl rfl
    · skip
      refine Tl_q (JO_q rfl rfl (Jq_geq rfl rfl rfl (b := false) (dF (by omega)))) rfl ?_
      refine Tl_end ?_
      refine At_then ?_
      refine Tc_f rfl ?_
      refine Tc_skipA ?_
      refine At_then ?_
      refine Tc_seq ?_
      refine Tc_region ?_
      refine Tl_q (JO_q rfl rfl (Jq_move rfl rfl)) rfl ?_
      refine Tl_q (JO_q rfl rfl (Jq_move rfl rfl)) rfl ?_
      refine Tl_q (JO_q rfl rfl (Jq_convert rfl rfl un5 us62 (r := ((x : Nat) : Int)) (wu8 (by omega)))) rfl ?_
      refine Tl_q (JO_q rfl rfl (Jq_index_str rfl rfl un9 (len8_get (by kernel_rfl) (x := x) (by omega)))) rfl ?_
      refine Tl_q (JO_q rfl rfl (Jq_convert rfl rfl un3 us5 (r := ((bl (x) : Nat) : Int)) (w64 (len8_val (by omega)) (by omega) (by have := bl_le_of_lt (n := x) (k := 8) (by omega); omega)))) rfl ?_
      refine Tl_q (JO_q rfl rfl (Jq_add rfl rfl rfl (r := ((bl x : Nat) : Int)) (w64 (by skip; omega) (by omega) (by have := bl_le_of_lt (n := x) (k := 32) hx; omega)))) rfl ?_
      refine Tl_q (JO_q rfl rfl (Jq_assign rfl rfl)) rfl ?_
      refine Tl_end ?_
      refine At_then ?_
      exact Tc_ret1 (fun _ _ h => h) rfl rfl rfl

set_option maxRecDepth 10000 in
theorem lz32_spec (x : Nat) (hx : x < 4294967296) : Ctr Tryz.prog 82 [V.one (Leaf.val (.int .u32 x))] (R.one (V.one (Leaf.val (.int .i64 ((32 - bl x : Nat) : Int))))) := by
  refine Ctr.of_body Tryz.func82 rfl Tryz.ntmps82 (Nat.le_of_ble_eq_true rfl) (fun w0 A0 => ?_)
  refine Tc_seq ?_
  refine Tc_region ?_
  refine Tl_q (JO_q rfl rfl (Jq_assign rfl rfl)) rfl ?_
  refine Tl_end ?_
  refine At_then ?_
  refine Tc_seq ?_
  refine Tc_region ?_
  refine Tl_q (JO_q rfl rfl (Jq_move rfl rfl)) rfl ?_
  refine Tl_e (JO_e rfl rfl (Je_call rfl fn99 rfl (len32_spec x hx))) rfl rfl ?_
  refine Tl_q (JO_q rfl rfl (Jq_sub rfl rfl rfl (r := ((32 - bl x : Nat) : Int)) (w64 (by have := bl_le_of_lt (n := x) (k := 32) hx; omega) (by omega) (by omega)))) rfl ?_
  refine Tl_q (JO_q rfl rfl (Jq_assign rfl rfl)) rfl ?_
  refine Tl_end ?_
  refine At_then ?_
  exact Tc_ret1 (fun _ _ h => h) rfl rfl rfl

set_option maxRecDepth 10000 in
theorem left_own (a : List Nat) (k : Nat) (hsa : Small a) (hk : k < 32) (hla : a.length ≤ 10000000000000) : CtrF Tryz.prog 83 62 (a.length + 1) ((padL (a.length + 1) (val a * 2 ^ k)).map u32L) [V.one (natL a), V.one (Leaf.val (.int .i64 ((k : Nat) : Int)))] := by
  refine CtrF.of_body Tryz.func83 rfl Tryz.ntmps83 (Nat.le_of_ble_eq_true rfl) (fun w0 A0 => ?_)
  refine Tc_seq ?_
  refine Tc_region ?_
  refine Tl_q (JO_q rfl rfl (Jq_assign_nil rfl)) rfl ?_
  refine Tl_end ?_
  refine At_then ?_
  refine Tc_seq ?_
  refine Tc_region ?_
  refine Tl_q (JO_q rfl rfl (Jq_move rfl rfl)) rfl ?_
  refine Tl_q (JO_q rfl rfl (Jq_len rfl rfl un23)) rfl ?_
  refine Tl_q (JO_q rfl rfl (Jq_add rfl rfl rfl (r := ((a.length + 1 : Nat) : Int)) (w64 (by omega) (by omega) (by omega)))) rfl ?_
  obtain ⟨ti1, hi1, hz1, hs1, hb1⟩ := in62
  refine Tl_e (JO_e rfl rfl (Je_make (i := 0) (n := a.length + 1) (ls := ((List.replicate (a.length + 1) 0).map u32L)) rfl rfl rfl un23 hi1 hz1 hs1 (by decide) rfl (by decide) rfl (by rw [hb1]; omega) (by simp only [maxLen]; omega) (zc_u32 _) rfl)) rfl rfl ?_
  refine Tl_q (JO_q rfl rfl (Jq_assign rfl rfl)) rfl ?_
  refine Tl_end ?_
  refine At_then ?_
  refine Tc_seq ?_
  refine Tc_seq ?_
  refine Tc_region ?_
  refine Tl_q (JO_q rfl rfl (Jq_move rfl rfl)) rfl ?_
  refine Tl_q (JO_q rfl rfl (Jq_len rfl rfl un23)) rfl ?_
  refine Tl_q (JO_q rfl rfl (Jq_move rfl rfl)) rfl ?_
  refine Tl_end ?_
  refine At_then ?_
  refine Tc_block ?_
  refine Tc_loopR (fun m Γ H => ∃ (i : Nat) (out : List Nat), a.length - i = m ∧ Γ = [(0, some (D.v (V.one (natL a)))), (1, some (D.int ((k : Nat) : Int))), (5, some (D.own 0 (a.length + 1))), (13, some (D.v (V.one (natL a)))), (14, some (D.int ((a.length : Nat) : Int))), (15, some (D.int ((i : Nat) : Int)))] ∧ H = [some ⟨62, out.map u32L, some 1, none⟩] ∧ i ≤ a.length ∧ out.length = a.length + 1 ∧ Small out ∧ val (out.take (i + 1)) = val (a.take i) * 2 ^ k ∧ out.getD i 0 < 2 ^ k) ⟨0, List.replicate (a.length + 1) 0, rfl, rfl, rfl, Nat.zero_le _, by simp, Small.replicate _, by rw [List.take_replicate, val_replicate]; simp, by simp [List.getD]; exact Nat.pow_pos (by omega)⟩ ⟨rfl, rfl, rfl, rfl, rfl, rfl, trivial⟩ ?_
  rintro m Γ H ⟨i, out, rfl, rfl, rfl, hile, hol, hos, heq, hlow⟩
  refine Tc_seq ?_
  refine Tc_region ?_
  by_cases hi : i < a.length
  · skip
    refine Tl_q (JO_q rfl rfl (Jq_lss rfl rfl rfl (b := true) (dT (by omega)))) rfl ?_
    refine Tl_end ?_
    refine At_then ?_
    refine Tc_seq ?_
    refine Tc_t rfl ?_
    refine Tc_skipA ?_
    refine At_then ?_
    refine Tc_seq ?_
    refine Tc_block ?_
    refine Tc_seq ?_
    have hai := hsa.get i hi; have hoi := hos.get i (by omega)
    rw [getD_of (by omega)] at hlow
    have hb := left_bound hk hai
    have ho := left_or (d := a[i]) hk hlow
    refine Tc_region ?_
    refine Tl_q (JO_q rfl rfl (Jq_move rfl rfl)) rfl ?_
    refine Tl_q (JO_q rfl rfl (Jq_index1 rfl rfl rfl un23 ty62 (by omega) (by omega) (get_u32 (by omega)))) rfl ?_
    refine Tl_q (JO_q rfl rfl (Jq_load_ref rfl rfl ty62)) rfl ?_
    refine Tl_q (JO_q rfl rfl (Jq_assign rfl rfl)) rfl ?_
    refine Tl_q (JO_q rfl rfl (Jq_assign rfl rfl)) rfl ?_
    refine Tl_end ?_
    refine At_then ?_
    refine Tc_seq ?_
    refine Tc_region ?_
    refine Tl_q (JO_q rfl rfl (Jq_move rfl rfl)) rfl ?_
    refine Tl_q (JO_q rfl rfl (Jq_convert rfl rfl un59 us62 (r := ((a[i]'hi : Nat) : Int)) (wu64 (by omega)))) rfl ?_
    refine Tl_q (JO_q rfl rfl (Jq_move rfl rfl)) rfl ?_
    refine Tl_q (JO_q rfl rfl (Jq_shl rfl rfl rfl (by omega) (r := ((a[i]'hi * 2 ^ k : Nat) : Int)) (shl64 _ k (minbits64 (by omega)) hb.1))) rfl ?_
    refine Tl_q (JO_q rfl rfl (Jq_assign rfl rfl)) rfl ?_
    refine Tl_end ?_
    refine At_then ?_
    refine Tc_seq ?_
    refine Tc_region ?_
    refine Tl_q (JO_q rfl rfl (Jq_move rfl rfl)) rfl ?_
    refine Tl_q (JO_q rfl rfl (Jq_move rfl rfl)) rfl ?_
    refine Tl_q (JO_q rfl rfl (Jq_index_own rfl rfl rfl rfl (by decide) (by simp [hol]) (by decide) un23 ty62 (by omega) (by omega) (off := i) (by omega))) rfl ?_
    refine Tl_q (JO_q rfl rfl (Jq_load rfl rfl rfl (by decide) ty62 (get_own (by omega)))) rfl ?_
    refine Tl_q (JO_q rfl rfl (Jq_move rfl rfl)) rfl ?_
    refine Tl_q (JO_q rfl rfl (Jq_convert rfl rfl un62 us59 (r := ((a[i]'hi * 2 ^ k % 4294967296 : Nat) : Int)) (wu32 (by omega)))) rfl ?_
    refine Tl_q (JO_q rfl rfl (Jq_or rfl rfl rfl (r := ((out[i]'(by omega) + a[i]'hi * 2 ^ k % 4294967296 : Nat) : Int)) (or32' k ho.1 hlow ho.2))) rfl ?_
    refine Tl_q (JO_q rfl rfl (Jq_index_own rfl rfl rfl rfl (by decide) (by simp [hol]) (by decide) un23 ty62 (by omega) (by omega) (off := i) (by omega))) rfl ?_
    refine Tl_e (JO_e rfl rfl (Je_store (ls := ((out.set i (out[i]'(by omega) + a[i]'hi * 2 ^ k % 4294967296)).map u32L)) rfl rfl rfl rfl ty62 rfl (by decide) (by simp; omega) (splice_u32 (by omega)))) rfl rfl ?_
    refine Tl_end ?_
    refine At_then ?_
    refine Tc_region ?_
    refine Tl_q (JO_q rfl rfl (Jq_move rfl rfl)) rfl ?_
    refine Tl_q (JO_q rfl rfl (Jq_move rfl rfl)) rfl ?_
    refine Tl_q (JO_q rfl rfl (Jq_add rfl rfl rfl (r := ((i + 1 : Nat) : Int)) (w64 (by omega) (by omega) (by omega)))) rfl ?_
    refine Tl_q (JO_q rfl rfl (Jq_move rfl rfl)) rfl ?_
    refine Tl_q (JO_q rfl rfl (Jq_shr rfl rfl rfl (by decide) (r := (((a[i]'hi * 2 ^ k) / 4294967296 : Nat) : Int)) (shr_nat _ 32 rfl))) rfl ?_
    refine Tl_q (JO_q rfl rfl (Jq_convert rfl rfl un62 us59 (r := (((a[i]'hi * 2 ^ k) / 4294967296 : Nat) : Int)) (wu32 (by omega)))) rfl ?_
    refine Tl_q (JO_q rfl rfl (Jq_index_own rfl rfl rfl rfl (by decide) (by simp [hol]) (by decide) un23 ty62 (by omega) (by omega) (off := i + 1) (by omega))) rfl ?_
    refine Tl_e (JO_e rfl rfl (Je_store (ls := (((out.set i (out[i]'(by omega) + a[i]'hi * 2 ^ k % 4294967296)).set (i + 1) ((a[i]'hi * 2 ^ k) / 4294967296)).map u32L)) rfl rfl rfl rfl ty62 rfl (by decide) (by simp; omega) (splice_u32 (by simp; omega)))) rfl rfl ?_
    refine Tl_end ?_
    refine At_block ?_
    refine At_then ?_
    refine Tc_region ?_
    refine Tl_q (JO_q rfl rfl (Jq_add rfl rfl rfl (r := ((i + 1 : Nat) : Int)) (w64 (by omega) (by omega) (by omega)))) rfl ?_
    refine Tl_q (JO_q rfl rfl (Jq_move rfl rfl)) rfl ?_
    refine Tl_end ?_
    exact At_next (m' := a.length - (i + 1)) (by omega) ⟨i + 1, _, rfl, rfl, rfl, by omega, by simp [hol], (hos.set _ _ (by omega)).set _ _ (by omega), left_step hi (by omega) heq _ rfl, by rw [getD_of (by simp; omega), List.getElem_set_self]; exact hb.2.1⟩ ⟨rfl, rfl, rfl, rfl, rfl, rfl, trivial⟩
  · skip
    refine Tl_q (JO_q rfl rfl (Jq_lss rfl rfl rfl (b := false) (dF (by omega)))) rfl ?_
    refine Tl_end ?_
    refine At_then ?_
    refine Tc_seq ?_
    refine Tc_f rfl ?_
    refine Tc_exitA ?_
    refine At_then_exit ?_
    refine At_then_exit ?_
    refine At_block_exit ?_
    refine At_then ?_
    refine Tc_seq ?_
    refine Tc_region ?_
    refine Tl_q (JO_q rfl rfl (Jq_move rfl rfl)) rfl ?_
    refine Tl_q (JO_q rfl rfl (Jq_assign rfl rfl)) rfl ?_
    refine Tl_end ?_
    refine At_then ?_
    have hie : i = a.length := by omega
    subst hie
    rw [val_take_all out _ (by omega), val_take_all a _ (Nat.le_refl _)] at heq
    exact Tc_retF (fun _ _ h => h) rfl rfl rfl (by simp; omega) (by rw [← padL_of hos hol heq]) (fun l hl => by simp only [List.mem_map] at hl; obtain ⟨x, _, rfl⟩ := hl; exact ⟨_, rfl⟩)

theorem left_spec (a : List Nat) (k : Nat) (hsa : Small a) (hk : k < 32) (hla : a.length ≤ 10000000000000) : Ctr Tryz.prog 83 [V.one (natL a), V.one (Leaf.val (.int .i64 ((k : Nat) : Int)))] (R.one (V.one (natL (padL (a.length + 1) (val a * 2 ^ k))))) := by
  have h := Ctr.of_fresh (left_own a k hsa hk hla) (by simp [padL_length])
  have e : (padL (a.length + 1) (val a * 2 ^ k)).length = a.length + 1 := padL_length _ _
  unfold natL
  rw [e]
  exact h

set_option maxRecDepth 10000 in
theorem shr_spec (la : List Nat) (k : Nat) (hsa : Small la) (hk : k ≤ 1048576) (hla : la.length ≤ 10000000000000) : Ctr Tryz.prog 86 [V.one (natL la), V.one (Leaf.val (.int .i64 ((k : Nat) : Int)))] (R.tup [V.one (natL (limbs (val la / 2 ^ k))), V.one (Leaf.val (.int .i64 0))]) := by
  refine Ctr.of_body Tryz.func86 rfl Tryz.ntmps86 (Nat.le_of_ble_eq_true rfl) (fun w0 A0 => ?_)
  refine Tc_seq ?_
  refine Tc_region ?_
  refine Tl_q (JO_q rfl rfl (Jq_assign_nil rfl)) rfl ?_
  refine Tl_q (JO_q rfl rfl (Jq_assign rfl rfl)) rfl ?_
  refine Tl_end ?_
  refine At_then ?_
  refine Tc_seq ?_
  refine Tc_seq ?_
  refine Tc_region ?_
  refine Tl_q (JO_q rfl rfl (Jq_move rfl rfl)) rfl ?_
  refine Tl_q (JO_q rfl rfl (Jq_lss rfl rfl rfl (b := false) (dF (by omega)))) rfl ?_
  refine Tl_q (JO_q rfl rfl (Jq_move rfl rfl)) rfl ?_
  refine Tl_q (JO_qg rfl rfl rfl rfl (Jq_move rfl rfl)) rfl ?_
  refine Tl_q (JO_qg rfl rfl rfl rfl (Jq_gtr rfl rfl rfl (b := false) (dF (by omega)))) rfl ?_
  refine Tl_q (JO_q rfl rfl (Jq_pick_f rfl rfl rfl)) rfl ?_
  refine Tl_end ?_
  refine At_then ?_
  refine Tc_f rfl ?_
  refine Tc_skipA ?_
  refine At_then ?_
  refine Tc_seq ?_
  refine Tc_region ?_
  refine Tl_q (JO_q rfl rfl (Jq_move rfl rfl)) rfl ?_
  refine Tl_e (JO_e rfl rfl (Je_call rfl fn60 rfl (trim_spec la hsa))) rfl rfl ?_
  refine Tl_q (JO_q rfl rfl (Jq_assign rfl rfl)) rfl ?_
  refine Tl_end ?_
  refine At_then ?_
  refine Tc_seq ?_
  refine Tc_seq ?_
  have hl0 := limbs_val_length hsa; have vl := val_limbs (val la); have sl := small_limbs (val la)
  have hnil : (limbs (val la)).length ≤ k / 32 → val la / 2 ^ k = 0 := by
    intro h
    have h1 := limbs_length_le.1 h
    rw [← shift_split, Nat.div_eq_of_lt h1, Nat.zero_div]
  generalize limbs (val la) = l at *
  refine Tc_region ?_
  refine Tl_q (JO_q rfl rfl (Jq_move rfl rfl)) rfl ?_
  refine Tl_q (JO_q rfl rfl (Jq_quo rfl rfl rfl (by decide) (r := ((k / 32 : Nat) : Int)) (w64 (tdivN k 32) (by omega) (by omega)))) rfl ?_
  refine Tl_q (JO_q rfl rfl (Jq_move rfl rfl)) rfl ?_
  refine Tl_q (JO_q rfl rfl (Jq_len rfl rfl un23)) rfl ?_
  by_cases hz : l.length ≤ k / 32
  · skip
    refine Tl_q (JO_q rfl rfl (Jq_geq rfl rfl rfl (b := true) (dT (by omega)))) rfl ?_
    refine Tl_end ?_
    refine At_then ?_
    refine Tc_t rfl ?_
    refine Tc_seq ?_
    refine Tc_region ?_
    refine Tl_q (JO_q rfl rfl (Jq_assign_nil rfl)) rfl ?_
    refine Tl_q (JO_q rfl rfl (Jq_assign rfl rfl)) rfl ?_
    refine Tl_end ?_
    refine At_then ?_
    exact Tc_ret2 (fun _ _ h => h) rfl rfl rfl (by rw [hnil hz, limbs_zero]; rfl)
  · skip
    refine Tl_q (JO_q rfl rfl (Jq_geq rfl rfl rfl (b := false) (dF (by omega)))) rfl ?_
    refine Tl_end ?_
    refine At_then ?_
    refine Tc_f rfl ?_
    refine Tc_skipA ?_
    refine At_then ?_
    refine Tc_seq ?_
    refine Tc_region ?_
    refine Tl_q (JO_q rfl rfl (Jq_move rfl rfl)) rfl ?_
    refine Tl_q (JO_q rfl rfl (Jq_move rfl rfl)) rfl ?_
    refine Tl_q (JO_q rfl rfl (Jq_quo rfl rfl rfl (by decide) (r := ((k / 32 : Nat) : Int)) (w64 (tdivN k 32) (by omega) (by omega)))) rfl ?_
    refine Tl_q (JO_q rfl rfl (Jq_slice_lo_nat rfl rfl rfl un23 ty62 (by omega))) rfl ?_
    refine Tl_q (JO_q rfl rfl (Jq_assign rfl rfl)) rfl ?_
    refine Tl_end ?_
    refine At_then ?_
    refine Tc_seq ?_
    have sa : Small (l.drop (k / 32)) := sl.drop _
    have va : val (l.drop (k / 32)) / 2 ^ (k % 32) = val la / 2 ^ k := by rw [← val_drop_div l sl, vl, shift_split]
    have hla2 : (l.drop (k / 32)).length ≤ l.length := by rw [List.length_drop]; omega
    generalize l.drop (k / 32) = a at *
    refine Tc_region ?_
    refine Tl_q (JO_q rfl rfl (Jq_move rfl rfl)) rfl ?_
    refine Tl_q (JO_q rfl rfl (Jq_len rfl rfl un23)) rfl ?_
    obtain ⟨ti2, hi2, hz2, hs2, hb2⟩ := in62
    refine Tl_e (JO_e rfl rfl (Je_make (i := 0) (n := a.length) (ls := ((List.replicate (a.length) 0).map u32L)) rfl rfl rfl un23 hi2 hz2 hs2 (by decide) rfl (by decide) rfl (by rw [hb2]; omega) (by simp only [maxLen]; omega) (zc_u32 _) rfl)) rfl rfl ?_
    refine Tl_q (JO_q rfl rfl (Jq_assign rfl rfl)) rfl ?_
    refine Tl_end ?_
    refine At_then ?_
    refine Tc_seq ?_
    refine Tc_seq ?_
    refine Tc_region ?_
    refine Tl_q (JO_q rfl rfl (Jq_move rfl rfl)) rfl ?_
    refine Tl_q (JO_q rfl rfl (Jq_len rfl rfl un23)) rfl ?_
    refine Tl_q (JO_q rfl rfl (Jq_move rfl rfl)) rfl ?_
    refine Tl_end ?_
    refine At_then ?_
    refine Tc_block ?_
    refine Tc_loopR (fun m Γ H => ∃ (i : Nat) (out : List Nat), a.length - i = m ∧ Γ = [(0, some (D.v (V.one (natL a)))), (1, some (D.int ((k : Nat) : Int))), (6, some (D.own 0 a.length)), (30, some (D.v (V.one (natL a)))), (31, some (D.int ((a.length : Nat) : Int))), (32, some (D.int ((i : Nat) : Int)))] ∧ H = [some ⟨62, out.map u32L, some 1, none⟩] ∧ i ≤ a.length ∧ out.length = a.length ∧ Small out ∧ val (out.take i) = val a / 2 ^ (k % 32) % 4294967296 ^ i) ⟨0, List.replicate a.length 0, rfl, rfl, rfl, Nat.zero_le _, by simp, Small.replicate _, by simp [Nat.mod_one]⟩ ⟨rfl, rfl, rfl, rfl, rfl, rfl, trivial⟩ ?_
    rintro m Γ H ⟨i, out, rfl, rfl, rfl, hile, hol, hos, heq⟩
    refine Tc_seq ?_
    refine Tc_region ?_
    by_cases hi : i < a.length
    · skip
      refine Tl_q (JO_q rfl rfl (Jq_lss rfl rfl rfl (b := true) (dT (by omega)))) rfl ?_
      refine Tl_end ?_
      refine At_then ?_
      refine Tc_seq ?_
      refine Tc_t rfl ?_
      refine Tc_skipA ?_
      refine At_then ?_
      refine Tc_seq ?_
      refine Tc_block ?_
      refine Tc_seq ?_
      have hai := sa.get i hi
      refine Tc_region ?_
      refine Tl_q (JO_q rfl rfl (Jq_move rfl rfl)) rfl ?_
      refine Tl_q (JO_q rfl rfl (Jq_index1 rfl rfl rfl un23 ty62 (by omega) (by omega) (get_u32 (by omega)))) rfl ?_
      refine Tl_q (JO_q rfl rfl (Jq_load_ref rfl rfl ty62)) rfl ?_
      refine Tl_q (JO_q rfl rfl (Jq_assign rfl rfl)) rfl ?_
      refine Tl_q (JO_q rfl rfl (Jq_assign rfl rfl)) rfl ?_
      refine Tl_end ?_
      refine At_then ?_
      refine Tc_seq ?_
      refine Tc_region ?_
      refine Tl_q (JO_q rfl rfl (Jq_move rfl rfl)) rfl ?_
      refine Tl_q (JO_q rfl rfl (Jq_convert rfl rfl un59 us62 (r := ((a[i]'hi : Nat) : Int)) (wu64 (by omega)))) rfl ?_
      refine Tl_q (JO_q rfl rfl (Jq_assign rfl rfl)) rfl ?_
      refine Tl_end ?_
      refine At_then ?_
      refine Tc_seq ?_
      refine Tc_seq ?_
      refine Tc_region ?_
      refine Tl_q (JO_q rfl rfl (Jq_move rfl rfl)) rfl ?_
      refine Tl_q (JO_q rfl rfl (Jq_add rfl rfl rfl (r := ((i + 1 : Nat) : Int)) (w64 (by omega) (by omega) (by omega)))) rfl ?_
      refine Tl_q (JO_q rfl rfl (Jq_move rfl rfl)) rfl ?_
      refine Tl_q (JO_q rfl rfl (Jq_len rfl rfl un23)) rfl ?_
      by_cases hi1 : i + 1 < a.length
      · skip
        refine Tl_q (JO_q rfl rfl (Jq_lss rfl rfl rfl (b := true) (dT (by omega)))) rfl ?_
        refine Tl_end ?_
        refine At_then ?_
        refine Tc_t rfl ?_
        have hai1 := sa.get (i + 1) hi1
        refine Tc_region ?_
        refine Tl_q (JO_q rfl rfl (Jq_move rfl rfl)) rfl ?_
        refine Tl_q (JO_q rfl rfl (Jq_move rfl rfl)) rfl ?_
        refine Tl_q (JO_q rfl rfl (Jq_move rfl rfl)) rfl ?_
        refine Tl_q (JO_q rfl rfl (Jq_add rfl rfl rfl (r := ((i + 1 : Nat) : Int)) (w64 (by omega) (by omega) (by omega)))) rfl ?_
        refine Tl_q (JO_q rfl rfl (Jq_index1 rfl rfl rfl un23 ty62 (by omega) (by omega) (get_u32 (by omega)))) rfl ?_
        refine Tl_q (JO_q rfl rfl (Jq_load_ref rfl rfl ty62)) rfl ?_
        refine Tl_q (JO_q rfl rfl (Jq_convert rfl rfl un59 us62 (r := ((a[i + 1]'hi1 : Nat) : Int)) (wu64 (by omega)))) rfl ?_
        refine Tl_q (JO_q rfl rfl (Jq_shl rfl rfl rfl (by decide) (r := ((a[i + 1]'hi1 * 2 ^ 32 : Nat) : Int)) (shl64 _ 32 rfl (by omega)))) rfl ?_
        refine Tl_q (JO_q rfl rfl (Jq_or rfl rfl rfl (r := ((a[i]'hi + a[i + 1]'hi1 * 2 ^ 32 : Nat) : Int)) (or64' 32 (Nat.mul_mod_left _ _) (by omega) (by omega)))) rfl ?_
        refine Tl_q (JO_q rfl rfl (Jq_assign rfl rfl)) rfl ?_
        refine Tl_end ?_
        refine At_then ?_
        refine Tc_region ?_
        refine Tl_q (JO_q rfl rfl (Jq_move rfl rfl)) rfl ?_
        refine Tl_q (JO_q rfl rfl (Jq_move rfl rfl)) rfl ?_
        refine Tl_q (JO_q rfl rfl (Jq_move rfl rfl)) rfl ?_
        refine Tl_q (JO_q rfl rfl (Jq_move rfl rfl)) rfl ?_
        refine Tl_q (JO_q rfl rfl (Jq_rem rfl rfl rfl (by decide) (r := ((k % 32 : Nat) : Int)) (tmodN k 32))) rfl ?_
        refine Tl_q (JO_q rfl rfl (Jq_shr rfl rfl rfl (by omega) (r := (((a[i]'hi + a[i + 1]'hi1 * 2 ^ 32) / 2 ^ (k % 32) : Nat) : Int)) (shr_nat _ (k % 32) (minbits64 (by omega))))) rfl ?_
        refine Tl_q (JO_q rfl rfl (Jq_convert rfl rfl un62 us59 (r := (((a[i]'hi + a[i + 1]'hi1 * 2 ^ 32) / 2 ^ (k % 32) % 4294967296 : Nat) : Int)) (wu32 (by omega)))) rfl ?_
        refine Tl_q (JO_q rfl rfl (Jq_index_own rfl rfl rfl rfl (by decide) (by simp [hol]) (by decide) un23 ty62 (by omega) (by omega) (off := i) (by omega))) rfl ?_
        refine Tl_e (JO_e rfl rfl (Je_store (ls := ((out.set i ((a[i]'hi + a[i + 1]'hi1 * 2 ^ 32) / 2 ^ (k % 32) % 4294967296)).map u32L)) rfl rfl rfl rfl ty62 rfl (by decide) (by simp; omega) (splice_u32 (by omega)))) rfl rfl ?_
        refine Tl_end ?_
        refine At_block ?_
        refine At_then ?_
        refine Tc_region ?_
        refine Tl_q (JO_q rfl rfl (Jq_add rfl rfl rfl (r := ((i + 1 : Nat) : Int)) (w64 (by omega) (by omega) (by omega)))) rfl ?_
        refine Tl_q (JO_q rfl rfl (Jq_move rfl rfl)) rfl ?_
        refine Tl_end ?_
        exact At_next (m' := a.length - (i + 1)) (by omega) ⟨i + 1, _, rfl, rfl, rfl, by omega, by simp [hol], hos.set _ _ (by omega), shr_step sa hi (by omega) (by omega) heq _ (by rw [getD_of hi1, Nat.mul_comm 4294967296])⟩ ⟨rfl, rfl, rfl, rfl, rfl, rfl, trivial⟩
      · skip
        refine Tl_q (JO_q rfl rfl (Jq_lss rfl rfl rfl (b := false) (dF (by omega)))) rfl ?_
        refine Tl_end ?_
        refine At_then ?_
        refine Tc_f rfl ?_
        refine Tc_skipA ?_
        refine At_then ?_
        refine Tc_region ?_
        refine Tl_q (JO_q rfl rfl (Jq_move rfl rfl)) rfl ?_
        refine Tl_q (JO_q rfl rfl (Jq_move rfl rfl)) rfl ?_
        refine Tl_q (JO_q rfl rfl (Jq_move rfl rfl)) rfl ?_
        refine Tl_q (JO_q rfl rfl (Jq_move rfl rfl)) rfl ?_
        refine Tl_q (JO_q rfl rfl (Jq_rem rfl rfl rfl (by decide) (r := ((k % 32 : Nat) : Int)) (tmodN k 32))) rfl ?_
        refine Tl_q (JO_q rfl rfl (Jq_shr rfl rfl rfl (by omega) (r := (((a[i]'hi) / 2 ^ (k % 32) : Nat) : Int)) (shr_nat _ (k % 32) (minbits64 (by omega))))) rfl ?_
        refine Tl_q (JO_q rfl rfl (Jq_convert rfl rfl un62 us59 (r := (((a[i]'hi) / 2 ^ (k % 32) % 4294967296 : Nat) : Int)) (wu32 (by omega)))) rfl ?_
        refine Tl_q (JO_q rfl rfl (Jq_index_own rfl rfl rfl rfl (by decide) (by simp [hol]) (by decide) un23 ty62 (by omega) (by omega) (off := i) (by omega))) rfl ?_
        refine Tl_e (JO_e rfl rfl (Je_store (ls := ((out.set i ((a[i]'hi) / 2 ^ (k % 32) % 4294967296)).map u32L)) rfl rfl rfl rfl ty62 rfl (by decide) (by simp; omega) (splice_u32 (by omega)))) rfl rfl ?_
        refine Tl_end ?_
        refine At_block ?_
        refine At_then ?_
        refine Tc_region ?_
        refine Tl_q (JO_q rfl rfl (Jq_add rfl rfl rfl (r := ((i + 1 : Nat) : Int)) (w64 (by omega) (by omega) (by omega)))) rfl ?_
        refine Tl_q (JO_q rfl rfl (Jq_move rfl rfl)) rfl ?_
        refine Tl_end ?_
        exact At_next (m' := a.length - (i + 1)) (by omega) ⟨i + 1, _, rfl, rfl, rfl, by omega, by simp [hol], hos.set _ _ (by omega), shr_step sa hi (by omega) (by omega) heq _ (by rw [getD_out (by omega), Nat.mul_zero, Nat.add_zero])⟩ ⟨rfl, rfl, rfl, rfl, rfl, rfl, trivial⟩
    · skip
      refine Tl_q (JO_q rfl rfl (Jq_lss rfl rfl rfl (b := false) (dF (by omega)))) rfl ?_
      refine Tl_end ?_
      refine At_then ?_
      refine Tc_seq ?_
      refine Tc_f rfl ?_
      refine Tc_exitA ?_
      refine At_then_exit ?_
      refine At_then_exit ?_
      refine At_block_exit ?_
      refine At_then ?_
      refine Tc_seq ?_
      have hie : i = a.length := by omega
      subst hie
      rw [val_take_all out _ (by omega), va] at heq
      have hlt : val la / 2 ^ k < 4294967296 ^ a.length := by rw [← va]; exact Nat.lt_of_le_of_lt (Nat.div_le_self _ _) (val_lt sa)
      rw [Nat.mod_eq_of_lt hlt] at heq
      refine Tc_region ?_
      refine Tl_q (JO_q rfl rfl (Jq_move rfl rfl)) rfl ?_
      refine Tl_share_nat 62 (out) rfl rfl rfl rfl (by omega) ?_
      refine Tl_e (JO_e rfl rfl (Je_call rfl fn60 rfl (trim_spec out hos))) rfl rfl ?_
      refine Tl_q (JO_q rfl rfl (Jq_assign rfl rfl)) rfl ?_
      refine Tl_q (JO_q rfl rfl (Jq_assign rfl rfl)) rfl ?_
      refine Tl_end ?_
      refine At_then ?_
      exact Tc_ret2 (fun _ _ h => h) rfl rfl rfl (by rw [heq])

set_option maxRecDepth 10000 in
theorem bits_spec (la : List Nat) (hsa : Small la) (hla : la.length ≤ 10000000000000) : Ctr Tryz.prog 76 [V.one (natL la)] (R.one (V.one (Leaf.val (.int .i64 ((bl (val la) : Nat) : Int))))) := by
  refine Ctr.of_body Tryz.func76 rfl Tryz.ntmps76 (Nat.le_of_ble_eq_true rfl) (fun w0 A0 => ?_)
  refine Tc_seq ?_
  refine Tc_region ?_
  refine Tl_q (JO_q rfl rfl (Jq_assign rfl rfl)) rfl ?_
  refine Tl_end ?_
  refine At_then ?_
  refine Tc_seq ?_
  refine Tc_region ?_
  refine Tl_q (JO_q rfl rfl (Jq_move rfl rfl)) rfl ?_
  refine Tl_e (JO_e rfl rfl (Je_call rfl fn60 rfl (trim_spec la hsa))) rfl rfl ?_
  refine Tl_q (JO_q rfl rfl (Jq_assign rfl rfl)) rfl ?_
  refine Tl_end ?_
  refine At_then ?_
  refine Tc_seq ?_
  refine Tc_seq ?_
  have hl0 := limbs_val_length hsa
  have hb := fun h => bl_limbs (canon_limbs (val la)) h
  have hs := small_limbs (val la)
  rw [val_limbs] at hb
  have hz0 : (limbs (val la)).length = 0 → val la = 0 := fun h => limbs_eq_nil.1 (List.eq_nil_of_length_eq_zero h)
  generalize limbs (val la) = a at *
  refine Tc_region ?_
  refine Tl_q (JO_q rfl rfl (Jq_move rfl rfl)) rfl ?_
  refine Tl_q (JO_q rfl rfl (Jq_len rfl rfl un23)) rfl ?_
  by_cases hz : a.length = 0
  · skip
    refine Tl_q (JO_q rfl rfl (Jq_eql rfl rfl rfl (b := true) (eT (by omega)))) rfl ?_
    refine Tl_end ?_
    refine At_then ?_
    refine Tc_t rfl ?_
    refine Tc_seq ?_
    refine Tc_region ?_
    refine Tl_q (JO_q rfl rfl (Jq_assign rfl rfl)) rfl ?_
    refine Tl_end ?_
    refine At_then ?_
    exact Tc_ret1 (fun _ _ h => h) rfl rfl (by rw [hz0 hz]; rfl)
  · skip
    refine Tl_q (JO_q rfl rfl (Jq_eql rfl rfl rfl (b := false) (eF (by omega)))) rfl ?_
    refine Tl_end ?_
    refine At_then ?_
    refine Tc_f rfl ?_
    refine Tc_skipA ?_
    refine At_then ?_
    refine Tc_seq ?_
    have hb := hb (by omega); have htop := hs.get (a.length - 1) (by omega)
    have hbt := bl_le_of_lt (k := 32) htop
    refine Tc_region ?_
    refine Tl_q (JO_q rfl rfl (Jq_move rfl rfl)) rfl ?_
    refine Tl_q (JO_q rfl rfl (Jq_len rfl rfl un23)) rfl ?_
    refine Tl_q (JO_q rfl rfl (Jq_sub rfl rfl rfl (r := ((a.length - 1 : Nat) : Int)) (w64 (by omega) (by omega) (by omega)))) rfl ?_
    refine Tl_q (JO_q rfl rfl (Jq_mul rfl rfl rfl (r := ((32 * (a.length - 1) : Nat) : Int)) (w64 (by omega) (by omega) (by omega)))) rfl ?_
    refine Tl_q (JO_q rfl rfl (Jq_move rfl rfl)) rfl ?_
    refine Tl_q (JO_q rfl rfl (Jq_move rfl rfl)) rfl ?_
    refine Tl_q (JO_q rfl rfl (Jq_len rfl rfl un23)) rfl ?_
    refine Tl_q (JO_q rfl rfl (Jq_sub rfl rfl rfl (r := ((a.length - 1 : Nat) : Int)) (w64 (by omega) (by omega) (by omega)))) rfl ?_
    refine Tl_q (JO_q rfl rfl (Jq_index1 rfl rfl rfl un23 ty62 (by omega) (by omega) (get_u32i (a.length - 1) (by omega) rfl))) rfl ?_
    refine Tl_q (JO_q rfl rfl (Jq_load_ref rfl rfl ty62)) rfl ?_
    refine Tl_e (JO_e rfl rfl (Je_call rfl fn99 rfl (len32_spec (a[a.length - 1]'(by omega)) htop))) rfl rfl ?_
    refine Tl_q (JO_q rfl rfl (Jq_add rfl rfl rfl (r := ((bl (val la) : Nat) : Int)) (w64 (by omega) (by omega) (by omega)))) rfl ?_
    refine Tl_q (JO_q rfl rfl (Jq_assign rfl rfl)) rfl ?_
    refine Tl_end ?_
    refine At_then ?_
    exact Tc_ret1 (fun _ _ h => h) rfl rfl rfl

set_option maxRecDepth 10000 in
theorem short_spec (a : List Nat) (d : Nat) (hsa : Small a) (hd : d < 4294967296) (hd0 : 0 < d) (hla : a.length ≤ 10000000000000) : Ctr Tryz.prog 81 [V.one (natL a), V.one (Leaf.val (.int .u32 d))] (R.tup [V.one (natL (limbs (val a / d))), V.one (natL (limbs (val a % d)))]) := by
  refine Ctr.of_body Tryz.func81 rfl Tryz.ntmps81 (Nat.le_of_ble_eq_true rfl) (fun w0 A0 => ?_)
  refine Tc_seq ?_
  refine Tc_region ?_
  refine Tl_q (JO_q rfl rfl (Jq_assign_nil rfl)) rfl ?_
  refine Tl_q (JO_q rfl rfl (Jq_assign_nil rfl)) rfl ?_
  refine Tl_end ?_
  refine At_then ?_
  refine Tc_seq ?_
  refine Tc_region ?_
  refine Tl_q (JO_q rfl rfl (Jq_move rfl rfl)) rfl ?_
  refine Tl_q (JO_q rfl rfl (Jq_len rfl rfl un23)) rfl ?_
  obtain ⟨ti1, hi1, hz1, hs1, hb1⟩ := in62
  refine Tl_e (JO_e rfl rfl (Je_make (i := 0) (n := a.length) (ls := ((List.replicate (a.length) 0).map u32L)) rfl rfl rfl un23 hi1 hz1 hs1 (by decide) rfl (by decide) rfl (by rw [hb1]; omega) (by simp only [maxLen]; omega) (zc_u32 _) rfl)) rfl rfl ?_
  refine Tl_q (JO_q rfl rfl (Jq_assign rfl rfl)) rfl ?_
  refine Tl_end ?_
  refine At_then ?_
  refine Tc_seq ?_
  refine Tc_region ?_
  refine Tl_q (JO_q rfl rfl (Jq_assign rfl rfl)) rfl ?_
  refine Tl_end ?_
  refine At_then ?_
  refine Tc_seq ?_
  refine Tc_seq ?_
  refine Tc_region ?_
  refine Tl_q (JO_q rfl rfl (Jq_move rfl rfl)) rfl ?_
  refine Tl_q (JO_q rfl rfl (Jq_len rfl rfl un23)) rfl ?_
  refine Tl_q (JO_q rfl rfl (Jq_sub rfl rfl rfl (r := (a.length : Int) - 1) (w64 (by omega) (by omega) (by omega)))) rfl ?_
  refine Tl_q (JO_q rfl rfl (Jq_assign rfl rfl)) rfl ?_
  refine Tl_end ?_
  refine At_then ?_
  refine Tc_block ?_
  refine Tc_loopR (fun m Γ H => ∃ (n : Nat) (out : List Nat) (r : Nat), n = m ∧ Γ = [(0, some (D.v (V.one (natL a)))), (1, some (D.val (.int .u32 ((d : Nat) : Int)))), (6, some (D.own 0 a.length)), (7, some (D.val (.int .u64 ((r : Nat) : Int)))), (8, some (D.int ((n : Int) - 1)))] ∧ H = [some ⟨62, out.map u32L, some 1, none⟩] ∧ n ≤ a.length ∧ out.length = a.length ∧ Small out ∧ r < d ∧ val (a.drop n) = val (out.drop n) * d + r) ⟨a.length, List.replicate a.length 0, 0, rfl, rfl, rfl, Nat.le_refl _, by simp, Small.replicate _, hd0, by rw [List.drop_of_length_le (Nat.le_refl _), List.drop_of_length_le (by simp)]; simp [val]⟩ ⟨rfl, rfl, rfl, rfl, rfl, trivial⟩ ?_
  rintro m Γ H ⟨n, out, r, rfl, rfl, rfl, hnle, hol, hos, hr, heq⟩
  refine Tc_seq ?_
  refine Tc_seq ?_
  refine Tc_region ?_
  refine Tl_q (JO_q rfl rfl (Jq_move rfl rfl)) rfl ?_
  by_cases hn : 0 < n
  · skip
    refine Tl_q (JO_q rfl rfl (Jq_geq rfl rfl rfl (b := true) (dT (by omega)))) rfl ?_
    refine Tl_end ?_
    refine At_then ?_
    refine Tc_t rfl ?_
    refine Tc_skipA ?_
    refine At_then ?_
    refine Tc_seq ?_
    refine Tc_block ?_
    refine Tc_seq ?_
    have hai := hsa.get (n - 1) (by omega)
    have hq : (r * 2 ^ 32 + a[n - 1]'(by omega)) / d < 4294967296 := by
      rw [Nat.div_lt_iff_lt_mul hd0]
      have : (r + 1) * 4294967296 ≤ d * 4294967296 := Nat.mul_le_mul_right _ hr
      omega
    have hm := Nat.mod_lt (r * 2 ^ 32 + a[n - 1]'(by omega)) hd0
    refine Tc_region ?_
    refine Tl_q (JO_q rfl rfl (Jq_move rfl rfl)) rfl ?_
    refine Tl_q (JO_q rfl rfl (Jq_shl rfl rfl rfl (by decide) (r := ((r * 2 ^ 32 : Nat) : Int)) (shl64 _ 32 rfl (by omega)))) rfl ?_
    refine Tl_q (JO_q rfl rfl (Jq_move rfl rfl)) rfl ?_
    refine Tl_q (JO_q rfl rfl (Jq_move rfl rfl)) rfl ?_
    refine Tl_q (JO_q rfl rfl (Jq_index1 rfl rfl rfl un23 ty62 (by omega) (by omega) (get_u32i (n - 1) (by omega) (by omega)))) rfl ?_
    refine Tl_q (JO_q rfl rfl (Jq_load_ref rfl rfl ty62)) rfl ?_
    refine Tl_q (JO_q rfl rfl (Jq_convert rfl rfl un59 us62 (r := ((a[n - 1]'(by omega) : Nat) : Int)) (wu64 (by omega)))) rfl ?_
    refine Tl_q (JO_q rfl rfl (Jq_or rfl rfl rfl (r := ((r * 2 ^ 32 + a[n - 1]'(by omega) : Nat) : Int)) (or64 32 (Nat.mul_mod_left _ _) (by omega) (by omega)))) rfl ?_
    refine Tl_q (JO_q rfl rfl (Jq_assign rfl rfl)) rfl ?_
    refine Tl_end ?_
    refine At_then ?_
    refine Tc_seq ?_
    refine Tc_region ?_
    refine Tl_q (JO_q rfl rfl (Jq_move rfl rfl)) rfl ?_
    refine Tl_q (JO_q rfl rfl (Jq_move rfl rfl)) rfl ?_
    refine Tl_q (JO_q rfl rfl (Jq_move rfl rfl)) rfl ?_
    refine Tl_q (JO_q rfl rfl (Jq_move rfl rfl)) rfl ?_
    refine Tl_q (JO_q rfl rfl (Jq_convert rfl rfl un59 us62 (r := ((d : Nat) : Int)) (wu64 (by omega)))) rfl ?_
    refine Tl_q (JO_q rfl rfl (Jq_quo rfl rfl rfl (by omega) (r := (((r * 2 ^ 32 + a[n - 1]'(by omega)) / d : Nat) : Int)) ((by rw [tdivN]; exact wrap_nat_u64 (Nat.lt_trans hq (by decide)))))) rfl ?_
    refine Tl_q (JO_q rfl rfl (Jq_convert rfl rfl un62 us59 (r := (((r * 2 ^ 32 + a[n - 1]'(by omega)) / d : Nat) : Int)) (wu32 (Int.emod_eq_of_lt (Int.natCast_nonneg _) (Int.ofNat_lt.2 hq))))) rfl ?_
    refine Tl_q (JO_q rfl rfl (Jq_index_own rfl rfl rfl rfl (by decide) (by simp [hol]) (by decide) un23 ty62 (by omega) (by omega) (off := n - 1) (by omega))) rfl ?_
    refine Tl_e (JO_e rfl rfl (Je_store (ls := ((out.set (n - 1) ((r * 2 ^ 32 + a[n - 1]'(by omega)) / d)).map u32L)) rfl rfl rfl rfl ty62 rfl (by decide) (by simp; omega) (splice_u32 (by omega)))) rfl rfl ?_
    refine Tl_end ?_
    refine At_then ?_
    refine Tc_region ?_
    refine Tl_q (JO_q rfl rfl (Jq_move rfl rfl)) rfl ?_
    refine Tl_q (JO_q rfl rfl (Jq_move rfl rfl)) rfl ?_
    refine Tl_q (JO_q rfl rfl (Jq_convert rfl rfl un59 us62 (r := ((d : Nat) : Int)) (wu64 (by omega)))) rfl ?_
    refine Tl_q (JO_q rfl rfl (Jq_rem rfl rfl rfl (by omega) (r := (((r * 2 ^ 32 + a[n - 1]'(by omega)) % d : Nat) : Int)) (tmodN _ _))) rfl ?_
    refine Tl_q (JO_q rfl rfl (Jq_assign rfl rfl)) rfl ?_
    refine Tl_end ?_
    refine At_block ?_
    refine At_then ?_
    refine Tc_region ?_
    refine Tl_q (JO_q rfl rfl (Jq_move rfl rfl)) rfl ?_
    refine Tl_q (JO_q rfl rfl (Jq_sub rfl rfl rfl (r := ((n - 1 : Nat) : Int) - 1) (w64 (by omega) (by omega) (by omega)))) rfl ?_
    refine Tl_q (JO_q rfl rfl (Jq_assign rfl rfl)) rfl ?_
    refine Tl_end ?_
    exact At_next (m' := n - 1) (by omega) ⟨n - 1, _, _, rfl, rfl, rfl, by omega, by simp [hol], hos.set _ _ hq, Nat.mod_lt _ hd0, short_step hn (by omega) (by omega) heq _ (by simp)⟩ ⟨rfl, rfl, rfl, rfl, rfl, trivial⟩
  · skip
    refine Tl_q (JO_q rfl rfl (Jq_geq rfl rfl rfl (b := false) (dF (by omega)))) rfl ?_
    refine Tl_end ?_
    refine At_then ?_
    refine Tc_f rfl ?_
    refine Tc_exitA ?_
    refine At_then_exit ?_
    refine At_then_exit ?_
    refine At_block_exit ?_
    refine At_then ?_
    refine Tc_seq ?_
    have hn0 : n = 0 := by omega
    subst hn0
    simp only [List.drop_zero] at heq
    have hq : val a / d = val out := by rw [heq, Nat.mul_comm, Nat.mul_add_div hd0, Nat.div_eq_of_lt hr, Nat.add_zero]
    have hm : val a % d = r := by rw [heq, Nat.mul_comm, Nat.mul_add_mod, Nat.mod_eq_of_lt hr]
    refine Tc_region ?_
    refine Tl_q (JO_q rfl rfl (Jq_move rfl rfl)) rfl ?_
    refine Tl_share_nat 39 (out) rfl rfl rfl rfl (by omega) ?_
    refine Tl_e (JO_e rfl rfl (Je_call rfl fn60 rfl (trim_spec out hos))) rfl rfl ?_
    refine Tl_q (JO_q rfl rfl (Jq_move rfl rfl)) rfl ?_
    refine Tl_e (JO_e rfl rfl (Je_call rfl fn38 rfl (of_spec r (by omega)))) rfl rfl ?_
    refine Tl_q (JO_q rfl rfl (Jq_assign rfl rfl)) rfl ?_
    refine Tl_q (JO_q rfl rfl (Jq_assign rfl rfl)) rfl ?_
    refine Tl_end ?_
    refine At_then ?_
    exact Tc_ret2 (fun _ _ h => h) rfl rfl rfl (by rw [hq, hm])

end Go.Proofs.YtpabkdpijcbkgaaGreatDoor
