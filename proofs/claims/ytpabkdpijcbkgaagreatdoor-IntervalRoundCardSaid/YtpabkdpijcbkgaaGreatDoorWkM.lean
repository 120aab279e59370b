/- Walks: shifts, zeros at the end. -/
import Derived.Test.YtpabkdpijcbkgaaGreatDoorWkJ
import Derived.Test.YtpabkdpijcbkgaaGreatDoorDyM
import Derived.Test.YtpabkdpijcbkgaaGreatDoorFwM
import Derived.Test.YtpabkdpijcbkgaaGreatDoorFacts
set_option linter.unusedSimpArgs false
set_option linter.unusedVariables false
namespace Go.Proofs.YtpabkdpijcbkgaaGreatDoor
open Go Go.RowKit Rc


theorem tab_mem : (0, bruijn.map fun n : Nat => Value.int .u8 (n : Int)) ∈ tab := by simp [tab, bruijn]
theorem tab_get {k : Nat} (h : k < 32) : (bruijn.map fun n : Nat => Value.int .u8 (n : Int))[2 ^ k * 125613361 % 4294967296 / 134217728 * 1]? = some (.int .u8 (k : Int)) := by
  rw [Nat.mul_one, List.getElem?_map, bruijn_get h]; rfl
theorem and_u32 {x y z : Nat} (hx : x < 4294967296) (hy : y < 4294967296) (h : x &&& y = z) (hz : z < 4294967296) : IntKind.u32.wrap ((BitVec.ofInt IntKind.u32.bits (x : Int) &&& BitVec.ofInt IntKind.u32.bits (y : Int)).toNat) = (z : Int) := by
  rw [BitVec.toNat_and, ofInt_nat _ x (by simp only [IntKind.bits]; omega), ofInt_nat _ y (by simp only [IntKind.bits]; omega), h]
  exact wrap_nat_u32 hz

set_option maxRecDepth 10000 in
theorem tz32_spec (x : Nat) (h0 : x ≠ 0) (hx : x < 4294967296) : Ctr Tryz.prog 101 [V.one (Leaf.val (.int .u32 x))] (R.one (V.one (Leaf.val (.int .i64 ((tz x : Nat) : Int))))) := by
  refine Ctr.of_body Tryz.func101 rfl Tryz.ntmps101 (Nat.le_of_ble_eq_true rfl) (fun w0 A0 => ?_)
  refine Tc_seq ?_
  refine Tc_region ?_
  refine Tl_q (JO_q rfl rfl (Jq_assign rfl rfl)) rfl ?_
  refine Tl_end ?_
  refine At_then ?_
  refine Tc_seq ?_
  refine Tc_seq ?_
  refine Tc_region ?_
  refine Tl_q (JO_q rfl rfl (Jq_move rfl rfl)) rfl ?_
  refine Tl_q (JO_q rfl rfl (Jq_eql rfl rfl rfl (b := false) (eF (by omega)))) rfl ?_
  refine Tl_end ?_
  refine At_then ?_
  refine Tc_f rfl ?_
  refine Tc_skipA ?_
  refine At_then ?_
  refine Tc_seq ?_
  have ht := tz32_lt h0 hx
  have hp : 2 ^ tz x ≤ 2 ^ 31 := Nat.pow_le_pow_right (by decide) (by omega)
  have hi := bruijn_lt ht
  refine Tc_region ?_
  refine Tl_q (JO_q rfl rfl (Jq_move rfl rfl)) rfl ?_
  refine Tl_q (JO_q rfl rfl (Jq_move rfl rfl)) rfl ?_
  refine Tl_q (JO_q rfl rfl (Jq_neg rfl rfl (r := ((4294967296 - x : Nat) : Int)) (wu32 (by omega)))) rfl ?_
  refine Tl_q (JO_q rfl rfl (Jq_and rfl rfl rfl (r := ((2 ^ tz x : Nat) : Int)) (and_u32 hx (by omega) (and_neg h0 hx) (by omega)))) rfl ?_
  refine Tl_q (JO_q rfl rfl (Jq_mul rfl rfl rfl (r := ((2 ^ tz x * 125613361 % 4294967296 : Nat) : Int)) (wu32 (by omega)))) rfl ?_
  refine Tl_q (JO_q rfl rfl (Jq_shr rfl rfl rfl (by decide) (r := ((2 ^ tz x * 125613361 % 4294967296 / 134217728 : Nat) : Int)) (shr_nat _ 27 rfl))) rfl ?_
  refine Tl_q (JO_q rfl rfl (Jq_index_glob (j := 2 ^ tz x * 125613361 % 4294967296 / 134217728) rfl rfl un101 ty5 hi)) rfl ?_
  refine Tl_q (JO_q rfl rfl (Jq_load_glob rfl rfl ty5 tab_mem (tab_get ht) rfl)) rfl ?_
  refine Tl_q (JO_q rfl rfl (Jq_convert rfl rfl un3 us5 (r := ((tz x : Nat) : Int)) (w64 (by omega) (by omega) (by omega)))) rfl ?_
  refine Tl_q (JO_q rfl rfl (Jq_assign rfl rfl)) rfl ?_
  refine Tl_end ?_
  refine At_then ?_
  exact Tc_ret1 (fun _ _ h => h) rfl rfl rfl

set_option maxRecDepth 10000 in
theorem shl_spec (la : List Nat) (k : Nat) (hsa : Small la) (hk : k ≤ 1048576) (hla : la.length ≤ 9000000000000) : Ctr Tryz.prog 59 [V.one (natL la), V.one (Leaf.val (.int .i64 ((k : Nat) : Int)))] (R.tup [V.one (natL (limbs (val la * 2 ^ k))), V.one (Leaf.val (.int .i64 0))]) := by
  refine Ctr.of_body Tryz.func59 rfl Tryz.ntmps59 (Nat.le_of_ble_eq_true rfl) (fun w0 A0 => ?_)
  refine Tc_seq ?_
  refine Tc_region ?_
  refine Tl_q (JO_q rfl rfl (Jq_assign_nil rfl)) rfl ?_
  refine Tl_q (JO_q rfl rfl (Jq_assign rfl rfl)) rfl ?_
  refine Tl_end ?_
  refine At_then ?_
  refine Tc_seq ?_
  refine Tc_seq ?_
  refine Tc_region ?_
  refine Tl_q (JO_q rfl rfl (Jq_move rfl rfl)) rfl ?_
  refine Tl_q (JO_q rfl rfl (Jq_lss rfl rfl rfl (b := false) (dF (by omega)))) rfl ?_
  refine Tl_q (JO_q rfl rfl (Jq_move rfl rfl)) rfl ?_
  refine Tl_q (JO_qg rfl rfl rfl rfl (Jq_move rfl rfl)) rfl ?_
  refine Tl_q (JO_qg rfl rfl rfl rfl (Jq_gtr rfl rfl rfl (b := false) (dF (by omega)))) rfl ?_
  refine Tl_q (JO_q rfl rfl (Jq_pick_f rfl rfl rfl)) rfl ?_
  refine Tl_end ?_
  refine At_then ?_
  refine Tc_f rfl ?_
  refine Tc_skipA ?_
  refine At_then ?_
  refine Tc_seq ?_
  refine Tc_region ?_
  refine Tl_q (JO_q rfl rfl (Jq_move rfl rfl)) rfl ?_
  refine Tl_e (JO_e rfl rfl (Je_call rfl fn60 rfl (trim_spec la hsa))) rfl rfl ?_
  refine Tl_q (JO_q rfl rfl (Jq_assign rfl rfl)) rfl ?_
  refine Tl_end ?_
  refine At_then ?_
  refine Tc_seq ?_
  refine Tc_seq ?_
  have hl0 := limbs_val_length hsa; have vl := val_limbs (val la); have sl := small_limbs (val la)
  have hn0 : (limbs (val la)).length = 0 → val la = 0 := fun h => limbs_eq_nil.1 (List.eq_nil_of_length_eq_zero h)
  generalize limbs (val la) = l at *
  refine Tc_region ?_
  refine Tl_q (JO_q rfl rfl (Jq_move rfl rfl)) rfl ?_
  refine Tl_q (JO_q rfl rfl (Jq_len rfl rfl un23)) rfl ?_
  by_cases hz : l.length = 0
  · skip
    refine Tl_q (JO_q rfl rfl (Jq_eql rfl rfl rfl (b := true) (eT (by omega)))) rfl ?_
    refine Tl_end ?_
    refine At_then ?_
    refine Tc_t rfl ?_
    refine Tc_seq ?_
    refine Tc_region ?_
    refine Tl_q (JO_q rfl rfl (Jq_assign_nil rfl)) rfl ?_
    refine Tl_q (JO_q rfl rfl (Jq_assign rfl rfl)) rfl ?_
    refine Tl_end ?_
    refine At_then ?_
    exact Tc_ret2 (fun _ _ h => h) rfl rfl rfl (by rw [hn0 hz, Nat.zero_mul, limbs_zero]; rfl)
  · skip
    refine Tl_q (JO_q rfl rfl (Jq_eql rfl rfl rfl (b := false) (eF (by omega)))) rfl ?_
    refine Tl_end ?_
    refine At_then ?_
    refine Tc_f rfl ?_
    refine Tc_skipA ?_
    refine At_then ?_
    refine Tc_seq ?_
    refine Tc_drawK 0 [none, none, none, none, none, none, none, none, none, none, none] [] follows (by kernel_rfl) ?_
    refine DK_q (JO_q rfl rfl (Jq_move rfl rfl)) ?_
    refine DK_q (JO_q rfl rfl (Jq_quo rfl rfl rfl (by decide) (r := ((k / 32 : Nat) : Int)) (w64 (tdivN k 32) (by omega) (by omega)))) ?_
    obtain ⟨ti2, hi2, hz2, hs2, hb2⟩ := in62
    refine DK_c rfl rfl (fun _ => Je_makeFull (n := k / 32) (ls := ((List.replicate (k / 32) 0).map u32L)) rfl rfl rfl un23 hi2 hz2 hs2 (by decide) rfl (by decide) rfl (by rw [hb2]; omega) (by simp only [maxLen]; omega) (zc_u32 _) _) ?_
    refine DK_q (JO_q rfl rfl (Jq_move rfl rfl)) ?_
    refine DK_q (JO_q rfl rfl (Jq_move rfl rfl)) ?_
    refine DK_q (JO_q rfl rfl (Jq_rem rfl rfl rfl (by decide) (r := ((k % 32 : Nat) : Int)) (tmodN k 32))) ?_
    refine DK_c rfl rfl (Jd_call rfl fn83 rfl (left_spec l (k % 32) sl (by omega) (by omega))) ?_
    obtain ⟨ti3, hi3, hz3, hs3, hb3⟩ := in62
    refine DK_c rfl rfl (fun _ => Je_appendFull rfl rfl rfl (by simp) (by simp) (by decide) (by rw [padL_length]; omega) un23 un23 hi3 hz3 hs3 rfl (by rw [padL_length]; simp only [maxLen]; omega) (by rw [hb3, padL_length]; omega) (nm := (List.replicate (k / 32) 0 ++ padL (l.length + 1) (val l * 2 ^ (k % 32))).length) (by rw [List.length_append, List.length_replicate]) (ls := ((List.replicate (k / 32) 0 ++ padL (l.length + 1) (val l * 2 ^ (k % 32))).map u32L)) (by rw [List.map_append]) _) ?_
    refine DK_c rfl rfl (Jd_call rfl fn60 rfl (trim_spec (List.replicate (k / 32) 0 ++ padL (l.length + 1) (val l * 2 ^ (k % 32))) ((Small.replicate _).append (small_padL _ _)))) ?_
    refine DK_q (JO_q rfl rfl (Jq_assign rfl rfl)) ?_
    refine DK_q (JO_q rfl rfl (Jq_assign rfl rfl)) ?_
    refine DK_nil ?_
    refine At_then ?_
    exact Tc_ret2 (fun _ _ h => h) rfl rfl rfl (by rw [shl_val sl, vl])

theorem nshl_w (l : List Nat) (k : Nat) (hs : Small l) (hk : k ≤ 1048576) (hl : l.length ≤ 9000000000000) (m : Nat) (hm : val l = m) : Ctr Tryz.prog 59 [V.one (natL l), V.one (Leaf.val (.int .i64 ((k : Nat) : Int)))] (R.tup [V.one (natL (limbs (m * 2 ^ k))), V.one (Leaf.val (.int .i64 0))]) := by
  subst hm; exact shl_spec l k hs hk hl

theorem nshr_w (l : List Nat) (k : Nat) (hs : Small l) (hk : k ≤ 1048576) (hl : l.length ≤ 10000000000000) (m : Nat) (hm : val l = m) : Ctr Tryz.prog 86 [V.one (natL l), V.one (Leaf.val (.int .i64 ((k : Nat) : Int)))] (R.tup [V.one (natL (limbs (m / 2 ^ k))), V.one (Leaf.val (.int .i64 0))]) := by
  subst hm; exact shr_spec l k hs hk hl

set_option maxRecDepth 10000 in
theorem zeros_spec (l : List Nat) (hs : Small l) (hn : val l ≠ 0) (hl : l.length ≤ 10000000000000) : Ctr Tryz.prog 87 [V.one (natL l)] (R.one (V.one (Leaf.val (.int .i64 ((tz (val l) : Nat) : Int))))) := by
  refine Ctr.of_body Tryz.func87 rfl Tryz.ntmps87 (Nat.le_of_ble_eq_true rfl) (fun w0 A0 => ?_)
  refine Tc_seq ?_
  refine Tc_region ?_
  refine Tl_q (JO_q rfl rfl (Jq_assign rfl rfl)) rfl ?_
  refine Tl_end ?_
  refine At_then ?_
  refine Tc_seq ?_
  refine Tc_region ?_
  refine Tl_q (JO_q rfl rfl (Jq_assign rfl rfl)) rfl ?_
  refine Tl_end ?_
  refine At_then ?_
  refine Tc_seq ?_
  refine Tc_block ?_
  refine Tc_loopR (fun m Γ H => ∃ (k : Nat), l.length - k = m ∧ Γ = [(0, some (D.v (V.one (natL l)))), (3, some (D.int ((k : Nat) : Int)))] ∧ H = [] ∧ val (l.take k) = 0) ⟨0, rfl, rfl, rfl, rfl⟩ ⟨rfl, rfl, trivial⟩ ?_
  rintro m Γ H ⟨k, rfl, rfl, rfl, hz⟩
  have hk := zeros_in hn hz
  have hlk := hs.get k hk
  have hlt := tz32_lt (x := l[k])
  have hta := zeros_at hs hk hz
  refine Tc_seq ?_
  refine Tc_seq ?_
  refine Tc_region ?_
  refine Tl_q (JO_q rfl rfl (Jq_move rfl rfl)) rfl ?_
  refine Tl_q (JO_q rfl rfl (Jq_move rfl rfl)) rfl ?_
  refine Tl_q (JO_q rfl rfl (Jq_index1 rfl rfl rfl un23 ty62 (by omega) (by omega) (get_u32 hk))) rfl ?_
  refine Tl_q (JO_q rfl rfl (Jq_load_ref rfl rfl ty62)) rfl ?_
  by_cases h0 : l[k]'hk = 0
  · skip
    refine Tl_q (JO_q rfl rfl (Jq_eql rfl rfl rfl (b := true) (eT (by omega)))) rfl ?_
    refine Tl_end ?_
    refine At_then ?_
    refine Tc_t rfl ?_
    refine Tc_skipA ?_
    refine At_then ?_
    refine Tc_block ?_
    refine Tc_region ?_
    refine Tl_q (JO_q rfl rfl (Jq_move rfl rfl)) rfl ?_
    refine Tl_q (JO_q rfl rfl (Jq_add rfl rfl rfl (r := ((k + 1 : Nat) : Int)) (w64 (by omega) (by omega) (by omega)))) rfl ?_
    refine Tl_q (JO_q rfl rfl (Jq_assign rfl rfl)) rfl ?_
    refine Tl_end ?_
    refine At_block ?_
    exact At_next (m' := l.length - (k + 1)) (by omega) ⟨k + 1, rfl, rfl, rfl, zeros_next hk hz h0⟩ ⟨rfl, rfl, trivial⟩
  · skip
    refine Tl_q (JO_q rfl rfl (Jq_eql rfl rfl rfl (b := false) (eF (by omega)))) rfl ?_
    refine Tl_end ?_
    refine At_then ?_
    refine Tc_f rfl ?_
    refine Tc_exitA ?_
    refine At_then_exit ?_
    refine At_then_exit ?_
    refine At_block_exit ?_
    refine At_then ?_
    refine Tc_seq ?_
    refine Tc_region ?_
    refine Tl_q (JO_q rfl rfl (Jq_move rfl rfl)) rfl ?_
    refine Tl_q (JO_q rfl rfl (Jq_mul rfl rfl rfl (r := ((32 * k : Nat) : Int)) (w64 (by omega) (by omega) (by omega)))) rfl ?_
    refine Tl_q (JO_q rfl rfl (Jq_move rfl rfl)) rfl ?_
    refine Tl_q (JO_q rfl rfl (Jq_move rfl rfl)) rfl ?_
    refine Tl_q (JO_q rfl rfl (Jq_index1 rfl rfl rfl un23 ty62 (by omega) (by omega) (get_u32 hk))) rfl ?_
    refine Tl_q (JO_q rfl rfl (Jq_load_ref rfl rfl ty62)) rfl ?_
    refine Tl_e (JO_e rfl rfl (Je_call rfl fn101 rfl (tz32_spec (l[k]'hk) h0 hlk))) rfl rfl ?_
    refine Tl_q (JO_q rfl rfl (Jq_add rfl rfl rfl (r := ((32 * k + tz (l[k]'hk) : Nat) : Int)) (w64 (by omega) (by have := hlt h0 hlk; omega) (by have := hlt h0 hlk; omega)))) rfl ?_
    refine Tl_q (JO_q rfl rfl (Jq_assign rfl rfl)) rfl ?_
    refine Tl_end ?_
    refine At_then ?_
    exact Tc_ret1 (fun _ _ h => h) rfl rfl (by rw [hta h0])

set_option maxRecDepth 10000 in
theorem dshl_spec (u : Nat) (k : Int) (hk : k ≤ 100000000000000) (hl : (limbs (u * 2 ^ k.toNat)).length ≤ 1000000000000) : Ctr Tryz.prog 37 [V.one (natL (limbs u)), V.one (Leaf.val (.int .i64 k))] (R.one (V.one (natL (limbs (u * 2 ^ k.toNat))))) := by
  refine Ctr.of_body Tryz.func37 rfl Tryz.ntmps37 (Nat.le_of_ble_eq_true rfl) (fun w0 A0 => ?_)
  refine Tc_seq ?_
  refine Tc_region ?_
  refine Tl_q (JO_q rfl rfl (Jq_assign_nil rfl)) rfl ?_
  refine Tl_end ?_
  refine At_then ?_
  refine Tc_seq ?_
  refine Tc_block ?_
  refine Tc_loopR (fun m Γ H => ∃ (c : Nat) (r : Int), r.toNat = m ∧ Γ = [(0, some (D.v (V.one (natL (limbs (u * 2 ^ c)))))), (1, some (D.int r))] ∧ H = [] ∧ r.toNat + c = k.toNat ∧ r ≤ 100000000000000) ⟨0, k, rfl, rfl, rfl, by omega, hk⟩ ⟨by rw [Nat.pow_zero, Nat.mul_one]; rfl, rfl, trivial⟩ ?_
  rintro m Γ H ⟨c, r, rfl, rfl, rfl, hrc, hr⟩
  refine Tc_seq ?_
  refine Tc_seq ?_
  refine Tc_region ?_
  refine Tl_q (JO_q rfl rfl (Jq_move rfl rfl)) rfl ?_
  by_cases hr0 : 0 < r
  · skip
    refine Tl_q (JO_q rfl rfl (Jq_gtr rfl rfl rfl (b := true) (dT (by omega)))) rfl ?_
    refine Tl_end ?_
    refine At_then ?_
    refine Tc_t rfl ?_
    refine Tc_skipA ?_
    refine At_then ?_
    refine Tc_block ?_
    refine Tc_seq ?_
    obtain ⟨p, hp⟩ : ∃ p : Nat, (p : Int) = min r 1048576 := ⟨(min r 1048576).toNat, by omega⟩
    have hm1 : u * 2 ^ c ≤ u * 2 ^ k.toNat := Nat.mul_le_mul_left _ (Nat.pow_le_pow_right (by decide) (by omega))
    have hm2 := limbs_length_mono hm1
    refine Tc_region ?_
    refine Tl_q (JO_q rfl rfl (Jq_move rfl rfl)) rfl ?_
    refine Tl_q (JO_q rfl rfl (Jq_min rfl rfl rfl (r := ((p : Nat) : Int)) (by split <;> omega))) rfl ?_
    refine Tl_q (JO_q rfl rfl (Jq_assign rfl rfl)) rfl ?_
    refine Tl_end ?_
    refine At_then ?_
    refine Tc_seq ?_
    refine Tc_region ?_
    refine Tl_q (JO_q rfl rfl (Jq_move rfl rfl)) rfl ?_
    refine Tl_q (JO_q rfl rfl (Jq_move rfl rfl)) rfl ?_
    refine Tl_e (JO_e rfl rfl (Je_call rfl fn59 rfl (nshl_w (limbs (u * 2 ^ c)) p (small_limbs _) (by omega) (by omega) (u * 2 ^ c) (val_limbs _)))) rfl rfl ?_
    refine Tl_q (JO_q rfl rfl (Jq_move rfl rfl)) rfl ?_
    refine Tl_q (JO_q rfl rfl (Jq_extract rfl rfl rfl)) rfl ?_
    refine Tl_q (JO_q rfl rfl (Jq_extract rfl rfl rfl)) rfl ?_
    refine Tl_q (JO_q rfl rfl (Jq_assign rfl rfl)) rfl ?_
    refine Tl_end ?_
    refine At_then ?_
    refine Tc_region ?_
    refine Tl_q (JO_q rfl rfl (Jq_move rfl rfl)) rfl ?_
    refine Tl_q (JO_q rfl rfl (Jq_move rfl rfl)) rfl ?_
    refine Tl_q (JO_q rfl rfl (Jq_sub rfl rfl rfl (r := r - p) (w64 (by omega) (by omega) (by omega)))) rfl ?_
    refine Tl_q (JO_q rfl rfl (Jq_assign rfl rfl)) rfl ?_
    refine Tl_end ?_
    refine At_block ?_
    exact At_next (m' := (r - p).toNat) (by omega) ⟨c + p, r - p, rfl, rfl, rfl, by omega, by omega⟩ ⟨by rw [Nat.pow_add, ← Nat.mul_assoc]; rfl, rfl, trivial⟩
  · skip
    refine Tl_q (JO_q rfl rfl (Jq_gtr rfl rfl rfl (b := false) (dF (by omega)))) rfl ?_
    refine Tl_end ?_
    refine At_then ?_
    refine Tc_f rfl ?_
    refine Tc_exitA ?_
    refine At_then_exit ?_
    refine At_then_exit ?_
    refine At_block_exit ?_
    refine At_then ?_
    refine Tc_seq ?_
    refine Tc_region ?_
    refine Tl_q (JO_q rfl rfl (Jq_move rfl rfl)) rfl ?_
    refine Tl_q (JO_q rfl rfl (Jq_assign rfl rfl)) rfl ?_
    refine Tl_end ?_
    refine At_then ?_
    exact Tc_ret1 (fun _ _ h => h) rfl rfl (by rw [show c = k.toNat from by omega])

set_option maxRecDepth 10000 in
theorem dshr_spec (u : Nat) (k : Int) (hk : k ≤ 100000000000000) (hl : (limbs (u)).length ≤ 1000000000000) : Ctr Tryz.prog 88 [V.one (natL (limbs u)), V.one (Leaf.val (.int .i64 k))] (R.one (V.one (natL (limbs (u / 2 ^ k.toNat))))) := by
  refine Ctr.of_body Tryz.func88 rfl Tryz.ntmps88 (Nat.le_of_ble_eq_true rfl) (fun w0 A0 => ?_)
  refine Tc_seq ?_
  refine Tc_region ?_
  refine Tl_q (JO_q rfl rfl (Jq_assign_nil rfl)) rfl ?_
  refine Tl_end ?_
  refine At_then ?_
  refine Tc_seq ?_
  refine Tc_block ?_
  refine Tc_loopR (fun m Γ H => ∃ (c : Nat) (r : Int), r.toNat = m ∧ Γ = [(0, some (D.v (V.one (natL (limbs (u / 2 ^ c)))))), (1, some (D.int r))] ∧ H = [] ∧ r.toNat + c = k.toNat ∧ r ≤ 100000000000000) ⟨0, k, rfl, rfl, rfl, by omega, hk⟩ ⟨by rw [Nat.pow_zero, Nat.div_one]; rfl, rfl, trivial⟩ ?_
  rintro m Γ H ⟨c, r, rfl, rfl, rfl, hrc, hr⟩
  refine Tc_seq ?_
  refine Tc_seq ?_
  refine Tc_region ?_
  refine Tl_q (JO_q rfl rfl (Jq_move rfl rfl)) rfl ?_
  by_cases hr0 : 0 < r
  · skip
    refine Tl_q (JO_q rfl rfl (Jq_gtr rfl rfl rfl (b := true) (dT (by omega)))) rfl ?_
    refine Tl_end ?_
    refine At_then ?_
    refine Tc_t rfl ?_
    refine Tc_skipA ?_
    refine At_then ?_
    refine Tc_block ?_
    refine Tc_seq ?_
    obtain ⟨p, hp⟩ : ∃ p : Nat, (p : Int) = min r 1048576 := ⟨(min r 1048576).toNat, by omega⟩
    have hm2 := limbs_length_mono (Nat.div_le_self u (2 ^ c))
    refine Tc_region ?_
    refine Tl_q (JO_q rfl rfl (Jq_move rfl rfl)) rfl ?_
    refine Tl_q (JO_q rfl rfl (Jq_min rfl rfl rfl (r := ((p : Nat) : Int)) (by split <;> omega))) rfl ?_
    refine Tl_q (JO_q rfl rfl (Jq_assign rfl rfl)) rfl ?_
    refine Tl_end ?_
    refine At_then ?_
    refine Tc_seq ?_
    refine Tc_region ?_
    refine Tl_q (JO_q rfl rfl (Jq_move rfl rfl)) rfl ?_
    refine Tl_q (JO_q rfl rfl (Jq_move rfl rfl)) rfl ?_
    refine Tl_e (JO_e rfl rfl (Je_call rfl fn86 rfl (nshr_w (limbs (u / 2 ^ c)) p (small_limbs _) (by omega) (by omega) (u / 2 ^ c) (val_limbs _)))) rfl rfl ?_
    refine Tl_q (JO_q rfl rfl (Jq_move rfl rfl)) rfl ?_
    refine Tl_q (JO_q rfl rfl (Jq_extract rfl rfl rfl)) rfl ?_
    refine Tl_q (JO_q rfl rfl (Jq_extract rfl rfl rfl)) rfl ?_
    refine Tl_q (JO_q rfl rfl (Jq_assign rfl rfl)) rfl ?_
    refine Tl_end ?_
    refine At_then ?_
    refine Tc_region ?_
    refine Tl_q (JO_q rfl rfl (Jq_move rfl rfl)) rfl ?_
    refine Tl_q (JO_q rfl rfl (Jq_move rfl rfl)) rfl ?_
    refine Tl_q (JO_q rfl rfl (Jq_sub rfl rfl rfl (r := r - p) (w64 (by omega) (by omega) (by omega)))) rfl ?_
    refine Tl_q (JO_q rfl rfl (Jq_assign rfl rfl)) rfl ?_
    refine Tl_end ?_
    refine At_block ?_
    exact At_next (m' := (r - p).toNat) (by omega) ⟨c + p, r - p, rfl, rfl, rfl, by omega, by omega⟩ ⟨by rw [Nat.pow_add, ← Nat.div_div_eq_div_mul]; rfl, rfl, trivial⟩
  · skip
    refine Tl_q (JO_q rfl rfl (Jq_gtr rfl rfl rfl (b := false) (dF (by omega)))) rfl ?_
    refine Tl_end ?_
    refine At_then ?_
    refine Tc_f rfl ?_
    refine Tc_exitA ?_
    refine At_then_exit ?_
    refine At_then_exit ?_
    refine At_block_exit ?_
    refine At_then ?_
    refine Tc_seq ?_
    refine Tc_region ?_
    refine Tl_q (JO_q rfl rfl (Jq_move rfl rfl)) rfl ?_
    refine Tl_q (JO_q rfl rfl (Jq_assign rfl rfl)) rfl ?_
    refine Tl_end ?_
    refine At_then ?_
    exact Tc_ret1 (fun _ _ h => h) rfl rfl (by rw [show c = k.toNat from by omega])

set_option maxRecDepth 10000 in
theorem rShl_spec (l : List Nat) (k : Nat) (hs : Small l) (hk : k ≤ 1048576) (hl : l.length ≤ 9000000000000) (m : Nat) (hm : val l = m) : Ctr Tryz.prog 40 [V.one (natL l), V.one (Leaf.val (.int .i64 ((k : Nat) : Int)))] (R.tup [V.one (natL (limbs (m * 2 ^ k))), V.one (Leaf.val (.int .i64 0))]) := by
  refine Ctr.of_body Tryz.func40 rfl Tryz.ntmps40 (Nat.le_of_ble_eq_true rfl) (fun w0 A0 => ?_)
  refine Tc_seq ?_
  refine Tc_region ?_
  refine Tl_q (JO_q rfl rfl (Jq_assign_nil rfl)) rfl ?_
  refine Tl_q (JO_q rfl rfl (Jq_assign rfl rfl)) rfl ?_
  refine Tl_end ?_
  refine At_then ?_
  refine Tc_seq ?_
  refine Tc_seq ?_
  refine Tc_region ?_
  refine Tl_q (JO_q rfl rfl (Jq_move rfl rfl)) rfl ?_
  refine Tl_q (JO_q rfl rfl (Jq_lss rfl rfl rfl (b := false) (dF (by omega)))) rfl ?_
  refine Tl_q (JO_q rfl rfl (Jq_move rfl rfl)) rfl ?_
  refine Tl_q (JO_qg rfl rfl rfl rfl (Jq_move rfl rfl)) rfl ?_
  refine Tl_q (JO_qg rfl rfl rfl rfl (Jq_gtr rfl rfl rfl (b := false) (dF (by omega)))) rfl ?_
  refine Tl_q (JO_q rfl rfl (Jq_pick_f rfl rfl rfl)) rfl ?_
  refine Tl_end ?_
  refine At_then ?_
  refine Tc_f rfl ?_
  refine Tc_skipA ?_
  refine At_then ?_
  refine Tc_seq ?_
  refine Tc_region ?_
  refine Tl_q (JO_q rfl rfl (Jq_move rfl rfl)) rfl ?_
  refine Tl_q (JO_q rfl rfl (Jq_move rfl rfl)) rfl ?_
  refine Tl_e (JO_e rfl rfl (Je_call rfl fn66 rfl (rshl_w l k hs (by omega) hl m hm))) rfl rfl ?_
  refine Tl_q (JO_q rfl rfl (Jq_assign rfl rfl)) rfl ?_
  refine Tl_q (JO_q rfl rfl (Jq_assign rfl rfl)) rfl ?_
  refine Tl_end ?_
  refine At_then ?_
  exact Tc_ret2 (fun _ _ h => h) rfl rfl rfl rfl

set_option maxRecDepth 10000 in
theorem rshr_spec (a : List Nat) (k : Nat) (hsa : Small a) (hk : k ≤ 1048576) (hla : a.length ≤ 9000000000000) : Ctr Tryz.prog 104 [V.one (natL a), V.one (Leaf.val (.int .i64 ((k : Nat) : Int)))] (R.one (V.one (natL (limbs (val a / 2 ^ k))))) := by
  refine Ctr.of_body Tryz.func104 rfl Tryz.ntmps104 (Nat.le_of_ble_eq_true rfl) (fun w0 A0 => ?_)
  refine Tc_seq ?_
  refine Tc_region ?_
  refine Tl_q (JO_q rfl rfl (Jq_assign_nil rfl)) rfl ?_
  refine Tl_end ?_
  refine At_then ?_
  refine Tc_seq ?_
  refine Tc_region ?_
  refine Tl_nil_own (u := 62) (sz := 1) rfl rfl rfl rfl rfl ?_
  refine Tl_end ?_
  refine At_then ?_
  refine Tc_seq ?_
  refine Tc_seq ?_
  refine Tc_region ?_
  refine Tl_q (JO_q rfl rfl (Jq_move rfl rfl)) rfl ?_
  refine Tl_q (JO_q rfl rfl (Jq_quo rfl rfl rfl (by decide) (r := ((k / 32 : Nat) : Int)) (w64 (tdivN k 32) (by omega) (by omega)))) rfl ?_
  refine Tl_q (JO_q rfl rfl (Jq_assign rfl rfl)) rfl ?_
  refine Tl_end ?_
  refine At_then ?_
  refine Tc_block ?_
  refine Tc_loopR (fun m Γ H => ∃ (i : Nat) (out : List Nat), a.length - i = m ∧ Γ = [(0, some (D.v (V.one (natL a)))), (1, some (D.int ((k : Nat) : Int))), (5, some (D.own 0 out.length)), (6, some (D.int ((i : Nat) : Int)))] ∧ H = [some ⟨62, out.map u32L, some 1, none⟩] ∧ k / 32 + out.length = i ∧ (i ≤ a.length ∨ out = []) ∧ Small out ∧ val out = val (a.drop (k / 32)) / 2 ^ (k % 32) % 4294967296 ^ out.length) ⟨k / 32, [], rfl, rfl, rfl, rfl, .inr rfl, Small.nil, by simp [Nat.mod_one]⟩ ⟨rfl, rfl, rfl, rfl, trivial⟩ ?_
  rintro m Γ H ⟨i, out, rfl, rfl, rfl, hol, hil, hos, heq⟩
  refine Tc_seq ?_
  refine Tc_seq ?_
  refine Tc_region ?_
  refine Tl_q (JO_q rfl rfl (Jq_move rfl rfl)) rfl ?_
  refine Tl_q (JO_q rfl rfl (Jq_move rfl rfl)) rfl ?_
  refine Tl_q (JO_q rfl rfl (Jq_len rfl rfl un23)) rfl ?_
  by_cases hi : i < a.length
  · skip
    refine Tl_q (JO_q rfl rfl (Jq_lss rfl rfl rfl (b := true) (dT (by omega)))) rfl ?_
    refine Tl_end ?_
    refine At_then ?_
    refine Tc_t rfl ?_
    refine Tc_skipA ?_
    refine At_then ?_
    refine Tc_seq ?_
    refine Tc_block ?_
    refine Tc_seq ?_
    have hai := hsa.get i hi; have haj := hsa.getD (i + 1)
    refine Tc_drawK 0 [none, none, none, none, none, none, none, none, none, none, none, none, none] [] follows (by kernel_rfl) ?_
    refine DK_q (JO_q rfl rfl (Jq_move rfl rfl)) ?_
    refine DK_q (JO_q rfl rfl (Jq_move rfl rfl)) ?_
    refine DK_q (JO_q rfl rfl (Jq_index1 rfl rfl rfl un23 ty62 (by omega) (by omega) (get_u32 (by omega)))) ?_
    refine DK_q (JO_q rfl rfl (Jq_load_ref rfl rfl ty62)) ?_
    refine DK_q (JO_q rfl rfl (Jq_convert rfl rfl un59 us62 (r := ((a[i]'hi : Nat) : Int)) (wu64 (by omega)))) ?_
    refine DK_q (JO_q rfl rfl (Jq_move rfl rfl)) ?_
    refine DK_q (JO_q rfl rfl (Jq_move rfl rfl)) ?_
    refine DK_q (JO_q rfl rfl (Jq_add rfl rfl rfl (r := ((i + 1 : Nat) : Int)) (w64 (by omega) (by omega) (by omega)))) ?_
    refine DK_c rfl rfl (Jd_call rfl fn90 rfl (limb_spec a (i + 1))) ?_
    refine DK_q (JO_q rfl rfl (Jq_convert rfl rfl un59 us62 (r := ((a.getD (i + 1) 0 : Nat) : Int)) (wu64 (by omega)))) ?_
    refine DK_q (JO_q rfl rfl (Jq_shl rfl rfl rfl (by decide) (r := ((a.getD (i + 1) 0 * 2 ^ 32 : Nat) : Int)) (shl64 _ 32 rfl (by omega)))) ?_
    refine DK_q (JO_q rfl rfl (Jq_or rfl rfl rfl (r := ((a[i]'hi + a.getD (i + 1) 0 * 2 ^ 32 : Nat) : Int)) (or64' 32 (Nat.mul_mod_left _ _) (by omega) (by omega)))) ?_
    refine DK_q (JO_q rfl rfl (Jq_assign rfl rfl)) ?_
    refine DK_nil ?_
    refine At_then ?_
    refine Tc_region ?_
    refine Tl_q (JO_q rfl rfl (Jq_move rfl rfl)) rfl ?_
    refine Tl_q (JO_q rfl rfl (Jq_move rfl rfl)) rfl ?_
    refine Tl_q (JO_q rfl rfl (Jq_move rfl rfl)) rfl ?_
    refine Tl_q (JO_q rfl rfl (Jq_rem rfl rfl rfl (by decide) (r := ((k % 32 : Nat) : Int)) (tmodN k 32))) rfl ?_
    refine Tl_q (JO_q rfl rfl (Jq_shr rfl rfl rfl (by omega) (r := (((a[i]'hi + a.getD (i + 1) 0 * 2 ^ 32) / 2 ^ (k % 32) : Nat) : Int)) (shr_nat _ (k % 32) (minbits64 (by omega))))) rfl ?_
    refine Tl_q (JO_q rfl rfl (Jq_convert rfl rfl un62 us59 (r := ((((a[i]'hi + a.getD (i + 1) 0 * 2 ^ 32) / 2 ^ (k % 32)) % 4294967296 : Nat) : Int)) (wu32 (by omega)))) rfl ?_
    refine Tl_e (JO_e rfl rfl (Je_buildSlice rfl un22 ty62 tz62 rfl (by decide) (by decide) rfl (by decide) rfl)) rfl rfl ?_
    obtain ⟨ti3, hi3, hz3, hs3, hb3⟩ := in62
    refine Tl_append rfl rfl rfl rfl rfl rfl rfl rfl rfl (by simp) rfl (by decide) un22 un22 hi3 hz3 hs3 rfl (by simp only [maxLen]; omega) (by rw [hb3]; omega) (nm := (out ++ [((a[i]'hi + a.getD (i + 1) 0 * 2 ^ 32) / 2 ^ (k % 32)) % 4294967296]).length) (by simp) (ls := ((out ++ [((a[i]'hi + a.getD (i + 1) 0 * 2 ^ 32) / 2 ^ (k % 32)) % 4294967296]).map u32L)) (by rw [List.map_append]; rfl) ?_
    refine Tl_q (JO_q rfl rfl (Jq_assign rfl rfl)) rfl ?_
    refine Tl_end ?_
    refine At_block ?_
    refine At_then ?_
    refine Tc_region ?_
    refine Tl_q (JO_q rfl rfl (Jq_move rfl rfl)) rfl ?_
    refine Tl_q (JO_q rfl rfl (Jq_add rfl rfl rfl (r := ((i + 1 : Nat) : Int)) (w64 (by omega) (by omega) (by omega)))) rfl ?_
    refine Tl_q (JO_q rfl rfl (Jq_assign rfl rfl)) rfl ?_
    refine Tl_end ?_
    exact At_next (m' := a.length - (i + 1)) (by omega) ⟨i + 1, _, rfl, rfl, rfl, by simp; omega, .inl (by omega), small_app1 hos (Nat.mod_lt _ (by decide)), rshr_app hsa hi hol heq⟩ ⟨rfl, rfl, rfl, rfl, trivial⟩
  · skip
    refine Tl_q (JO_q rfl rfl (Jq_lss rfl rfl rfl (b := false) (dF (by omega)))) rfl ?_
    refine Tl_end ?_
    refine At_then ?_
    refine Tc_f rfl ?_
    refine Tc_exitA ?_
    refine At_then_exit ?_
    refine At_then_exit ?_
    refine At_block_exit ?_
    refine At_then ?_
    refine Tc_seq ?_
    refine Tc_region ?_
    refine Tl_q (JO_q rfl rfl (Jq_move rfl rfl)) rfl ?_
    refine Tl_share_nat 36 (out) rfl rfl rfl rfl rfl ?_
    refine Tl_e (JO_e rfl rfl (Je_call rfl fn91 rfl (rmake_spec out hos (by rcases hil with h | h; omega; rw [h]; simp)))) rfl rfl ?_
    refine Tl_q (JO_q rfl rfl (Jq_assign rfl rfl)) rfl ?_
    refine Tl_end ?_
    refine At_then ?_
    exact Tc_ret1 (fun _ _ h => h) rfl rfl (by rw [rshr_end hsa (by omega) heq])

set_option maxRecDepth 10000 in
theorem rShr_spec (l : List Nat) (k : Nat) (hs : Small l) (hk : k ≤ 1048576) (hl : l.length ≤ 9000000000000) (m : Nat) (hm : val l = m) : Ctr Tryz.prog 95 [V.one (natL l), V.one (Leaf.val (.int .i64 ((k : Nat) : Int)))] (R.tup [V.one (natL (limbs (m / 2 ^ k))), V.one (Leaf.val (.int .i64 0))]) := by
  refine Ctr.of_body Tryz.func95 rfl Tryz.ntmps95 (Nat.le_of_ble_eq_true rfl) (fun w0 A0 => ?_)
  refine Tc_seq ?_
  refine Tc_region ?_
  refine Tl_q (JO_q rfl rfl (Jq_assign_nil rfl)) rfl ?_
  refine Tl_q (JO_q rfl rfl (Jq_assign rfl rfl)) rfl ?_
  refine Tl_end ?_
  refine At_then ?_
  refine Tc_seq ?_
  refine Tc_seq ?_
  refine Tc_region ?_
  refine Tl_q (JO_q rfl rfl (Jq_move rfl rfl)) rfl ?_
  refine Tl_q (JO_q rfl rfl (Jq_lss rfl rfl rfl (b := false) (dF (by omega)))) rfl ?_
  refine Tl_q (JO_q rfl rfl (Jq_move rfl rfl)) rfl ?_
  refine Tl_q (JO_qg rfl rfl rfl rfl (Jq_move rfl rfl)) rfl ?_
  refine Tl_q (JO_qg rfl rfl rfl rfl (Jq_gtr rfl rfl rfl (b := false) (dF (by omega)))) rfl ?_
  refine Tl_q (JO_q rfl rfl (Jq_pick_f rfl rfl rfl)) rfl ?_
  refine Tl_end ?_
  refine At_then ?_
  refine Tc_f rfl ?_
  refine Tc_skipA ?_
  refine At_then ?_
  refine Tc_seq ?_
  refine Tc_region ?_
  refine Tl_q (JO_q rfl rfl (Jq_move rfl rfl)) rfl ?_
  refine Tl_q (JO_q rfl rfl (Jq_move rfl rfl)) rfl ?_
  refine Tl_e (JO_e rfl rfl (Je_call rfl fn104 rfl (rshr_spec l k hs hk hl))) rfl rfl ?_
  refine Tl_q (JO_q rfl rfl (Jq_assign rfl rfl)) rfl ?_
  refine Tl_q (JO_q rfl rfl (Jq_assign rfl rfl)) rfl ?_
  refine Tl_end ?_
  refine At_then ?_
  exact Tc_ret2 (fun _ _ h => h) rfl rfl rfl (by rw [hm])

end Go.Proofs.YtpabkdpijcbkgaaGreatDoor
