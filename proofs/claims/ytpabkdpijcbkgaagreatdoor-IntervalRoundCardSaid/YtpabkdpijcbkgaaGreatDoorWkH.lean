/- Walks: integers and their reference. -/
import Derived.Test.YtpabkdpijcbkgaaGreatDoorWkG
import Derived.Test.YtpabkdpijcbkgaaGreatDoorFacts
import Derived.Test.YtpabkdpijcbkgaaGreatDoorQw
set_option linter.unusedSimpArgs false
set_option linter.unusedVariables false
namespace Go.Proofs.YtpabkdpijcbkgaaGreatDoor
open Go Go.RowKit Rc


theorem make_w (a : List Nat) (hsa : Small a) (hla : a.length ≤ 10000000000000) (m : Nat) (hm : val a = m) : Ctr Tryz.prog 73 [V.one (natL a)] (R.one (V.one (natL (limbs m)))) := by
  subst hm
  exact make_spec a hsa hla

theorem add_w (a : List Nat) (hsa : Small a) (hla : a.length ≤ 10000000000000) (b : List Nat) (hsb : Small b) (hlb : b.length ≤ 10000000000000) (m : Nat) (hm : val a = m) (n : Nat) (hn : val b = n) : Ctr Tryz.prog 56 [V.one (natL a), V.one (natL b)] (R.one (V.one (natL (limbs (m + n))))) := by
  subst hm; subst hn
  exact add_spec a b hsa hsb hla hlb

theorem mul_w (a : List Nat) (hsa : Small a) (hla : a.length ≤ 10000000000000) (b : List Nat) (hsb : Small b) (hlb : b.length ≤ 10000000000000) (m : Nat) (hm : val a = m) (n : Nat) (hn : val b = n) : Ctr Tryz.prog 47 [V.one (natL a), V.one (natL b)] (R.one (V.one (natL (limbs (m * n))))) := by
  subst hm; subst hn
  exact mul_spec a b hsa hsb hla hlb

theorem cmp_w (a : List Nat) (hsa : Small a) (b : List Nat) (hsb : Small b) (m : Nat) (hm : val a = m) (n : Nat) (hn : val b = n) : Ctr Tryz.prog 70 [V.one (natL a), V.one (natL b)] (R.one (V.one (Leaf.val (.int .i64 (cmpN m n))))) := by
  subst hm; subst hn
  exact cmp_spec a b hsa hsb 

theorem bits_w (a : List Nat) (hsa : Small a) (hla : a.length ≤ 10000000000000) (m : Nat) (hm : val a = m) : Ctr Tryz.prog 76 [V.one (natL a)] (R.one (V.one (Leaf.val (.int .i64 ((bl m : Nat) : Int))))) := by
  subst hm
  exact bits_spec a hsa hla

theorem gcd_w (a : List Nat) (hsa : Small a) (hla : a.length ≤ 9000000000000) (b : List Nat) (hsb : Small b) (hlb : b.length ≤ 9000000000000) (m : Nat) (hm : val a = m) (n : Nat) (hn : val b = n) : Ctr Tryz.prog 75 [V.one (natL a), V.one (natL b)] (R.one (V.one (natL (limbs (Nat.gcd m n))))) := by
  subst hm; subst hn
  exact gcd_spec a b hsa hsb hla hlb

theorem divmod_w (a b : List Nat) (hsa : Small a) (hsb : Small b) (hla : a.length ≤ 9000000000000) (hlb : b.length ≤ 9000000000000) (m n : Nat) (hm : val a = m) (hn : val b = n) (h0 : n ≠ 0) : Ctr Tryz.prog 55 [V.one (natL a), V.one (natL b)] (R.tup [V.one (natL (limbs (m / n))), V.one (natL (limbs (m % n))), V.one (Leaf.val (.int .i64 0))]) := by
  subst hm; subst hn; exact divmod_spec a b hsa hsb hla hlb (Nat.pos_of_ne_zero h0)

theorem rmake_w (a : List Nat) (hsa : Small a) (hla : a.length ≤ 10000000000000) (m : Nat) (hm : val a = m) : Ctr Tryz.prog 91 [V.one (natL a)] (R.one (V.one (natL (limbs m)))) := by
  subst hm
  exact rmake_spec a hsa hla

theorem rdivmod_w (a b : List Nat) (hsa : Small a) (hsb : Small b) (hla : a.length ≤ 8000000000000) (hlb : b.length ≤ 8000000000000) (m n : Nat) (hm : val a = m) (hn : val b = n) (h0 : n ≠ 0) : Ctr Tryz.prog 93 [V.one (natL a), V.one (natL b)] (R.tup [V.one (natL (limbs (m / n))), V.one (natL (limbs (m % n))), V.one (Leaf.val (.int .i64 0))]) := by
  subst hm; subst hn; exact rdivmod_spec a b hsa hsb hla hlb h0

set_option maxRecDepth 10000 in
theorem rgcd_spec (la lb : List Nat) (hsa : Small la) (hsb : Small lb) (hla0 : la.length ≤ 8000000000000) (hlb0 : lb.length ≤ 8000000000000) : Ctr Tryz.prog 96 [V.one (natL la), V.one (natL lb)] (R.one (V.one (natL (limbs (Nat.gcd (val la) (val lb)))))) := by
  refine Ctr.of_body Tryz.func96 rfl Tryz.ntmps96 (Nat.le_of_ble_eq_true rfl) (fun w0 A0 => ?_)
  refine Tc_seq ?_
  refine Tc_region ?_
  refine Tl_q (JO_q rfl rfl (Jq_assign_nil rfl)) rfl ?_
  refine Tl_end ?_
  refine At_then ?_
  refine Tc_seq ?_
  have ha0 := limbs_val_length hsa; have hb0 := limbs_val_length hsb
  obtain ⟨g, hg⟩ : ∃ g, Nat.gcd (val la) (val lb) = g := ⟨_, rfl⟩
  rw [hg]
  refine Tc_region ?_
  refine Tl_q (JO_q rfl rfl (Jq_move rfl rfl)) rfl ?_
  refine Tl_e (JO_e rfl rfl (Je_call rfl fn91 rfl (rmake_spec la hsa (by omega)))) rfl rfl ?_
  refine Tl_q (JO_q rfl rfl (Jq_move rfl rfl)) rfl ?_
  refine Tl_e (JO_e rfl rfl (Je_call rfl fn91 rfl (rmake_spec lb hsb (by omega)))) rfl rfl ?_
  refine Tl_q (JO_q rfl rfl (Jq_assign rfl rfl)) rfl ?_
  refine Tl_q (JO_q rfl rfl (Jq_assign rfl rfl)) rfl ?_
  refine Tl_end ?_
  refine At_then ?_
  refine Tc_seq ?_
  refine Tc_block ?_
  refine Tc_loopR (fun m Γ H => ∃ (x : Nat) (y : Nat), y = m ∧ Γ = [(0, some (D.v (V.one (natL (limbs x))))), (1, some (D.v (V.one (natL (limbs y)))))] ∧ H = [] ∧ Nat.gcd x y = g ∧ (limbs x).length ≤ 8000000000000 ∧ (limbs y).length ≤ 8000000000000) ⟨val la, val lb, rfl, rfl, rfl, hg, by omega, by omega⟩ ⟨rfl, rfl, trivial⟩ ?_
  rintro m Γ H ⟨x, y, rfl, rfl, rfl, hxy, hx, hy⟩
  refine Tc_seq ?_
  refine Tc_seq ?_
  refine Tc_region ?_
  refine Tl_q (JO_q rfl rfl (Jq_move rfl rfl)) rfl ?_
  refine Tl_q (JO_q rfl rfl (Jq_len rfl rfl un23)) rfl ?_
  by_cases hl : 0 < (limbs y).length
  · skip
    refine Tl_q (JO_q rfl rfl (Jq_gtr rfl rfl rfl (b := true) (dT (by omega)))) rfl ?_
    refine Tl_end ?_
    refine At_then ?_
    refine Tc_t rfl ?_
    refine Tc_skipA ?_
    refine At_then ?_
    refine Tc_block ?_
    refine Tc_seq ?_
    have hy0 : y ≠ 0 := limbs_len_pos.1 hl
    have hm := Nat.mod_lt x (Nat.pos_of_ne_zero hy0)
    have hml := limbs_length_mono (Nat.le_of_lt hm)
    refine Tc_region ?_
    refine Tl_q (JO_q rfl rfl (Jq_move rfl rfl)) rfl ?_
    refine Tl_q (JO_q rfl rfl (Jq_move rfl rfl)) rfl ?_
    refine Tl_e (JO_e rfl rfl (Je_call rfl fn93 rfl (rdivmod_w (limbs x) (limbs y) (small_limbs _) (small_limbs _) (by omega) (by omega) x y (val_limbs _) (val_limbs _) hy0))) rfl rfl ?_
    refine Tl_q (JO_q rfl rfl (Jq_move rfl rfl)) rfl ?_
    refine Tl_q (JO_q rfl rfl (Jq_extract rfl rfl rfl)) rfl ?_
    refine Tl_q (JO_q rfl rfl (Jq_extract rfl rfl rfl)) rfl ?_
    refine Tl_q (JO_q rfl rfl (Jq_extract rfl rfl rfl)) rfl ?_
    refine Tl_q (JO_q rfl rfl (Jq_assign rfl rfl)) rfl ?_
    refine Tl_q (JO_q rfl rfl (Jq_assign rfl rfl)) rfl ?_
    refine Tl_q (JO_q rfl rfl (Jq_assign rfl rfl)) rfl ?_
    refine Tl_end ?_
    refine At_then ?_
    refine Tc_region ?_
    refine Tl_q (JO_q rfl rfl (Jq_move rfl rfl)) rfl ?_
    refine Tl_q (JO_q rfl rfl (Jq_move rfl rfl)) rfl ?_
    refine Tl_q (JO_q rfl rfl (Jq_assign rfl rfl)) rfl ?_
    refine Tl_q (JO_q rfl rfl (Jq_assign rfl rfl)) rfl ?_
    refine Tl_end ?_
    refine At_block ?_
    exact At_next (m' := x % y) hm ⟨y, x % y, rfl, rfl, rfl, by rw [Nat.gcd_comm, ← hxy, Nat.gcd_comm x y, Nat.gcd_rec y x], hy, by omega⟩ ⟨rfl, rfl, trivial⟩
  · skip
    refine Tl_q (JO_q rfl rfl (Jq_gtr rfl rfl rfl (b := false) (dF (by omega)))) rfl ?_
    refine Tl_end ?_
    refine At_then ?_
    refine Tc_f rfl ?_
    refine Tc_exitA ?_
    refine At_then_exit ?_
    refine At_then_exit ?_
    refine At_block_exit ?_
    refine At_then ?_
    refine Tc_seq ?_
    have hy0 : y = 0 := limbs_eq_nil.1 (List.eq_nil_of_length_eq_zero (by omega))
    subst hy0
    rw [Nat.gcd_zero_right] at hxy
    subst hxy
    refine Tc_region ?_
    refine Tl_q (JO_q rfl rfl (Jq_move rfl rfl)) rfl ?_
    refine Tl_q (JO_q rfl rfl (Jq_assign rfl rfl)) rfl ?_
    refine Tl_end ?_
    refine At_then ?_
    exact Tc_ret1 (fun _ _ h => h) rfl rfl rfl

theorem rgcd_w (a : List Nat) (hsa : Small a) (hla : a.length ≤ 8000000000000) (b : List Nat) (hsb : Small b) (hlb : b.length ≤ 8000000000000) (m : Nat) (hm : val a = m) (n : Nat) (hn : val b = n) : Ctr Tryz.prog 96 [V.one (natL a), V.one (natL b)] (R.one (V.one (natL (limbs (Nat.gcd m n))))) := by
  subst hm; subst hn
  exact rgcd_spec a b hsa hsb hla hlb

set_option maxRecDepth 10000 in
theorem zmake (neg : Bool) (l : List Nat) (hs : Small l) (hl : l.length ≤ 10000000000000) (n : Nat) (hn : val l = n) : Ctr Tryz.prog 89 [V.one (Leaf.val (.bool neg)), V.one (natL l)] (R.one (zV (zOf (sgn neg n)))) := by
  refine Ctr.of_body Tryz.func89 rfl Tryz.ntmps89 (Nat.le_of_ble_eq_true rfl) (fun w0 A0 => ?_)
  refine Tc_seq ?_
  refine Tc_region ?_
  refine Tl_e (JO_e rfl rfl (Je_alloc (n := 0) rfl tz65 rfl)) rfl rfl ?_
  refine Tl_end ?_
  refine At_then ?_
  refine Tc_seq ?_
  refine Tc_region ?_
  refine Tl_q (JO_q rfl rfl (Jq_move rfl rfl)) rfl ?_
  refine Tl_e (JO_e rfl rfl (Je_call rfl fn73 rfl (make_w l hs (Nat.le_trans hl (by omega)) (n) hn))) rfl rfl ?_
  refine Tl_q (JO_q rfl rfl (Jq_assign rfl rfl)) rfl ?_
  refine Tl_end ?_
  refine At_then ?_
  refine Tc_seq ?_
  refine Tc_region ?_
  refine Tl_q (JO_q rfl rfl (Jq_move rfl rfl)) rfl ?_
  refine Tl_q (JO_q rfl rfl (Jq_move rfl rfl)) rfl ?_
  refine Tl_two (fun hb9 => ?_) (fun hb9 => ?_)
  · skip
    refine Tl_q (JO_skip rfl rfl rfl) rfl ?_
    refine Tl_q (JO_skip rfl rfl rfl) rfl ?_
    refine Tl_q (JO_skip rfl rfl rfl) rfl ?_
    refine Tl_q (JO_q rfl rfl (Jq_pick_f rfl rfl rfl)) rfl ?_
    refine Tl_q (JO_q rfl rfl (Jq_move rfl rfl)) rfl ?_
    refine Tl_q (JO_q rfl rfl (Jq_build rfl tz65 rfl pl65 rfl)) rfl ?_
    refine Tl_e (JO_e rfl rfl (Je_store rfl rfl rfl rfl ty65 rfl (by decide) (Nat.le_of_ble_eq_true rfl) rfl)) rfl rfl ?_
    refine Tl_end ?_
    refine At_then ?_
    exact Tc_ret1 (fun _ _ h => h) rfl (⟨_, _, rfl, rfl, .inl ⟨ty65, Nat.le_of_ble_eq_true rfl, rfl⟩⟩) (by rw [hb9]; exact congrArg R.one (zret_f _))
  · skip
    refine Tl_q (JO_qg rfl rfl rfl rfl (Jq_move rfl rfl)) rfl ?_
    refine Tl_q (JO_qg rfl rfl rfl rfl (Jq_len rfl rfl un23)) rfl ?_
    refine Tl_q (JO_qg rfl rfl rfl rfl (Jq_gtr rfl rfl rfl (b := _) (rfl))) rfl ?_
    refine Tl_q (JO_q rfl rfl (Jq_pick_t rfl rfl rfl)) rfl ?_
    refine Tl_q (JO_q rfl rfl (Jq_move rfl rfl)) rfl ?_
    refine Tl_q (JO_q rfl rfl (Jq_build rfl tz65 rfl pl65 rfl)) rfl ?_
    refine Tl_e (JO_e rfl rfl (Je_store rfl rfl rfl rfl ty65 rfl (by decide) (Nat.le_of_ble_eq_true rfl) rfl)) rfl rfl ?_
    refine Tl_end ?_
    refine At_then ?_
    exact Tc_ret1 (fun _ _ h => h) rfl (⟨_, _, rfl, rfl, .inl ⟨ty65, Nat.le_of_ble_eq_true rfl, rfl⟩⟩) (by rw [hb9]; exact congrArg R.one (zret_t _))

set_option maxRecDepth 10000 in
theorem rzmake (neg : Bool) (l : List Nat) (hs : Small l) (hl : l.length ≤ 10000000000000) (n : Nat) (hn : val l = n) : Ctr Tryz.prog 71 [V.one (Leaf.val (.bool neg)), V.one (natL l)] (R.one (zV (zOf (sgn neg n)))) := by
  refine Ctr.of_body Tryz.func71 rfl Tryz.ntmps71 (Nat.le_of_ble_eq_true rfl) (fun w0 A0 => ?_)
  refine Tc_seq ?_
  refine Tc_region ?_
  refine Tl_e (JO_e rfl rfl (Je_alloc (n := 0) rfl tz65 rfl)) rfl rfl ?_
  refine Tl_end ?_
  refine At_then ?_
  refine Tc_seq ?_
  refine Tc_region ?_
  refine Tl_q (JO_q rfl rfl (Jq_move rfl rfl)) rfl ?_
  refine Tl_e (JO_e rfl rfl (Je_call rfl fn91 rfl (rmake_w l hs (Nat.le_trans hl (by omega)) (n) hn))) rfl rfl ?_
  refine Tl_q (JO_q rfl rfl (Jq_assign rfl rfl)) rfl ?_
  refine Tl_end ?_
  refine At_then ?_
  refine Tc_seq ?_
  refine Tc_region ?_
  refine Tl_q (JO_q rfl rfl (Jq_move rfl rfl)) rfl ?_
  refine Tl_q (JO_q rfl rfl (Jq_move rfl rfl)) rfl ?_
  refine Tl_two (fun hb9 => ?_) (fun hb9 => ?_)
  · skip
    refine Tl_q (JO_skip rfl rfl rfl) rfl ?_
    refine Tl_q (JO_skip rfl rfl rfl) rfl ?_
    refine Tl_q (JO_skip rfl rfl rfl) rfl ?_
    refine Tl_q (JO_q rfl rfl (Jq_pick_f rfl rfl rfl)) rfl ?_
    refine Tl_q (JO_q rfl rfl (Jq_move rfl rfl)) rfl ?_
    refine Tl_q (JO_q rfl rfl (Jq_build rfl tz65 rfl pl65 rfl)) rfl ?_
    refine Tl_e (JO_e rfl rfl (Je_store rfl rfl rfl rfl ty65 rfl (by decide) (Nat.le_of_ble_eq_true rfl) rfl)) rfl rfl ?_
    refine Tl_end ?_
    refine At_then ?_
    exact Tc_ret1 (fun _ _ h => h) rfl (⟨_, _, rfl, rfl, .inl ⟨ty65, Nat.le_of_ble_eq_true rfl, rfl⟩⟩) (by rw [hb9]; exact congrArg R.one (zret_f _))
  · skip
    refine Tl_q (JO_qg rfl rfl rfl rfl (Jq_move rfl rfl)) rfl ?_
    refine Tl_q (JO_qg rfl rfl rfl rfl (Jq_len rfl rfl un23)) rfl ?_
    refine Tl_q (JO_qg rfl rfl rfl rfl (Jq_gtr rfl rfl rfl (b := _) (rfl))) rfl ?_
    refine Tl_q (JO_q rfl rfl (Jq_pick_t rfl rfl rfl)) rfl ?_
    refine Tl_q (JO_q rfl rfl (Jq_move rfl rfl)) rfl ?_
    refine Tl_q (JO_q rfl rfl (Jq_build rfl tz65 rfl pl65 rfl)) rfl ?_
    refine Tl_e (JO_e rfl rfl (Je_store rfl rfl rfl rfl ty65 rfl (by decide) (Nat.le_of_ble_eq_true rfl) rfl)) rfl rfl ?_
    refine Tl_end ?_
    refine At_then ?_
    exact Tc_ret1 (fun _ _ h => h) rfl (⟨_, _, rfl, rfl, .inl ⟨ty65, Nat.le_of_ble_eq_true rfl, rfl⟩⟩) (by rw [hb9]; exact congrArg R.one (zret_t _))

set_option maxRecDepth 10000 in
theorem zsign (x : Zr) (z : Int) (hz : x.z = z) (hfx : x.m.length ≤ 10000000000000) : Ctr Tryz.prog 53 [zV x] (R.one (V.one (Leaf.val (.int .i64 (sgz z))))) := by
  refine Ctr.of_body Tryz.func53 rfl Tryz.ntmps53 (Nat.le_of_ble_eq_true rfl) (fun w0 A0 => ?_)
  haveI ix : Bn (val x.m) 10000000000000 := Bn.val x.hm hfx
  refine Tc_seq ?_
  refine Tc_region ?_
  refine Tl_e (JO_e rfl rfl (Je_box (n := 0) rfl rfl rfl)) rfl rfl ?_
  refine Tl_q (JO_q rfl rfl (Jq_assign rfl rfl)) rfl ?_
  refine Tl_end ?_
  refine At_then ?_
  refine Tc_seq ?_
  refine Tc_block ?_
  refine Tc_seq ?_
  refine Tc_region ?_
  refine Tl_q (JO_q rfl rfl (Jq_fieldAddr rfl rfl fo65_1 rfl)) rfl ?_
  refine Tl_q (JO_q rfl rfl (Jq_load rfl rfl rfl (by decide) ty23 rfl)) rfl ?_
  refine Tl_e (JO_e rfl rfl (Je_call rfl fn76 rfl (bits_w x.m x.hm (Nat.le_trans hfx (by omega)) (val x.m) rfl))) rfl rfl ?_
  by_cases h0 : bl (val x.m) = 0
  · skip
    refine Tl_q (JO_q rfl rfl (Jq_eql rfl rfl rfl (b := true) (eT (by omega)))) rfl ?_
    refine Tl_q (JO_q rfl rfl (Jq_assign rfl rfl)) rfl ?_
    refine Tl_end ?_
    refine At_then ?_
    refine Tc_t rfl ?_
    refine Tc_seq ?_
    refine Tc_region ?_
    refine Tl_q (JO_q rfl rfl (Jq_assign rfl rfl)) rfl ?_
    refine Tl_end ?_
    refine At_then ?_
    exact Tc_ret1 (fun _ _ h => h) rfl rfl (by rw [← hz, sgz_zero h0])
  · skip
    refine Tl_q (JO_q rfl rfl (Jq_eql rfl rfl rfl (b := false) (eF (by omega)))) rfl ?_
    refine Tl_q (JO_q rfl rfl (Jq_assign rfl rfl)) rfl ?_
    refine Tl_end ?_
    refine At_then ?_
    refine Tc_f rfl ?_
    refine Tc_seq ?_
    refine Tc_region ?_
    refine Tl_q (JO_q rfl rfl (Jq_fieldAddr rfl rfl fo65_0 rfl)) rfl ?_
    refine Tl_q (JO_q rfl rfl (Jq_load rfl rfl rfl (by decide) ty4 rfl)) rfl ?_
    refine Tl_q (JO_q rfl rfl (Jq_assign rfl rfl)) rfl ?_
    refine Tl_end ?_
    refine At_then ?_
    refine Tc_cond rfl (fun hc8 => ?_) (fun hc8 => ?_)
    · skip
      refine Tc_seq ?_
      refine Tc_region ?_
      refine Tl_q (JO_q rfl rfl (Jq_assign rfl rfl)) rfl ?_
      refine Tl_end ?_
      refine At_then ?_
      exact Tc_ret1 (fun _ _ h => h) rfl rfl (by rw [← hz, sgz_neg (fun e => h0 (by rw [e]; rfl)) hc8])
    · skip
      refine Tc_skipA ?_
      refine At_block ?_
      refine At_then ?_
      refine Tc_seq ?_
      refine Tc_region ?_
      refine Tl_q (JO_q rfl rfl (Jq_assign rfl rfl)) rfl ?_
      refine Tl_end ?_
      refine At_then ?_
      exact Tc_ret1 (fun _ _ h => h) rfl rfl (by rw [← hz, sgz_pos (fun e => h0 (by rw [e]; rfl)) hc8])

set_option maxRecDepth 10000 in
theorem rzsign (x : Zr) (z : Int) (hz : x.z = z) (hfx : x.m.length ≤ 10000000000000) : Ctr Tryz.prog 78 [zV x] (R.one (V.one (Leaf.val (.int .i64 (sgz z))))) := by
  refine Ctr.of_body Tryz.func78 rfl Tryz.ntmps78 (Nat.le_of_ble_eq_true rfl) (fun w0 A0 => ?_)
  haveI ix : Bn (val x.m) 10000000000000 := Bn.val x.hm hfx
  refine Tc_seq ?_
  refine Tc_region ?_
  refine Tl_e (JO_e rfl rfl (Je_box (n := 0) rfl rfl rfl)) rfl rfl ?_
  refine Tl_q (JO_q rfl rfl (Jq_assign rfl rfl)) rfl ?_
  refine Tl_end ?_
  refine At_then ?_
  refine Tc_seq ?_
  refine Tc_region ?_
  refine Tl_q (JO_q rfl rfl (Jq_fieldAddr rfl rfl fo65_0 rfl)) rfl ?_
  refine Tl_q (JO_q rfl rfl (Jq_load rfl rfl rfl (by decide) ty4 rfl)) rfl ?_
  refine Tl_q (JO_q rfl rfl (Jq_fieldAddr rfl rfl fo65_1 rfl)) rfl ?_
  refine Tl_q (JO_q rfl rfl (Jq_load rfl rfl rfl (by decide) ty23 rfl)) rfl ?_
  refine Tl_e (JO_e rfl rfl (Je_call rfl fn71 rfl (rzmake x.neg x.m x.hm (Nat.le_trans hfx (by omega)) (val x.m) rfl))) rfl rfl ?_
  refine Tl_e (JO_e rfl rfl (Je_store rfl rfl rfl rfl ty65 rfl (by decide) (Nat.le_of_ble_eq_true rfl) rfl)) rfl rfl ?_
  refine Tl_end ?_
  refine At_then ?_
  refine Tc_seq ?_
  refine Tc_block ?_
  refine Tc_seq ?_
  refine Tc_region ?_
  refine Tl_q (JO_q rfl rfl (Jq_fieldAddr rfl rfl fo65_1 rfl)) rfl ?_
  refine Tl_q (JO_q rfl rfl (Jq_load rfl rfl rfl (by decide) ty23 rfl)) rfl ?_
  refine Tl_q (JO_q rfl rfl (Jq_len rfl rfl un23)) rfl ?_
  by_cases h0 : (limbs (Int.natAbs (sgn x.neg (val x.m)))).length = 0
  · skip
    refine Tl_q (JO_q rfl rfl (Jq_eql rfl rfl rfl (b := true) (eT (by show (((limbs (Int.natAbs (sgn x.neg (val x.m)))).length : Nat) : Int) = 0; omega)))) rfl ?_
    refine Tl_q (JO_q rfl rfl (Jq_assign rfl rfl)) rfl ?_
    refine Tl_end ?_
    refine At_then ?_
    refine Tc_t rfl ?_
    refine Tc_seq ?_
    refine Tc_region ?_
    refine Tl_q (JO_q rfl rfl (Jq_assign rfl rfl)) rfl ?_
    refine Tl_end ?_
    refine At_then ?_
    exact Tc_ret1 (fun _ _ h => h) rfl rfl (by rw [← hz, sgz_zero' (by have := limbs_eq_nil.1 (List.eq_nil_of_length_eq_zero h0); rwa [natAbs_sgn] at this)])
  · skip
    refine Tl_q (JO_q rfl rfl (Jq_eql rfl rfl rfl (b := false) (eF (by show (((limbs (Int.natAbs (sgn x.neg (val x.m)))).length : Nat) : Int) ≠ 0; omega)))) rfl ?_
    refine Tl_q (JO_q rfl rfl (Jq_assign rfl rfl)) rfl ?_
    refine Tl_end ?_
    refine At_then ?_
    refine Tc_f rfl ?_
    refine Tc_seq ?_
    refine Tc_region ?_
    refine Tl_q (JO_q rfl rfl (Jq_fieldAddr rfl rfl fo65_0 rfl)) rfl ?_
    refine Tl_q (JO_q rfl rfl (Jq_load rfl rfl rfl (by decide) ty4 rfl)) rfl ?_
    refine Tl_q (JO_q rfl rfl (Jq_assign rfl rfl)) rfl ?_
    refine Tl_end ?_
    refine At_then ?_
    refine Tc_cond rfl (fun hc13 => ?_) (fun hc13 => ?_)
    · skip
      refine Tc_seq ?_
      refine Tc_region ?_
      refine Tl_q (JO_q rfl rfl (Jq_assign rfl rfl)) rfl ?_
      refine Tl_end ?_
      refine At_then ?_
      exact Tc_ret1 (fun _ _ h => h) rfl rfl (by rw [← hz]; have h1 : x.z < 0 := of_decide_eq_true hc13; unfold sgz; rw [if_pos h1])
    · skip
      refine Tc_skipA ?_
      refine At_block ?_
      refine At_then ?_
      refine Tc_seq ?_
      refine Tc_region ?_
      refine Tl_q (JO_q rfl rfl (Jq_assign rfl rfl)) rfl ?_
      refine Tl_end ?_
      refine At_then ?_
      exact Tc_ret1 (fun _ _ h => h) rfl rfl (by rw [← hz]; have h1 : ¬ x.z < 0 := of_decide_eq_false hc13; unfold sgz; rw [if_neg h1, if_neg (fun e => by have h2 : (sgn x.neg (val x.m)) = 0 := e; rw [h2] at h0; exact h0 (by rw [Int.natAbs_zero, limbs_zero]; rfl))])

set_option maxRecDepth 10000 in
theorem zmul (x : Zr) (z : Int) (hz : x.z = z) (hfx : x.m.length ≤ 4000000000000) (y : Zr) (w : Int) (hw : y.z = w) (hfy : y.m.length ≤ 4000000000000) : Ctr Tryz.prog 69 [zV x, zV y] (R.one (zV (zOf (z * w)))) := by
  refine Ctr.of_body Tryz.func69 rfl Tryz.ntmps69 (Nat.le_of_ble_eq_true rfl) (fun w0 A0 => ?_)
  haveI ix : Bn (val x.m) 4000000000000 := Bn.val x.hm hfx
  haveI iy : Bn (val y.m) 4000000000000 := Bn.val y.hm hfy
  refine Tc_seq ?_
  refine Tc_region ?_
  refine Tl_e (JO_e rfl rfl (Je_box (n := 0) rfl rfl rfl)) rfl rfl ?_
  refine Tl_e (JO_e rfl rfl (Je_box (n := 1) rfl rfl rfl)) rfl rfl ?_
  refine Tl_e (JO_e rfl rfl (Je_alloc (n := 2) rfl tz65 rfl)) rfl rfl ?_
  refine Tl_end ?_
  refine At_then ?_
  refine Tc_seq ?_
  refine Tc_drawK 0 [none, none, none, none, none, none, none, none, none, none, none, some 2] [2] follows (by kernel_rfl) ?_
  refine DK_q (JO_q rfl rfl (Jq_fieldAddr rfl rfl fo65_0 rfl)) ?_
  refine DK_q (JO_q rfl rfl (Jq_load rfl rfl rfl (by decide) ty4 rfl)) ?_
  refine DK_q (JO_q rfl rfl (Jq_fieldAddr rfl rfl fo65_0 rfl)) ?_
  refine DK_q (JO_q rfl rfl (Jq_load rfl rfl rfl (by decide) ty4 rfl)) ?_
  refine DK_q (JO_q rfl rfl (Jq_neq_bool rfl rfl rfl un4 (d := _) (rfl))) ?_
  refine DK_q (JO_q rfl rfl (Jq_fieldAddr rfl rfl fo65_1 rfl)) ?_
  refine DK_q (JO_q rfl rfl (Jq_load rfl rfl rfl (by decide) ty23 rfl)) ?_
  refine DK_q (JO_q rfl rfl (Jq_fieldAddr rfl rfl fo65_1 rfl)) ?_
  refine DK_q (JO_q rfl rfl (Jq_load rfl rfl rfl (by decide) ty23 rfl)) ?_
  refine DK_c rfl rfl (Jd_call rfl fn47 rfl (mul_w x.m x.hm (Nat.le_trans hfx (by omega)) y.m y.hm (Nat.le_trans hfy (by omega)) (val x.m) rfl (val y.m) rfl)) ?_
  refine DK_c rfl rfl (Jd_call rfl fn89 rfl (zmake (x.neg != y.neg) (limbs ((val x.m) * (val y.m))) (small_limbs _) (Bn.use (by omega)) ((val x.m) * (val y.m)) (val_limbs _))) ?_
  refine DK_s 2 rfl rfl rfl (Jd_store rfl rfl rfl rfl ty65 rfl (by decide) (Nat.le_of_ble_eq_true rfl) rfl) ?_
  refine DK_nil ?_
  refine At_then ?_
  exact Tc_ret1 (fun _ _ h => h) rfl (⟨_, _, rfl, rfl, .inl ⟨ty65, Nat.le_of_ble_eq_true rfl, rfl⟩⟩) (by subst hz; subst hw; rw [sgn_mul]; rfl)

set_option maxRecDepth 10000 in
theorem zcmp (x : Zr) (z : Int) (hz : x.z = z) (hfx : x.m.length ≤ 4000000000000) (y : Zr) (w : Int) (hw : y.z = w) (hfy : y.m.length ≤ 4000000000000) : Ctr Tryz.prog 44 [zV x, zV y] (R.one (V.one (Leaf.val (.int .i64 (cmpz z w))))) := by
  refine Ctr.of_body Tryz.func44 rfl Tryz.ntmps44 (Nat.le_of_ble_eq_true rfl) (fun w0 A0 => ?_)
  haveI ix : Bn (val x.m) 4000000000000 := Bn.val x.hm hfx
  haveI iy : Bn (val y.m) 4000000000000 := Bn.val y.hm hfy
  refine Tc_seq ?_
  refine Tc_region ?_
  refine Tl_e (JO_e rfl rfl (Je_box (n := 0) rfl rfl rfl)) rfl rfl ?_
  refine Tl_e (JO_e rfl rfl (Je_box (n := 1) rfl rfl rfl)) rfl rfl ?_
  refine Tl_q (JO_q rfl rfl (Jq_assign rfl rfl)) rfl ?_
  refine Tl_end ?_
  refine At_then ?_
  refine Tc_seq ?_
  refine Tc_drawK 0 [none, none, none, none, none, none] [] follows (by kernel_rfl) ?_
  refine DK_q (JO_q rfl rfl (Jq_load_agg rfl rfl rfl (by decide) ty65 (by decide) (Nat.le_of_ble_eq_true rfl) rfl)) ?_
  refine DK_c rfl rfl (Jd_call rfl fn53 rfl (zsign x (z) hz (Nat.le_trans hfx (by omega)))) ?_
  refine DK_q (JO_q rfl rfl (Jq_load_agg rfl rfl rfl (by decide) ty65 (by decide) (Nat.le_of_ble_eq_true rfl) rfl)) ?_
  refine DK_c rfl rfl (Jd_call rfl fn53 rfl (zsign y (w) hw (Nat.le_trans hfy (by omega)))) ?_
  refine DK_q (JO_q rfl rfl (Jq_assign rfl rfl)) ?_
  refine DK_q (JO_q rfl rfl (Jq_assign rfl rfl)) ?_
  refine DK_nil ?_
  refine At_then ?_
  refine Tc_seq ?_
  refine Tc_block ?_
  refine Tc_seq ?_
  refine Tc_region ?_
  refine Tl_q (JO_q rfl rfl (Jq_move rfl rfl)) rfl ?_
  refine Tl_q (JO_q rfl rfl (Jq_move rfl rfl)) rfl ?_
  by_cases h1 : sgz z < sgz w
  · skip
    refine Tl_q (JO_q rfl rfl (Jq_lss rfl rfl rfl (b := true) (dT (by omega)))) rfl ?_
    refine Tl_q (JO_q rfl rfl (Jq_assign rfl rfl)) rfl ?_
    refine Tl_end ?_
    refine At_then ?_
    refine Tc_t rfl ?_
    refine Tc_seq ?_
    refine Tc_region ?_
    refine Tl_q (JO_q rfl rfl (Jq_assign rfl rfl)) rfl ?_
    refine Tl_end ?_
    refine At_then ?_
    exact Tc_ret1 (fun _ _ h => h) rfl rfl (by rw [cmpz_sg_lt h1])
  · skip
    refine Tl_q (JO_q rfl rfl (Jq_lss rfl rfl rfl (b := false) (dF (by omega)))) rfl ?_
    refine Tl_q (JO_q rfl rfl (Jq_assign rfl rfl)) rfl ?_
    refine Tl_end ?_
    refine At_then ?_
    refine Tc_f rfl ?_
    refine Tc_seq ?_
    refine Tc_region ?_
    refine Tl_q (JO_q rfl rfl (Jq_move rfl rfl)) rfl ?_
    refine Tl_q (JO_q rfl rfl (Jq_move rfl rfl)) rfl ?_
    by_cases h2 : sgz w < sgz z
    · skip
      refine Tl_q (JO_q rfl rfl (Jq_gtr rfl rfl rfl (b := true) (dT (by omega)))) rfl ?_
      refine Tl_q (JO_q rfl rfl (Jq_assign rfl rfl)) rfl ?_
      refine Tl_end ?_
      refine At_then ?_
      refine Tc_t rfl ?_
      refine Tc_seq ?_
      refine Tc_region ?_
      refine Tl_q (JO_q rfl rfl (Jq_assign rfl rfl)) rfl ?_
      refine Tl_end ?_
      refine At_then ?_
      exact Tc_ret1 (fun _ _ h => h) rfl rfl (by rw [cmpz_sg_gt h2])
    · skip
      refine Tl_q (JO_q rfl rfl (Jq_gtr rfl rfl rfl (b := false) (dF (by omega)))) rfl ?_
      refine Tl_q (JO_q rfl rfl (Jq_assign rfl rfl)) rfl ?_
      refine Tl_end ?_
      refine At_then ?_
      refine Tc_f rfl ?_
      refine Tc_seq ?_
      subst hz; subst hw
      refine Tc_region ?_
      refine Tl_q (JO_q rfl rfl (Jq_move rfl rfl)) rfl ?_
      by_cases h3 : sgz x.z < 0
      · skip
        refine Tl_q (JO_q rfl rfl (Jq_lss rfl rfl rfl (b := true) (dT (by omega)))) rfl ?_
        refine Tl_q (JO_q rfl rfl (Jq_assign rfl rfl)) rfl ?_
        refine Tl_end ?_
        refine At_then ?_
        refine Tc_t rfl ?_
        refine Tc_seq ?_
        refine Tc_region ?_
        refine Tl_q (JO_q rfl rfl (Jq_fieldAddr rfl rfl fo65_1 rfl)) rfl ?_
        refine Tl_q (JO_q rfl rfl (Jq_load rfl rfl rfl (by decide) ty23 rfl)) rfl ?_
        refine Tl_q (JO_q rfl rfl (Jq_fieldAddr rfl rfl fo65_1 rfl)) rfl ?_
        refine Tl_q (JO_q rfl rfl (Jq_load rfl rfl rfl (by decide) ty23 rfl)) rfl ?_
        refine Tl_e (JO_e rfl rfl (Je_call rfl fn70 rfl (cmp_w y.m y.hm x.m x.hm (val y.m) rfl (val x.m) rfl))) rfl rfl ?_
        refine Tl_q (JO_q rfl rfl (Jq_assign rfl rfl)) rfl ?_
        refine Tl_end ?_
        refine At_then ?_
        exact Tc_ret1 (fun _ _ h => h) rfl rfl (by rw [cmpz_neg (by omega) h3])
      · skip
        refine Tl_q (JO_q rfl rfl (Jq_lss rfl rfl rfl (b := false) (dF (by omega)))) rfl ?_
        refine Tl_q (JO_q rfl rfl (Jq_assign rfl rfl)) rfl ?_
        refine Tl_end ?_
        refine At_then ?_
        refine Tc_f rfl ?_
        refine Tc_skipA ?_
        refine At_block ?_
        refine At_then ?_
        refine Tc_seq ?_
        refine Tc_region ?_
        refine Tl_q (JO_q rfl rfl (Jq_fieldAddr rfl rfl fo65_1 rfl)) rfl ?_
        refine Tl_q (JO_q rfl rfl (Jq_load rfl rfl rfl (by decide) ty23 rfl)) rfl ?_
        refine Tl_q (JO_q rfl rfl (Jq_fieldAddr rfl rfl fo65_1 rfl)) rfl ?_
        refine Tl_q (JO_q rfl rfl (Jq_load rfl rfl rfl (by decide) ty23 rfl)) rfl ?_
        refine Tl_e (JO_e rfl rfl (Je_call rfl fn70 rfl (cmp_w x.m x.hm y.m y.hm (val x.m) rfl (val y.m) rfl))) rfl rfl ?_
        refine Tl_q (JO_q rfl rfl (Jq_assign rfl rfl)) rfl ?_
        refine Tl_end ?_
        refine At_then ?_
        exact Tc_ret1 (fun _ _ h => h) rfl rfl (by rw [cmpz_pos (by omega) h3])

set_option maxRecDepth 10000 in
theorem rzadd (x : Zr) (z : Int) (hz : x.z = z) (hfx : x.m.length ≤ 4000000000000) (y : Zr) (w : Int) (hw : y.z = w) (hfy : y.m.length ≤ 4000000000000) : Ctr Tryz.prog 100 [zV x, zV y] (R.one (zV (zOf (z + w)))) := by
  refine Ctr.of_body Tryz.func100 rfl Tryz.ntmps100 (Nat.le_of_ble_eq_true rfl) (fun w0 A0 => ?_)
  haveI ix : Bn (val x.m) 4000000000000 := Bn.val x.hm hfx
  haveI iy : Bn (val y.m) 4000000000000 := Bn.val y.hm hfy
  refine Tc_seq ?_
  refine Tc_region ?_
  refine Tl_e (JO_e rfl rfl (Je_box (n := 0) rfl rfl rfl)) rfl rfl ?_
  refine Tl_e (JO_e rfl rfl (Je_box (n := 1) rfl rfl rfl)) rfl rfl ?_
  refine Tl_e (JO_e rfl rfl (Je_alloc (n := 2) rfl tz65 rfl)) rfl rfl ?_
  refine Tl_end ?_
  refine At_then ?_
  refine Tc_seq ?_
  refine Tc_seq ?_
  refine Tc_region ?_
  refine Tl_q (JO_q rfl rfl (Jq_fieldAddr rfl rfl fo65_0 rfl)) rfl ?_
  refine Tl_q (JO_q rfl rfl (Jq_load rfl rfl rfl (by decide) ty4 rfl)) rfl ?_
  refine Tl_q (JO_q rfl rfl (Jq_fieldAddr rfl rfl fo65_0 rfl)) rfl ?_
  refine Tl_q (JO_q rfl rfl (Jq_load rfl rfl rfl (by decide) ty4 rfl)) rfl ?_
  refine Tl_q (JO_q rfl rfl (Jq_eql_bool rfl rfl rfl un4 (d := _) (rfl))) rfl ?_
  refine Tl_end ?_
  refine At_then ?_
  refine Tc_cond rfl (fun hc11 => ?_) (fun hc11 => ?_)
  · skip
    refine Tc_seq ?_
    refine Tc_drawK 0 [none, none, none, none, none, none, none, none, some 2] [2] follows (by kernel_rfl) ?_
    refine DK_q (JO_q rfl rfl (Jq_fieldAddr rfl rfl fo65_0 rfl)) ?_
    refine DK_q (JO_q rfl rfl (Jq_load rfl rfl rfl (by decide) ty4 rfl)) ?_
    refine DK_q (JO_q rfl rfl (Jq_fieldAddr rfl rfl fo65_1 rfl)) ?_
    refine DK_q (JO_q rfl rfl (Jq_load rfl rfl rfl (by decide) ty23 rfl)) ?_
    refine DK_q (JO_q rfl rfl (Jq_fieldAddr rfl rfl fo65_1 rfl)) ?_
    refine DK_q (JO_q rfl rfl (Jq_load rfl rfl rfl (by decide) ty23 rfl)) ?_
    refine DK_c rfl rfl (Jd_call rfl fn94 rfl (radd_w x.m y.m x.hm y.hm (Nat.le_trans hfx (by omega)) (Nat.le_trans hfy (by omega)) (val x.m) (val y.m) rfl rfl)) ?_
    refine DK_c rfl rfl (Jd_call rfl fn71 rfl (rzmake x.neg (limbs ((val x.m) + (val y.m))) (small_limbs _) (Bn.use (by omega)) ((val x.m) + (val y.m)) (val_limbs _))) ?_
    refine DK_s 2 rfl rfl rfl (Jd_store rfl rfl rfl rfl ty65 rfl (by decide) (Nat.le_of_ble_eq_true rfl) rfl) ?_
    refine DK_nil ?_
    refine At_then ?_
    exact Tc_ret1 (fun _ _ h => h) rfl (⟨_, _, rfl, rfl, .inl ⟨ty65, Nat.le_of_ble_eq_true rfl, rfl⟩⟩) (by subst hz; subst hw; rw [zadd_same (beq_iff_eq.1 hc11)]; rfl)
  · skip
    refine Tc_skipA ?_
    refine At_then ?_
    refine Tc_seq ?_
    by_cases hlt : val x.m < val y.m
    · skip
      have hne : x.neg ≠ y.neg := beq_eq_false_iff_ne.1 hc11
      refine Tc_region ?_
      refine Tl_q (JO_q rfl rfl (Jq_fieldAddr rfl rfl fo65_1 rfl)) rfl ?_
      refine Tl_q (JO_q rfl rfl (Jq_load rfl rfl rfl (by decide) ty23 rfl)) rfl ?_
      refine Tl_q (JO_q rfl rfl (Jq_fieldAddr rfl rfl fo65_1 rfl)) rfl ?_
      refine Tl_q (JO_q rfl rfl (Jq_load rfl rfl rfl (by decide) ty23 rfl)) rfl ?_
      refine Tl_e (JO_e rfl rfl (Je_call rfl fn103 rfl (rsub_ltw x.m y.m x.hm y.hm (val x.m) (val y.m) rfl rfl hlt))) rfl rfl ?_
      refine Tl_q (JO_q rfl rfl (Jq_move rfl rfl)) rfl ?_
      refine Tl_q (JO_q rfl rfl (Jq_extract rfl rfl rfl)) rfl ?_
      refine Tl_q (JO_q rfl rfl (Jq_extract rfl rfl rfl)) rfl ?_
      refine Tl_q (JO_q rfl rfl (Jq_assign rfl rfl)) rfl ?_
      refine Tl_q (JO_q rfl rfl (Jq_assign rfl rfl)) rfl ?_
      refine Tl_end ?_
      refine At_then ?_
      refine Tc_seq ?_
      refine Tc_seq ?_
      refine Tc_region ?_
      refine Tl_q (JO_q rfl rfl (Jq_move rfl rfl)) rfl ?_
      refine Tl_q (JO_q rfl rfl (Jq_eql rfl rfl rfl (b := false) (eF (by decide)))) rfl ?_
      refine Tl_end ?_
      refine At_then ?_
      refine Tc_f rfl ?_
      refine Tc_skipA ?_
      refine At_then ?_
      refine Tc_seq ?_
      refine Tc_region ?_
      refine Tl_q (JO_q rfl rfl (Jq_fieldAddr rfl rfl fo65_1 rfl)) rfl ?_
      refine Tl_q (JO_q rfl rfl (Jq_load rfl rfl rfl (by decide) ty23 rfl)) rfl ?_
      refine Tl_q (JO_q rfl rfl (Jq_fieldAddr rfl rfl fo65_1 rfl)) rfl ?_
      refine Tl_q (JO_q rfl rfl (Jq_load rfl rfl rfl (by decide) ty23 rfl)) rfl ?_
      refine Tl_e (JO_e rfl rfl (Je_call rfl fn103 rfl (rsub_w y.m x.m y.hm x.hm (by omega) (val y.m) (val x.m) rfl rfl (Nat.le_of_lt hlt)))) rfl rfl ?_
      refine Tl_q (JO_q rfl rfl (Jq_move rfl rfl)) rfl ?_
      refine Tl_q (JO_q rfl rfl (Jq_extract rfl rfl rfl)) rfl ?_
      refine Tl_q (JO_q rfl rfl (Jq_extract rfl rfl rfl)) rfl ?_
      refine Tl_q (JO_q rfl rfl (Jq_assign rfl rfl)) rfl ?_
      refine Tl_end ?_
      refine At_then ?_
      refine Tc_seq ?_
      refine Tc_region ?_
      refine Tl_q (JO_q rfl rfl (Jq_fieldAddr rfl rfl fo65_0 rfl)) rfl ?_
      refine Tl_q (JO_q rfl rfl (Jq_load rfl rfl rfl (by decide) ty4 rfl)) rfl ?_
      refine Tl_q (JO_q rfl rfl (Jq_move rfl rfl)) rfl ?_
      refine Tl_e (JO_e rfl rfl (Je_call rfl fn71 rfl (rzmake y.neg (limbs (val y.m - val x.m)) (small_limbs _) (Bn.use (by omega)) (val y.m - val x.m) (val_limbs _)))) rfl rfl ?_
      refine Tl_e (JO_e rfl rfl (Je_store rfl rfl rfl rfl ty65 rfl (by decide) (Nat.le_of_ble_eq_true rfl) rfl)) rfl rfl ?_
      refine Tl_end ?_
      refine At_then ?_
      exact Tc_ret1 (fun _ _ h => h) rfl (⟨_, _, rfl, rfl, .inl ⟨ty65, Nat.le_of_ble_eq_true rfl, rfl⟩⟩) (by subst hz; subst hw; rw [zadd_lt hne (Nat.le_of_lt hlt)]; rfl)
    · skip
      have hne : x.neg ≠ y.neg := beq_eq_false_iff_ne.1 hc11
      refine Tc_region ?_
      refine Tl_q (JO_q rfl rfl (Jq_fieldAddr rfl rfl fo65_1 rfl)) rfl ?_
      refine Tl_q (JO_q rfl rfl (Jq_load rfl rfl rfl (by decide) ty23 rfl)) rfl ?_
      refine Tl_q (JO_q rfl rfl (Jq_fieldAddr rfl rfl fo65_1 rfl)) rfl ?_
      refine Tl_q (JO_q rfl rfl (Jq_load rfl rfl rfl (by decide) ty23 rfl)) rfl ?_
      refine Tl_e (JO_e rfl rfl (Je_call rfl fn103 rfl (rsub_w x.m y.m x.hm y.hm (by omega) (val x.m) (val y.m) rfl rfl (Nat.le_of_not_lt hlt)))) rfl rfl ?_
      refine Tl_q (JO_q rfl rfl (Jq_move rfl rfl)) rfl ?_
      refine Tl_q (JO_q rfl rfl (Jq_extract rfl rfl rfl)) rfl ?_
      refine Tl_q (JO_q rfl rfl (Jq_extract rfl rfl rfl)) rfl ?_
      refine Tl_q (JO_q rfl rfl (Jq_assign rfl rfl)) rfl ?_
      refine Tl_q (JO_q rfl rfl (Jq_assign rfl rfl)) rfl ?_
      refine Tl_end ?_
      refine At_then ?_
      refine Tc_seq ?_
      refine Tc_seq ?_
      refine Tc_region ?_
      refine Tl_q (JO_q rfl rfl (Jq_move rfl rfl)) rfl ?_
      refine Tl_q (JO_q rfl rfl (Jq_eql rfl rfl rfl (b := true) (eT rfl))) rfl ?_
      refine Tl_end ?_
      refine At_then ?_
      refine Tc_t rfl ?_
      refine Tc_seq ?_
      refine Tc_region ?_
      refine Tl_q (JO_q rfl rfl (Jq_fieldAddr rfl rfl fo65_0 rfl)) rfl ?_
      refine Tl_q (JO_q rfl rfl (Jq_load rfl rfl rfl (by decide) ty4 rfl)) rfl ?_
      refine Tl_q (JO_q rfl rfl (Jq_move rfl rfl)) rfl ?_
      refine Tl_e (JO_e rfl rfl (Je_call rfl fn71 rfl (rzmake x.neg (limbs (val x.m - val y.m)) (small_limbs _) (Bn.use (by omega)) (val x.m - val y.m) (val_limbs _)))) rfl rfl ?_
      refine Tl_e (JO_e rfl rfl (Je_store rfl rfl rfl rfl ty65 rfl (by decide) (Nat.le_of_ble_eq_true rfl) rfl)) rfl rfl ?_
      refine Tl_end ?_
      refine At_then ?_
      exact Tc_ret1 (fun _ _ h => h) rfl (⟨_, _, rfl, rfl, .inl ⟨ty65, Nat.le_of_ble_eq_true rfl, rfl⟩⟩) (by subst hz; subst hw; rw [zadd_ge hne (Nat.le_of_not_lt hlt)]; rfl)

set_option maxRecDepth 10000 in
theorem rzof (z : Int) (h1 : -9223372036854775808 ≤ z) (h2 : z ≤ 9223372036854775807) : Ctr Tryz.prog 45 [V.one (Leaf.val (.int .i64 z))] (R.one (zV (zOf z))) := by
  refine Ctr.of_body Tryz.func45 rfl Tryz.ntmps45 (Nat.le_of_ble_eq_true rfl) (fun w0 A0 => ?_)
  refine Tc_seq ?_
  refine Tc_region ?_
  refine Tl_e (JO_e rfl rfl (Je_alloc (n := 0) rfl tz65 rfl)) rfl rfl ?_
  refine Tl_end ?_
  refine At_then ?_
  refine Tc_seq ?_
  refine Tc_seq ?_
  refine Tc_region ?_
  refine Tl_q (JO_q rfl rfl (Jq_move rfl rfl)) rfl ?_
  by_cases hz0 : z < 0
  · skip
    refine Tl_q (JO_q rfl rfl (Jq_lss rfl rfl rfl (b := true) (dT (by omega)))) rfl ?_
    refine Tl_end ?_
    refine At_then ?_
    refine Tc_t rfl ?_
    refine Tc_seq ?_
    refine Tc_region ?_
    refine Tl_q (JO_q rfl rfl (Jq_move rfl rfl)) rfl ?_
    refine Tl_q (JO_q rfl rfl (Jq_convert rfl rfl un59 us3 (r := ((18446744073709551616 - z.natAbs : Nat) : Int)) (wu64 (by omega)))) rfl ?_
    refine Tl_q (JO_q rfl rfl (Jq_neg rfl rfl (r := ((z.natAbs : Nat) : Int)) (wu64 (by omega)))) rfl ?_
    refine Tl_e (JO_e rfl rfl (Je_call rfl fn72 rfl (rof_spec (z.natAbs) (by omega)))) rfl rfl ?_
    refine Tl_e (JO_e rfl rfl (Je_call rfl fn71 rfl (rzmake true (limbs (z.natAbs)) (small_limbs _) (Bn.of_lt (by omega) (by omega)) (z.natAbs) (val_limbs _)))) rfl rfl ?_
    refine Tl_e (JO_e rfl rfl (Je_store rfl rfl rfl rfl ty65 rfl (by decide) (Nat.le_of_ble_eq_true rfl) rfl)) rfl rfl ?_
    refine Tl_end ?_
    refine At_then ?_
    exact Tc_ret1 (fun _ _ h => h) rfl (⟨_, _, rfl, rfl, .inl ⟨ty65, Nat.le_of_ble_eq_true rfl, rfl⟩⟩) (by rw [show sgn true z.natAbs = z from by rw [sgn_true]; omega]; rfl)
  · skip
    refine Tl_q (JO_q rfl rfl (Jq_lss rfl rfl rfl (b := false) (dF (by omega)))) rfl ?_
    refine Tl_end ?_
    refine At_then ?_
    refine Tc_f rfl ?_
    refine Tc_skipA ?_
    refine At_then ?_
    refine Tc_seq ?_
    refine Tc_region ?_
    refine Tl_q (JO_q rfl rfl (Jq_move rfl rfl)) rfl ?_
    refine Tl_q (JO_q rfl rfl (Jq_convert rfl rfl un59 us3 (r := ((z.natAbs : Nat) : Int)) (wu64 (by omega)))) rfl ?_
    refine Tl_e (JO_e rfl rfl (Je_call rfl fn72 rfl (rof_spec (z.natAbs) (by omega)))) rfl rfl ?_
    refine Tl_e (JO_e rfl rfl (Je_call rfl fn71 rfl (rzmake false (limbs (z.natAbs)) (small_limbs _) (Bn.of_lt (by omega) (by omega)) (z.natAbs) (val_limbs _)))) rfl rfl ?_
    refine Tl_e (JO_e rfl rfl (Je_store rfl rfl rfl rfl ty65 rfl (by decide) (Nat.le_of_ble_eq_true rfl) rfl)) rfl rfl ?_
    refine Tl_end ?_
    refine At_then ?_
    exact Tc_ret1 (fun _ _ h => h) rfl (⟨_, _, rfl, rfl, .inl ⟨ty65, Nat.le_of_ble_eq_true rfl, rfl⟩⟩) (by rw [show sgn false z.natAbs = z from by rw [sgn_false]; omega]; rfl)

end Go.Proofs.YtpabkdpijcbkgaaGreatDoor
