/- Walks: natural.DivMod, Gcd. -/
import Derived.Test.YtpabkdpijcbkgaaGreatDoorWkE
set_option linter.unusedSimpArgs false
set_option linter.unusedVariables false
namespace Go.Proofs.YtpabkdpijcbkgaaGreatDoor
open Go Go.RowKit Rc


set_option maxRecDepth 10000 in
theorem divmod_spec (la lb : List Nat) (hsa : Small la) (hsb : Small lb) (hla0 : la.length ≤ 9000000000000) (hlb0 : lb.length ≤ 9000000000000) (hb0 : 0 < val lb) : Ctr Tryz.prog 55 [V.one (natL la), V.one (natL lb)] (R.tup [V.one (natL (limbs (val la / val lb))), V.one (natL (limbs (val la % val lb))), V.one (Leaf.val (.int .i64 0))]) := by
  refine Ctr.of_body Tryz.func55 rfl Tryz.ntmps55 (Nat.le_of_ble_eq_true rfl) (fun w0 A0 => ?_)
  refine Tc_seq ?_
  refine Tc_region ?_
  refine Tl_q (JO_q rfl rfl (Jq_assign_nil rfl)) rfl ?_
  refine Tl_q (JO_q rfl rfl (Jq_assign_nil rfl)) rfl ?_
  refine Tl_q (JO_q rfl rfl (Jq_assign rfl rfl)) rfl ?_
  refine Tl_end ?_
  refine At_then ?_
  refine Tc_seq ?_
  refine Tc_region ?_
  refine Tl_q (JO_q rfl rfl (Jq_move rfl rfl)) rfl ?_
  refine Tl_e (JO_e rfl rfl (Je_call rfl fn60 rfl (trim_spec la hsa))) rfl rfl ?_
  refine Tl_q (JO_q rfl rfl (Jq_move rfl rfl)) rfl ?_
  refine Tl_e (JO_e rfl rfl (Je_call rfl fn60 rfl (trim_spec lb hsb))) rfl rfl ?_
  refine Tl_q (JO_q rfl rfl (Jq_assign rfl rfl)) rfl ?_
  refine Tl_q (JO_q rfl rfl (Jq_assign rfl rfl)) rfl ?_
  refine Tl_end ?_
  refine At_then ?_
  refine Tc_seq ?_
  refine Tc_block ?_
  refine Tc_seq ?_
  have hla := limbs_val_length hsa; have hlb := limbs_val_length hsb
  have va := val_limbs (val la); have vb := val_limbs (val lb); have sa := small_limbs (val la); have sb := small_limbs (val lb)
  have ca := canon_limbs (val la); have cb := canon_limbs (val lb)
  have hbl : 0 < (limbs (val lb)).length := Nat.pos_of_ne_zero (fun h => by have := limbs_eq_nil.1 (List.eq_nil_of_length_eq_zero h); omega)
  generalize limbs (val la) = a at *
  generalize limbs (val lb) = b at *
  refine Tc_region ?_
  refine Tl_q (JO_q rfl rfl (Jq_move rfl rfl)) rfl ?_
  refine Tl_q (JO_q rfl rfl (Jq_len rfl rfl un23)) rfl ?_
  refine Tl_q (JO_q rfl rfl (Jq_eql rfl rfl rfl (b := false) (eF (by omega)))) rfl ?_
  refine Tl_q (JO_q rfl rfl (Jq_assign rfl rfl)) rfl ?_
  refine Tl_end ?_
  refine At_then ?_
  refine Tc_f rfl ?_
  refine Tc_seq ?_
  refine Tc_region ?_
  refine Tl_q (JO_q rfl rfl (Jq_move rfl rfl)) rfl ?_
  refine Tl_q (JO_q rfl rfl (Jq_move rfl rfl)) rfl ?_
  refine Tl_e (JO_e rfl rfl (Je_call rfl fn70 rfl (cmp_spec a b sa sb))) rfl rfl ?_
  by_cases hab : val a < val b
  · skip
    refine Tl_q (JO_q rfl rfl (Jq_lss rfl rfl rfl (b := true) (dT (by rw [cmpN_lt hab]; decide)))) rfl ?_
    refine Tl_q (JO_q rfl rfl (Jq_assign rfl rfl)) rfl ?_
    refine Tl_end ?_
    refine At_then ?_
    refine Tc_t rfl ?_
    refine Tc_seq ?_
    refine Tc_region ?_
    refine Tl_q (JO_q rfl rfl (Jq_move rfl rfl)) rfl ?_
    refine Tl_e (JO_e rfl rfl (Je_call rfl fn73 rfl (make_spec a sa (by omega)))) rfl rfl ?_
    refine Tl_q (JO_q rfl rfl (Jq_assign_nil rfl)) rfl ?_
    refine Tl_q (JO_q rfl rfl (Jq_assign rfl rfl)) rfl ?_
    refine Tl_q (JO_q rfl rfl (Jq_assign rfl rfl)) rfl ?_
    refine Tl_end ?_
    refine At_then ?_
    exact Tc_ret3 (fun _ _ h => h) rfl rfl rfl rfl (by rw [← va, ← vb, Nat.div_eq_of_lt hab, Nat.mod_eq_of_lt hab, limbs_zero]; rfl)
  · skip
    refine Tl_q (JO_q rfl rfl (Jq_lss rfl rfl rfl (b := false) (dF (by unfold cmpN; rw [if_neg hab]; split <;> decide)))) rfl ?_
    refine Tl_q (JO_q rfl rfl (Jq_assign rfl rfl)) rfl ?_
    refine Tl_end ?_
    refine At_then ?_
    refine Tc_f rfl ?_
    refine Tc_seq ?_
    refine Tc_region ?_
    refine Tl_q (JO_q rfl rfl (Jq_move rfl rfl)) rfl ?_
    refine Tl_q (JO_q rfl rfl (Jq_len rfl rfl un23)) rfl ?_
    by_cases h1 : b.length = 1
    · skip
      refine Tl_q (JO_q rfl rfl (Jq_eql rfl rfl rfl (b := true) (eT (by omega)))) rfl ?_
      refine Tl_q (JO_q rfl rfl (Jq_assign rfl rfl)) rfl ?_
      refine Tl_end ?_
      refine At_then ?_
      refine Tc_t rfl ?_
      refine Tc_seq ?_
      refine Tc_region ?_
      refine Tl_q (JO_q rfl rfl (Jq_move rfl rfl)) rfl ?_
      refine Tl_q (JO_q rfl rfl (Jq_move rfl rfl)) rfl ?_
      refine Tl_q (JO_q rfl rfl (Jq_index1 rfl rfl rfl un23 ty62 (by omega) (by omega) (get_u32i 0 (by omega) rfl))) rfl ?_
      refine Tl_q (JO_q rfl rfl (Jq_load_ref rfl rfl ty62)) rfl ?_
      have hb1 := sb.get 0 (by omega)
      have vb1 : val b = b[0] := by
        match b, h1 with
        | [d], _ => simp [val]
      have hb2 : 0 < b[0] := by rw [← vb1, vb]; exact hb0
      refine Tl_e (JO_e rfl rfl (Je_call rfl fn81 rfl (short_spec a (b[0]'(by omega)) sa hb1 hb2 (by omega)))) rfl rfl ?_
      refine Tl_q (JO_q rfl rfl (Jq_move rfl rfl)) rfl ?_
      refine Tl_q (JO_q rfl rfl (Jq_extract rfl rfl rfl)) rfl ?_
      refine Tl_q (JO_q rfl rfl (Jq_extract rfl rfl rfl)) rfl ?_
      refine Tl_q (JO_q rfl rfl (Jq_assign rfl rfl)) rfl ?_
      refine Tl_q (JO_q rfl rfl (Jq_assign rfl rfl)) rfl ?_
      refine Tl_end ?_
      refine At_then ?_
      refine Tc_seq ?_
      refine Tc_region ?_
      refine Tl_q (JO_q rfl rfl (Jq_move rfl rfl)) rfl ?_
      refine Tl_q (JO_q rfl rfl (Jq_move rfl rfl)) rfl ?_
      refine Tl_q (JO_q rfl rfl (Jq_assign rfl rfl)) rfl ?_
      refine Tl_q (JO_q rfl rfl (Jq_assign rfl rfl)) rfl ?_
      refine Tl_q (JO_q rfl rfl (Jq_assign rfl rfl)) rfl ?_
      refine Tl_end ?_
      refine At_then ?_
      exact Tc_ret3 (fun _ _ h => h) rfl rfl rfl rfl (by rw [← va, ← vb, vb1])
    · skip
      refine Tl_q (JO_q rfl rfl (Jq_eql rfl rfl rfl (b := false) (eF (by omega)))) rfl ?_
      refine Tl_q (JO_q rfl rfl (Jq_assign rfl rfl)) rfl ?_
      refine Tl_end ?_
      refine At_then ?_
      refine Tc_f rfl ?_
      refine Tc_skipA ?_
      refine At_block ?_
      refine At_then ?_
      refine Tc_seq ?_
      have hbp : b.length - 1 < b.length := Nat.sub_lt hbl (by decide)
      have htb := sb.get (b.length - 1) hbp
      obtain ⟨sh, hshe, hsh, hvlen, hvtop⟩ := norm_ex cb hbl
      refine Tc_region ?_
      refine Tl_q (JO_q rfl rfl (Jq_move rfl rfl)) rfl ?_
      refine Tl_q (JO_q rfl rfl (Jq_move rfl rfl)) rfl ?_
      refine Tl_q (JO_q rfl rfl (Jq_len rfl rfl un23)) rfl ?_
      refine Tl_q (JO_q rfl rfl (Jq_sub rfl rfl rfl (r := ((b.length - 1 : Nat) : Int)) (w64 (by omega) (by omega) (by omega)))) rfl ?_
      refine Tl_q (JO_q rfl rfl (Jq_index1 rfl rfl rfl un23 ty62 (by omega) (by omega) (get_u32i (b.length - 1) hbp rfl))) rfl ?_
      refine Tl_q (JO_q rfl rfl (Jq_load_ref rfl rfl ty62)) rfl ?_
      refine Tl_e (JO_e rfl rfl (Je_call rfl fn82 rfl (lz32_spec (b[b.length - 1]'hbp) htb))) rfl rfl ?_
      refine Tl_q (JO_q rfl rfl (Jq_assign rfl rfl)) rfl ?_
      refine Tl_end ?_
      refine At_then ?_
      refine Tc_seq ?_
      rw [hshe]
      have hp : 0 < 2 ^ sh := Nat.pow_pos (by decide)
      have hab2 : b.length ≤ a.length := by
        have := limbs_length_mono (Nat.le_of_not_lt hab)
        rwa [limbs_val ca, limbs_val cb] at this
      have hVlt : val b * 2 ^ sh < 4294967296 ^ b.length := by have := limbs_length_le (n := val b * 2 ^ sh) (k := b.length); rw [hvlen] at this; exact this.1 (Nat.le_refl _)
      have hVpos : 0 < val b * 2 ^ sh := Nat.mul_pos (by omega) hp
      have hVge : 4294967296 ^ (b.length - 1) * 2 ^ sh ≤ val b * 2 ^ sh := by
        refine Nat.mul_le_mul_right _ ?_
        have := limbs_length_le (n := val b) (k := b.length - 1)
        rw [limbs_val cb] at this
        omega
      obtain ⟨hAlt, hAtop⟩ := dm_start sa rfl rfl hsh hab2 hVge hbl
      have hVpad : val (padL (b.length + 1) (val b * 2 ^ sh)) = val b * 2 ^ sh := val_padL (Nat.lt_trans hVlt (Nat.pow_lt_pow_right (by decide) (by omega)))
      refine Tc_region ?_
      refine Tl_q (JO_q rfl rfl (Jq_move rfl rfl)) rfl ?_
      refine Tl_q (JO_q rfl rfl (Jq_move rfl rfl)) rfl ?_
      refine Tl_e (JO_e rfl rfl (Je_call_fresh (i := 0) rfl fn83 rfl (left_own a sh sa hsh (by omega)) rfl)) rfl rfl ?_
      refine Tl_q (JO_q rfl rfl (Jq_move rfl rfl)) rfl ?_
      refine Tl_q (JO_q rfl rfl (Jq_move rfl rfl)) rfl ?_
      refine Tl_e (JO_e rfl rfl (Je_call rfl fn83 rfl (left_spec b sh sb hsh (by omega)))) rfl rfl ?_
      refine Tl_e (JO_e rfl rfl (Je_call rfl fn60 rfl (trim_spec (padL (b.length + 1) (val b * 2 ^ sh)) (small_padL _ _)))) rfl rfl ?_
      refine Tl_q (JO_q rfl rfl (Jq_assign rfl rfl)) rfl ?_
      refine Tl_q (JO_q rfl rfl (Jq_assign rfl rfl)) rfl ?_
      refine Tl_end ?_
      refine At_then ?_
      refine Tc_seq ?_
      rw [hVpad]
      have hvs := small_limbs (val b * 2 ^ sh); have hvv := val_limbs (val b * 2 ^ sh)
      generalize limbs (val b * 2 ^ sh) = v at *
      generalize hVe : val b * 2 ^ sh = vv at *
      refine Tc_region ?_
      refine Tl_q (JO_q rfl rfl (Jq_move rfl rfl)) rfl ?_
      refine Tl_q (JO_q rfl rfl (Jq_len rfl rfl un23)) rfl ?_
      refine Tl_q (JO_q rfl rfl (Jq_move rfl rfl)) rfl ?_
      refine Tl_q (JO_q rfl rfl (Jq_len rfl rfl un23)) rfl ?_
      refine Tl_q (JO_q rfl rfl (Jq_sub rfl rfl rfl (r := ((a.length - b.length : Nat) : Int)) (w64 (by omega) (by omega) (by omega)))) rfl ?_
      refine Tl_q (JO_q rfl rfl (Jq_add rfl rfl rfl (r := ((a.length - b.length + 1 : Nat) : Int)) (w64 (by omega) (by omega) (by omega)))) rfl ?_
      obtain ⟨ti3, hi3, hz3, hs3, hb3⟩ := in62
      refine Tl_e (JO_e rfl rfl (Je_make (i := 1) (n := a.length - b.length + 1) (ls := ((List.replicate (a.length - b.length + 1) 0).map u32L)) rfl rfl rfl un23 hi3 hz3 hs3 (by decide) rfl (by decide) rfl (by rw [hb3]; omega) (by simp only [maxLen]; omega) (zc_u32 _) rfl)) rfl rfl ?_
      refine Tl_q (JO_q rfl rfl (Jq_assign rfl rfl)) rfl ?_
      refine Tl_end ?_
      refine At_then ?_
      refine Tc_seq ?_
      refine Tc_seq ?_
      refine Tc_region ?_
      refine Tl_q (JO_q rfl rfl (Jq_move rfl rfl)) rfl ?_
      refine Tl_q (JO_q rfl rfl (Jq_len_own rfl rfl rfl (by decide) rfl (by simp) (by decide) un23)) rfl ?_
      refine Tl_q (JO_q rfl rfl (Jq_sub rfl rfl rfl (r := ((a.length - b.length + 1 : Nat) : Int) - 1) (w64 (by omega) (by omega) (by omega)))) rfl ?_
      refine Tl_q (JO_q rfl rfl (Jq_assign rfl rfl)) rfl ?_
      refine Tl_end ?_
      refine At_then ?_
      refine Tc_block ?_
      refine Tc_loopR (fun m Γ H => ∃ (k : Nat) (us : List Nat) (out : List Nat), k = m ∧ Γ = [(0, some (D.v (V.one (natL a)))), (1, some (D.v (V.one (natL b)))), (9, some (D.val (.int .i64 ((sh : Nat) : Int)))), (10, some (D.own 0 (a.length + 1))), (11, some (D.v (V.one (natL v)))), (12, some (D.own 1 (a.length - b.length + 1))), (13, some (D.int ((k : Int) - 1)))] ∧ H = [some ⟨62, (us).map u32L, some 1, none⟩, some ⟨62, (out).map u32L, some 1, none⟩] ∧ k ≤ out.length ∧ us.length = a.length + 1 ∧ Small us ∧ out.length = a.length - b.length + 1 ∧ Small out ∧ val us + vv * (4294967296 ^ k * val (out.drop k)) = val a * 2 ^ sh ∧ val (us.drop k) < vv) ⟨a.length - b.length + 1, padL (a.length + 1) (val a * 2 ^ sh), List.replicate (a.length - b.length + 1) 0, rfl, rfl, rfl, by simp, padL_length _ _, small_padL _ _, by simp, Small.replicate _, by rw [List.drop_of_length_le (by simp), val_padL hAlt, show val [] = 0 from rfl, Nat.mul_zero, Nat.mul_zero, Nat.add_zero], hAtop⟩ ⟨rfl, rfl, rfl, rfl, rfl, rfl, rfl, trivial⟩ ?_
      rintro m Γ H ⟨k, us, out, rfl, rfl, rfl, hko, hul, hus, hol, hos, heq, htop⟩
      refine Tc_seq ?_
      refine Tc_seq ?_
      refine Tc_region ?_
      refine Tl_q (JO_q rfl rfl (Jq_move rfl rfl)) rfl ?_
      by_cases hk : 0 < k
      · skip
        refine Tl_q (JO_q rfl rfl (Jq_geq rfl rfl rfl (b := true) (dT (by omega)))) rfl ?_
        refine Tl_end ?_
        refine At_then ?_
        refine Tc_t rfl ?_
        refine Tc_skipA ?_
        refine At_then ?_
        refine Tc_seq ?_
        refine Tc_block ?_
        refine Tc_seq ?_
        obtain ⟨pre, s, post, hsplit, hpl, hsl⟩ := dm_split (n := v.length) hk (us := us) (by omega)
        have hpk : (k : Int) - 1 = ((pre.length : Nat) : Int) := by omega
        rw [hpk]
        have hk1 : k = pre.length + 1 := by omega
        subst hk1
        subst hsplit
        obtain ⟨ss, sp, sq, hpost, hslt⟩ := dm_seg hus hsl (by rw [hvlen]; exact hVlt) htop
        obtain ⟨hst1, hst2⟩ := dm_step (n := v.length) rfl (by omega) hpost hVpos (by rw [hvlen]; exact hVlt) heq
        have hbnd := estimate_bounds ss hvs hsl (by omega) (by rw [hvlen]; exact hvtop) (by rw [hvv]; exact hslt)
        rw [hvv] at hbnd
        have hbq : est (s.getD v.length 0 * 4294967296 + s.getD (v.length - 1) 0) (s.getD (v.length - 2) 0) (v.getD (v.length - 1) 0) (v.getD (v.length - 2) 0) = val s / vv ∨ est (s.getD v.length 0 * 4294967296 + s.getD (v.length - 1) 0) (s.getD (v.length - 2) 0) (v.getD (v.length - 1) 0) (v.getD (v.length - 2) 0) = val s / vv + 1 := by generalize est (s.getD v.length 0 * 4294967296 + s.getD (v.length - 1) 0) (s.getD (v.length - 2) 0) (v.getD (v.length - 1) 0) (v.getD (v.length - 2) 0) = e at *; generalize val s / vv = z at *; omega
        have hqv : val s / vv < 4294967296 := by rw [Nat.div_lt_iff_lt_mul hVpos, Nat.mul_comm]; exact hslt
        refine Tc_region ?_
        refine Tl_q (JO_q rfl rfl (Jq_move rfl rfl)) rfl ?_
        refine Tl_q (JO_q rfl rfl (Jq_move rfl rfl)) rfl ?_
        refine Tl_q (JO_q rfl rfl (Jq_move rfl rfl)) rfl ?_
        refine Tl_q (JO_q rfl rfl (Jq_move rfl rfl)) rfl ?_
        refine Tl_q (JO_q rfl rfl (Jq_len rfl rfl un23)) rfl ?_
        refine Tl_q (JO_q rfl rfl (Jq_add rfl rfl rfl (r := ((pre.length + v.length : Nat) : Int)) (w64 (by omega) (by omega) (by omega)))) rfl ?_
        refine Tl_q (JO_q rfl rfl (Jq_add rfl rfl rfl (r := ((pre.length + v.length + 1 : Nat) : Int)) (w64 (by omega) (by omega) (by omega)))) rfl ?_
        refine Tl_q (JO_q rfl rfl (Jq_slice_own (lo := pre.length) (hi := pre.length + v.length + 1) rfl rfl rfl rfl rfl (by decide) rfl (by rw [List.length_map]; exact hul) un23 ty62 (by omega) (by omega) (m := v.length + 1) (by omega))) rfl ?_
        refine Tl_q (JO_q rfl rfl (Jq_assign rfl rfl)) rfl ?_
        refine Tl_end ?_
        refine At_then ?_
        refine Tc_region ?_
        refine Tl_q (JO_q rfl rfl (Jq_move rfl rfl)) rfl ?_
        refine Tl_q (JO_q rfl rfl (Jq_move rfl rfl)) rfl ?_
        refine Tl_q (JO_q rfl rfl (Jq_move rfl rfl)) rfl ?_
        refine Tl_q (JO_q rfl rfl (Jq_move rfl rfl)) rfl ?_
        refine Tl_q (JO_q rfl rfl (Jq_move rfl rfl)) rfl ?_
        refine Tl_q (JO_q rfl rfl (Jq_move rfl rfl)) rfl ?_
        refine Tl_e (JO_e rfl rfl (Je_call_view (ls' := s.map u32L) rfl fn85 rfl rfl rfl rfl (by omega) (by simp; omega) (by simp [← hsl]) rfl (by rw [← hsl]; exact estimate_spec s v ss hvs hsl (by omega) (by omega) (by rw [hvlen]; omega)))) rfl rfl ?_
        refine Tl_e (JO_e rfl rfl (Je_call_mut rfl fn84 rfl rfl rfl (by simp; omega) rfl (show CtrM Tryz.prog 84 62 pre.length (v.length + 1) ((pre ++ s ++ post).map u32L) ((pre ++ padL (v.length + 1) (val s % vv) ++ post).map u32L) [V.one (natL v), V.one (Leaf.val (.int .u64 ((est (s.getD v.length 0 * 4294967296 + s.getD (v.length - 1) 0) (s.getD (v.length - 2) 0) (v.getD (v.length - 1) 0) (v.getD (v.length - 2) 0) : Nat) : Int)))] (R.one (V.one (Leaf.val (.int .u32 ((val s / vv : Nat) : Int))))) from by rw [← hvv]; exact reduce_spec pre s post v _ ss hvs hsl (by omega) (by rw [hvv]; exact hVpos) (by rw [hvv]; exact hslt) (by rw [hvv]; exact hbq)))) rfl rfl ?_
        refine Tl_q (JO_q rfl rfl (Jq_index_own rfl rfl rfl rfl (by decide) (by simp [hol]) (by decide) un23 ty62 (by omega) (by omega) (off := pre.length) (by omega))) rfl ?_
        refine Tl_e (JO_e rfl rfl (Je_store (ls := ((out.set pre.length (val s / vv)).map u32L)) rfl rfl rfl rfl ty62 rfl (by decide) (by simp; omega) (splice_u32 (by omega)))) rfl rfl ?_
        refine Tl_end ?_
        refine At_block ?_
        refine At_then ?_
        refine Tc_region ?_
        refine Tl_q (JO_q rfl rfl (Jq_move rfl rfl)) rfl ?_
        refine Tl_q (JO_q rfl rfl (Jq_sub rfl rfl rfl (r := ((pre.length : Nat) : Int) - 1) (w64 (by omega) (by omega) (by omega)))) rfl ?_
        refine Tl_q (JO_q rfl rfl (Jq_assign rfl rfl)) rfl ?_
        refine Tl_end ?_
        exact At_next (m' := pre.length) (by omega) ⟨pre.length, _, _, rfl, rfl, rfl, by simp; omega, by simp only [List.length_append, padL_length] at hul ⊢; omega, (sp.append (small_padL _ _)).append sq, by simp [hol], hos.set _ _ hqv, hst1, hst2⟩ ⟨rfl, rfl, rfl, rfl, rfl, rfl, rfl, trivial⟩
      · skip
        refine Tl_q (JO_q rfl rfl (Jq_geq rfl rfl rfl (b := false) (dF (by omega)))) rfl ?_
        refine Tl_end ?_
        refine At_then ?_
        refine Tc_f rfl ?_
        refine Tc_exitA ?_
        refine At_then_exit ?_
        refine At_then_exit ?_
        refine At_block_exit ?_
        refine At_then ?_
        refine Tc_seq ?_
        have hk0 : k = 0 := by omega
        subst hk0
        simp only [List.drop_zero, Nat.pow_zero, Nat.one_mul] at heq htop
        obtain ⟨f1, f2⟩ := dm_fin (x := val us) (vb := val b) (sh := sh) (o := val out) (va := val a) (by rw [hVe]; exact heq) (by rw [hVe]; exact htop)
        refine Tc_region ?_
        refine Tl_q (JO_q rfl rfl (Jq_move rfl rfl)) rfl ?_
        refine Tl_q (JO_q rfl rfl (Jq_move rfl rfl)) rfl ?_
        refine Tl_share_nat 92 (us) rfl rfl rfl rfl (by omega) ?_
        refine Tl_e (JO_e rfl rfl (Je_call rfl fn86 rfl (shr_spec us sh hus (by omega) (by omega)))) rfl rfl ?_
        refine Tl_q (JO_q rfl rfl (Jq_move rfl rfl)) rfl ?_
        refine Tl_q (JO_q rfl rfl (Jq_extract rfl rfl rfl)) rfl ?_
        refine Tl_q (JO_q rfl rfl (Jq_extract rfl rfl rfl)) rfl ?_
        refine Tl_q (JO_q rfl rfl (Jq_assign rfl rfl)) rfl ?_
        refine Tl_q (JO_q rfl rfl (Jq_assign rfl rfl)) rfl ?_
        refine Tl_end ?_
        refine At_then ?_
        refine Tc_seq ?_
        refine Tc_region ?_
        refine Tl_q (JO_q rfl rfl (Jq_move rfl rfl)) rfl ?_
        refine Tl_share_nat 97 (out) rfl rfl rfl rfl (by omega) ?_
        refine Tl_e (JO_e rfl rfl (Je_call rfl fn60 rfl (trim_spec out hos))) rfl rfl ?_
        refine Tl_q (JO_q rfl rfl (Jq_move rfl rfl)) rfl ?_
        refine Tl_q (JO_q rfl rfl (Jq_assign rfl rfl)) rfl ?_
        refine Tl_q (JO_q rfl rfl (Jq_assign rfl rfl)) rfl ?_
        refine Tl_q (JO_q rfl rfl (Jq_assign rfl rfl)) rfl ?_
        refine Tl_end ?_
        refine At_then ?_
        exact Tc_ret3 (fun _ _ h => h) rfl rfl rfl rfl (by rw [f1, f2, va, vb])

theorem divmod_n (x y : Nat) (hx : (limbs x).length ≤ 9000000000000) (hy : (limbs y).length ≤ 9000000000000) (h0 : 0 < y) : Ctr Tryz.prog 55 [V.one (natL (limbs x)), V.one (natL (limbs y))] (R.tup [V.one (natL (limbs (x / y))), V.one (natL (limbs (x % y))), V.one (Leaf.val (.int .i64 0))]) := by
  have h := divmod_spec (limbs x) (limbs y) (small_limbs _) (small_limbs _) hx hy (by rw [val_limbs]; exact h0)
  rw [val_limbs, val_limbs] at h
  exact h

set_option maxRecDepth 10000 in
theorem gcd_spec (la lb : List Nat) (hsa : Small la) (hsb : Small lb) (hla0 : la.length ≤ 9000000000000) (hlb0 : lb.length ≤ 9000000000000) : Ctr Tryz.prog 75 [V.one (natL la), V.one (natL lb)] (R.one (V.one (natL (limbs (Nat.gcd (val la) (val lb)))))) := by
  refine Ctr.of_body Tryz.func75 rfl Tryz.ntmps75 (Nat.le_of_ble_eq_true rfl) (fun w0 A0 => ?_)
  refine Tc_seq ?_
  refine Tc_region ?_
  refine Tl_q (JO_q rfl rfl (Jq_assign_nil rfl)) rfl ?_
  refine Tl_end ?_
  refine At_then ?_
  refine Tc_seq ?_
  have ha0 := limbs_val_length hsa; have hb0 := limbs_val_length hsb
  obtain ⟨g, hg⟩ : ∃ g, Nat.gcd (val la) (val lb) = g := ⟨_, rfl⟩
  rw [hg]
  refine Tc_region ?_
  refine Tl_q (JO_q rfl rfl (Jq_move rfl rfl)) rfl ?_
  refine Tl_e (JO_e rfl rfl (Je_call rfl fn60 rfl (trim_spec la hsa))) rfl rfl ?_
  refine Tl_q (JO_q rfl rfl (Jq_move rfl rfl)) rfl ?_
  refine Tl_e (JO_e rfl rfl (Je_call rfl fn60 rfl (trim_spec lb hsb))) rfl rfl ?_
  refine Tl_q (JO_q rfl rfl (Jq_assign rfl rfl)) rfl ?_
  refine Tl_q (JO_q rfl rfl (Jq_assign rfl rfl)) rfl ?_
  refine Tl_end ?_
  refine At_then ?_
  refine Tc_seq ?_
  refine Tc_block ?_
  refine Tc_loopR (fun m Γ H => ∃ (x : Nat) (y : Nat), y = m ∧ Γ = [(0, some (D.v (V.one (natL (limbs x))))), (1, some (D.v (V.one (natL (limbs y)))))] ∧ H = [] ∧ Nat.gcd x y = g ∧ (limbs x).length ≤ 9000000000000 ∧ (limbs y).length ≤ 9000000000000) ⟨val la, val lb, rfl, rfl, rfl, hg, by omega, by omega⟩ ⟨rfl, rfl, trivial⟩ ?_
  rintro m Γ H ⟨x, y, rfl, rfl, rfl, hxy, hx, hy⟩
  refine Tc_seq ?_
  refine Tc_seq ?_
  refine Tc_region ?_
  refine Tl_q (JO_q rfl rfl (Jq_move rfl rfl)) rfl ?_
  refine Tl_q (JO_q rfl rfl (Jq_len rfl rfl un23)) rfl ?_
  by_cases hl : 2 < (limbs y).length
  · skip
    refine Tl_q (JO_q rfl rfl (Jq_gtr rfl rfl rfl (b := true) (dT (by omega)))) rfl ?_
    refine Tl_end ?_
    refine At_then ?_
    refine Tc_t rfl ?_
    refine Tc_skipA ?_
    refine At_then ?_
    refine Tc_block ?_
    refine Tc_seq ?_
    have hy0 : 0 < y := Nat.pos_of_ne_zero (fun h => by subst h; simp [limbs_zero] at hl)
    have hm := Nat.mod_lt x hy0
    have hml := limbs_length_mono (Nat.le_of_lt hm)
    refine Tc_region ?_
    refine Tl_q (JO_q rfl rfl (Jq_move rfl rfl)) rfl ?_
    refine Tl_q (JO_q rfl rfl (Jq_move rfl rfl)) rfl ?_
    refine Tl_e (JO_e rfl rfl (Je_call rfl fn55 rfl (divmod_n x y hx hy hy0))) rfl rfl ?_
    refine Tl_q (JO_q rfl rfl (Jq_move rfl rfl)) rfl ?_
    refine Tl_q (JO_q rfl rfl (Jq_extract rfl rfl rfl)) rfl ?_
    refine Tl_q (JO_q rfl rfl (Jq_extract rfl rfl rfl)) rfl ?_
    refine Tl_q (JO_q rfl rfl (Jq_extract rfl rfl rfl)) rfl ?_
    refine Tl_q (JO_q rfl rfl (Jq_assign rfl rfl)) rfl ?_
    refine Tl_q (JO_q rfl rfl (Jq_assign rfl rfl)) rfl ?_
    refine Tl_q (JO_q rfl rfl (Jq_assign rfl rfl)) rfl ?_
    refine Tl_end ?_
    refine At_then ?_
    refine Tc_region ?_
    refine Tl_q (JO_q rfl rfl (Jq_move rfl rfl)) rfl ?_
    refine Tl_q (JO_q rfl rfl (Jq_move rfl rfl)) rfl ?_
    refine Tl_q (JO_q rfl rfl (Jq_assign rfl rfl)) rfl ?_
    refine Tl_q (JO_q rfl rfl (Jq_assign rfl rfl)) rfl ?_
    refine Tl_end ?_
    refine At_block ?_
    exact At_next (m' := x % y) hm ⟨y, x % y, rfl, rfl, rfl, by rw [Nat.gcd_comm, ← hxy, Nat.gcd_comm x y, Nat.gcd_rec y x], hy, by omega⟩ ⟨rfl, rfl, trivial⟩
  · skip
    refine Tl_q (JO_q rfl rfl (Jq_gtr rfl rfl rfl (b := false) (dF (by omega)))) rfl ?_
    refine Tl_end ?_
    refine At_then ?_
    refine Tc_f rfl ?_
    refine Tc_exitA ?_
    refine At_then_exit ?_
    refine At_then_exit ?_
    refine At_block_exit ?_
    refine At_then ?_
    refine Tc_seq ?_
    refine Tc_seq ?_
    refine Tc_region ?_
    refine Tl_q (JO_q rfl rfl (Jq_move rfl rfl)) rfl ?_
    refine Tl_q (JO_q rfl rfl (Jq_len rfl rfl un23)) rfl ?_
    by_cases hz : (limbs y).length = 0
    · skip
      refine Tl_q (JO_q rfl rfl (Jq_eql rfl rfl rfl (b := true) (eT (by omega)))) rfl ?_
      refine Tl_end ?_
      refine At_then ?_
      refine Tc_t rfl ?_
      refine Tc_seq ?_
      have hy0 : y = 0 := limbs_eq_nil.1 (List.eq_nil_of_length_eq_zero hz)
      subst hy0
      rw [Nat.gcd_zero_right] at hxy
      subst hxy
      refine Tc_region ?_
      refine Tl_q (JO_q rfl rfl (Jq_move rfl rfl)) rfl ?_
      refine Tl_e (JO_e rfl rfl (Je_call rfl fn73 rfl (make_spec (limbs x) (small_limbs _) (by omega)))) rfl rfl ?_
      refine Tl_q (JO_q rfl rfl (Jq_assign rfl rfl)) rfl ?_
      refine Tl_end ?_
      refine At_then ?_
      exact Tc_ret1 (fun _ _ h => h) rfl rfl (by rw [val_limbs])
    · skip
      refine Tl_q (JO_q rfl rfl (Jq_eql rfl rfl rfl (b := false) (eF (by omega)))) rfl ?_
      refine Tl_end ?_
      refine At_then ?_
      refine Tc_f rfl ?_
      refine Tc_skipA ?_
      refine At_then ?_
      refine Tc_seq ?_
      have hy0 : 0 < y := Nat.pos_of_ne_zero (fun h => by subst h; simp [limbs_zero] at hz)
      have hm := Nat.mod_lt x hy0
      have hml := limbs_length_mono (Nat.le_of_lt hm)
      have hy64 : y < 18446744073709551616 := (limbs_length_le (n := y) (k := 2)).1 (by omega)
      refine Tc_region ?_
      refine Tl_q (JO_q rfl rfl (Jq_move rfl rfl)) rfl ?_
      refine Tl_q (JO_q rfl rfl (Jq_move rfl rfl)) rfl ?_
      refine Tl_e (JO_e rfl rfl (Je_call rfl fn55 rfl (divmod_n x y hx hy hy0))) rfl rfl ?_
      refine Tl_q (JO_q rfl rfl (Jq_move rfl rfl)) rfl ?_
      refine Tl_q (JO_q rfl rfl (Jq_extract rfl rfl rfl)) rfl ?_
      refine Tl_q (JO_q rfl rfl (Jq_extract rfl rfl rfl)) rfl ?_
      refine Tl_q (JO_q rfl rfl (Jq_extract rfl rfl rfl)) rfl ?_
      refine Tl_q (JO_q rfl rfl (Jq_assign rfl rfl)) rfl ?_
      refine Tl_q (JO_q rfl rfl (Jq_assign rfl rfl)) rfl ?_
      refine Tl_q (JO_q rfl rfl (Jq_assign rfl rfl)) rfl ?_
      refine Tl_end ?_
      refine At_then ?_
      refine Tc_seq ?_
      refine Tc_region ?_
      refine Tl_q (JO_q rfl rfl (Jq_move rfl rfl)) rfl ?_
      refine Tl_e (JO_e rfl rfl (Je_call rfl fn98 rfl (uint_spec y))) rfl rfl ?_
      refine Tl_q (JO_q rfl rfl (Jq_move rfl rfl)) rfl ?_
      rw [if_pos hy64]
      refine Tl_q (JO_q rfl rfl (Jq_extract rfl rfl rfl)) rfl ?_
      refine Tl_q (JO_q rfl rfl (Jq_extract rfl rfl rfl)) rfl ?_
      refine Tl_q (JO_q rfl rfl (Jq_assign rfl rfl)) rfl ?_
      refine Tl_q (JO_q rfl rfl (Jq_assign rfl rfl)) rfl ?_
      refine Tl_end ?_
      refine At_then ?_
      refine Tc_seq ?_
      refine Tc_region ?_
      refine Tl_q (JO_q rfl rfl (Jq_move rfl rfl)) rfl ?_
      refine Tl_e (JO_e rfl rfl (Je_call rfl fn98 rfl (uint_spec (x % y)))) rfl rfl ?_
      refine Tl_q (JO_q rfl rfl (Jq_move rfl rfl)) rfl ?_
      rw [if_pos (Nat.lt_trans hm hy64)]
      refine Tl_q (JO_q rfl rfl (Jq_extract rfl rfl rfl)) rfl ?_
      refine Tl_q (JO_q rfl rfl (Jq_extract rfl rfl rfl)) rfl ?_
      refine Tl_q (JO_q rfl rfl (Jq_assign rfl rfl)) rfl ?_
      refine Tl_q (JO_q rfl rfl (Jq_assign rfl rfl)) rfl ?_
      refine Tl_end ?_
      refine At_then ?_
      refine Tc_seq ?_
      refine Tc_block ?_
      refine Tc_loopR (fun m Γ H => ∃ (p : Nat) (q : Nat), q = m ∧ Γ = [(11, some (D.val (.int .u64 ((p : Nat) : Int)))), (13, some (D.val (.int .u64 ((q : Nat) : Int))))] ∧ H = [] ∧ Nat.gcd p q = g ∧ p < 18446744073709551616 ∧ q < 18446744073709551616) ⟨y, x % y, rfl, rfl, rfl, by rw [Nat.gcd_comm, ← hxy, Nat.gcd_comm x y, Nat.gcd_rec y x], hy64, Nat.lt_trans hm hy64⟩ ⟨rfl, rfl, trivial⟩ ?_
      rintro m Γ H ⟨p, q, rfl, rfl, rfl, hpq, hp, hq⟩
      refine Tc_seq ?_
      refine Tc_seq ?_
      refine Tc_region ?_
      refine Tl_q (JO_q rfl rfl (Jq_move rfl rfl)) rfl ?_
      by_cases hq0 : 0 < q
      · skip
        refine Tl_q (JO_q rfl rfl (Jq_gtr rfl rfl rfl (b := true) (dT (by omega)))) rfl ?_
        refine Tl_end ?_
        refine At_then ?_
        refine Tc_t rfl ?_
        refine Tc_skipA ?_
        refine At_then ?_
        refine Tc_block ?_
        have hmq := Nat.mod_lt p hq0
        refine Tc_drawK 0 [none, none, none, none, none, none] [] follows (by kernel_rfl) ?_
        refine DK_q (JO_q rfl rfl (Jq_move rfl rfl)) ?_
        refine DK_q (JO_q rfl rfl (Jq_move rfl rfl)) ?_
        refine DK_q (JO_q rfl rfl (Jq_move rfl rfl)) ?_
        refine DK_q (JO_q rfl rfl (Jq_rem rfl rfl rfl (by omega) (r := ((p % q : Nat) : Int)) (tmodN _ _))) ?_
        refine DK_q (JO_q rfl rfl (Jq_assign rfl rfl)) ?_
        refine DK_q (JO_q rfl rfl (Jq_assign rfl rfl)) ?_
        refine DK_nil ?_
        refine At_block ?_
        exact At_next (m' := p % q) hmq ⟨q, p % q, rfl, rfl, rfl, by rw [Nat.gcd_comm, ← hpq, Nat.gcd_comm p q, Nat.gcd_rec q p], hq, Nat.lt_trans hmq hq⟩ ⟨rfl, rfl, trivial⟩
      · skip
        refine Tl_q (JO_q rfl rfl (Jq_gtr rfl rfl rfl (b := false) (dF (by omega)))) rfl ?_
        refine Tl_end ?_
        refine At_then ?_
        refine Tc_f rfl ?_
        refine Tc_exitA ?_
        refine At_then_exit ?_
        refine At_then_exit ?_
        refine At_block_exit ?_
        refine At_then ?_
        refine Tc_seq ?_
        have hq00 : q = 0 := by omega
        subst hq00
        rw [Nat.gcd_zero_right] at hpq
        subst hpq
        refine Tc_region ?_
        refine Tl_q (JO_q rfl rfl (Jq_move rfl rfl)) rfl ?_
        refine Tl_e (JO_e rfl rfl (Je_call rfl fn38 rfl (of_spec p hp))) rfl rfl ?_
        refine Tl_q (JO_q rfl rfl (Jq_assign rfl rfl)) rfl ?_
        refine Tl_end ?_
        refine At_then ?_
        exact Tc_ret1 (fun _ _ h => h) rfl rfl rfl

end Go.Proofs.YtpabkdpijcbkgaaGreatDoor
