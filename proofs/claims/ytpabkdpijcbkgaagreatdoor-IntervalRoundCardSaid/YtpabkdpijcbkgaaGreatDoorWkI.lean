/- Walks: rational numbers and their reference. -/
import Derived.Test.YtpabkdpijcbkgaaGreatDoorWkH
import Derived.Test.YtpabkdpijcbkgaaGreatDoorFacts
set_option linter.unusedSimpArgs false
set_option linter.unusedVariables false
namespace Go.Proofs.YtpabkdpijcbkgaaGreatDoor
open Go Go.RowKit Rc


set_option maxRecDepth 10000 in
theorem qone  : Ctr Tryz.prog 77 [] (R.one (V.one (natL [1]))) := by
  refine Ctr.of_body Tryz.func77 rfl Tryz.ntmps77 (Nat.le_of_ble_eq_true rfl) (fun w0 A0 => ?_)
  refine Tc_seq ?_
  refine Tc_region ?_
  refine Tl_q (JO_q rfl rfl (Jq_assign_nil rfl)) rfl ?_
  refine Tl_end ?_
  refine At_then ?_
  refine Tc_seq ?_
  refine Tc_region ?_
  refine Tl_e (JO_e rfl rfl (Je_buildSlice rfl un23 ty62 tz62 rfl (by decide) (by decide) rfl (by decide) rfl)) rfl rfl ?_
  refine Tl_q (JO_q rfl rfl (Jq_assign rfl rfl)) rfl ?_
  refine Tl_end ?_
  refine At_then ?_
  exact Tc_ret1 (fun _ _ h => h) rfl rfl rfl

set_option maxRecDepth 10000 in
theorem qunit (l : List Nat) : Ctr Tryz.prog 74 [V.one (natL l)] (R.one (V.one (Leaf.val (.bool (decide (l = [1])))))) := by
  refine Ctr.of_body Tryz.func74 rfl Tryz.ntmps74 (Nat.le_of_ble_eq_true rfl) (fun w0 A0 => ?_)
  refine Tc_seq ?_
  refine Tc_region ?_
  refine Tl_q (JO_q rfl rfl (Jq_assign rfl rfl)) rfl ?_
  refine Tl_end ?_
  refine At_then ?_
  refine Tc_seq ?_
  refine Tc_region ?_
  refine Tl_q (JO_q rfl rfl (Jq_move rfl rfl)) rfl ?_
  refine Tl_q (JO_q rfl rfl (Jq_len rfl rfl un23)) rfl ?_
  by_cases h1 : l.length = 1
  · skip
    refine Tl_q (JO_q rfl rfl (Jq_eql rfl rfl rfl (b := true) (eT (by omega)))) rfl ?_
    refine Tl_q (JO_q rfl rfl (Jq_move rfl rfl)) rfl ?_
    refine Tl_q (JO_qg rfl rfl rfl rfl (Jq_move rfl rfl)) rfl ?_
    obtain ⟨d, rfl⟩ : ∃ d, l = [d] := by
      match l, h1 with
      | [d], _ => exact ⟨d, rfl⟩
    refine Tl_q (JO_qg rfl rfl rfl rfl (Jq_index1 rfl rfl rfl un23 ty62 (by omega) (by simp) rfl)) rfl ?_
    refine Tl_q (JO_qg rfl rfl rfl rfl (Jq_load_ref rfl rfl ty62)) rfl ?_
    by_cases h2 : d = 1
    · skip
      refine Tl_q (JO_qg rfl rfl rfl rfl (Jq_eql rfl rfl rfl (b := true) (eT (by omega)))) rfl ?_
      refine Tl_q (JO_q rfl rfl (Jq_pick_t rfl rfl rfl)) rfl ?_
      refine Tl_q (JO_q rfl rfl (Jq_assign rfl rfl)) rfl ?_
      refine Tl_end ?_
      refine At_then ?_
      exact Tc_ret1 (fun _ _ h => h) rfl rfl (by rw [decide_eq_true (by rw [h2])])
    · skip
      refine Tl_q (JO_qg rfl rfl rfl rfl (Jq_eql rfl rfl rfl (b := false) (eF (by omega)))) rfl ?_
      refine Tl_q (JO_q rfl rfl (Jq_pick_t rfl rfl rfl)) rfl ?_
      refine Tl_q (JO_q rfl rfl (Jq_assign rfl rfl)) rfl ?_
      refine Tl_end ?_
      refine At_then ?_
      exact Tc_ret1 (fun _ _ h => h) rfl rfl (by rw [decide_eq_false (fun e => h2 (by simpa using e))])
  · skip
    refine Tl_q (JO_q rfl rfl (Jq_eql rfl rfl rfl (b := false) (eF (by omega)))) rfl ?_
    refine Tl_q (JO_q rfl rfl (Jq_move rfl rfl)) rfl ?_
    refine Tl_q (JO_skip rfl rfl rfl) rfl ?_
    refine Tl_q (JO_skip rfl rfl rfl) rfl ?_
    refine Tl_q (JO_skip rfl rfl rfl) rfl ?_
    refine Tl_q (JO_skip rfl rfl rfl) rfl ?_
    refine Tl_q (JO_q rfl rfl (Jq_pick_f rfl rfl rfl)) rfl ?_
    refine Tl_q (JO_q rfl rfl (Jq_assign rfl rfl)) rfl ?_
    refine Tl_end ?_
    refine At_then ?_
    exact Tc_ret1 (fun _ _ h => h) rfl rfl (by rw [decide_eq_false (fun e => h1 (by rw [e]; rfl))])

set_option maxRecDepth 10000 in
theorem qunder (x : Qr) (hfx : Fit 9000000000000 x) : Ctr Tryz.prog 48 [qV x] (R.one (V.one (natL (dl x.d)))) := by
  refine Ctr.of_body Tryz.func48 rfl Tryz.ntmps48 (Nat.le_of_ble_eq_true rfl) (fun w0 A0 => ?_)
  refine Tc_seq ?_
  refine Tc_region ?_
  refine Tl_e (JO_e rfl rfl (Je_box (n := 0) rfl rfl rfl)) rfl rfl ?_
  refine Tl_q (JO_q rfl rfl (Jq_assign_nil rfl)) rfl ?_
  refine Tl_end ?_
  refine At_then ?_
  refine Tc_seq ?_
  refine Tc_seq ?_
  refine Tc_region ?_
  refine Tl_q (JO_q rfl rfl (Jq_fieldAddr rfl rfl fo25_2 rfl)) rfl ?_
  refine Tl_q (JO_q rfl rfl (Jq_load rfl rfl rfl (by decide) ty23 rfl)) rfl ?_
  refine Tl_e (JO_e rfl rfl (Je_call rfl fn76 rfl (bits_w x.d x.hd (hfx.mono (by omega)).d (val x.d) rfl))) rfl rfl ?_
  by_cases h0 : bl (val x.d) = 0
  · skip
    refine Tl_q (JO_q rfl rfl (Jq_eql rfl rfl rfl (b := true) (eT (by omega)))) rfl ?_
    refine Tl_end ?_
    refine At_then ?_
    refine Tc_t rfl ?_
    refine Tc_seq ?_
    refine Tc_region ?_
    refine Tl_e (JO_e rfl rfl (Je_call rfl fn77 rfl (qone))) rfl rfl ?_
    refine Tl_q (JO_q rfl rfl (Jq_assign rfl rfl)) rfl ?_
    refine Tl_end ?_
    refine At_then ?_
    exact Tc_ret1 (fun _ _ h => h) rfl rfl (by rw [dl_zero h0])
  · skip
    refine Tl_q (JO_q rfl rfl (Jq_eql rfl rfl rfl (b := false) (eF (by omega)))) rfl ?_
    refine Tl_end ?_
    refine At_then ?_
    refine Tc_f rfl ?_
    refine Tc_skipA ?_
    refine At_then ?_
    refine Tc_seq ?_
    refine Tc_region ?_
    refine Tl_q (JO_q rfl rfl (Jq_fieldAddr rfl rfl fo25_2 rfl)) rfl ?_
    refine Tl_q (JO_q rfl rfl (Jq_load rfl rfl rfl (by decide) ty23 rfl)) rfl ?_
    refine Tl_q (JO_q rfl rfl (Jq_assign rfl rfl)) rfl ?_
    refine Tl_end ?_
    refine At_then ?_
    exact Tc_ret1 (fun _ _ h => h) rfl rfl (by rw [dl_of h0])

set_option maxRecDepth 10000 in
theorem qquot (b : Bool) (n d : List Nat) (hsn : Small n) (hsd : Small d) (hln : n.length ≤ 9000000000000) (hld : d.length ≤ 9000000000000) (vn vd : Nat) (hvn : val n = vn) (hvd : val d = vd) (h0 : vd ≠ 0) : Ctr Tryz.prog 46 [V.one (Leaf.val (.bool b)), V.one (natL n), V.one (natL d)] (R.one (qV (qOf (rq b vn vd)))) := by
  refine Ctr.of_body Tryz.func46 rfl Tryz.ntmps46 (Nat.le_of_ble_eq_true rfl) (fun w0 A0 => ?_)
  haveI i1 : Bn vn 9000000000000 := by subst hvn; exact Bn.val hsn hln
  haveI i2 : Bn vd 9000000000000 := by subst hvd; exact Bn.val hsd hld
  have hgp : Nat.gcd vn vd ≠ 0 := Nat.ne_of_gt (Nat.gcd_pos_of_pos_right _ (Nat.pos_of_ne_zero h0))
  haveI i3 : Bn (Nat.gcd vn vd) 9000000000000 := Bn.mono (Nat.le_of_dvd (Nat.pos_of_ne_zero h0) (Nat.gcd_dvd_right _ _)) i2
  refine Tc_seq ?_
  refine Tc_region ?_
  refine Tl_e (JO_e rfl rfl (Je_alloc (n := 0) rfl tz25 rfl)) rfl rfl ?_
  refine Tl_end ?_
  refine At_then ?_
  refine Tc_seq ?_
  refine Tc_region ?_
  refine Tl_q (JO_q rfl rfl (Jq_move rfl rfl)) rfl ?_
  refine Tl_e (JO_e rfl rfl (Je_call rfl fn73 rfl (make_w n hsn (Nat.le_trans hln (by omega)) (vn) hvn))) rfl rfl ?_
  refine Tl_q (JO_q rfl rfl (Jq_assign rfl rfl)) rfl ?_
  refine Tl_end ?_
  refine At_then ?_
  refine Tc_seq ?_
  refine Tc_seq ?_
  refine Tc_region ?_
  refine Tl_q (JO_q rfl rfl (Jq_move rfl rfl)) rfl ?_
  refine Tl_q (JO_q rfl rfl (Jq_len rfl rfl un23)) rfl ?_
  by_cases hn0 : vn = 0
  · skip
    refine Tl_q (JO_q rfl rfl (Jq_eql rfl rfl rfl (b := true) (eT (by rw [hn0, limbs_zero]; rfl)))) rfl ?_
    refine Tl_end ?_
    refine At_then ?_
    refine Tc_t rfl ?_
    refine Tc_seq ?_
    refine Tc_region ?_
    refine Tl_q (JO_q rfl rfl (Jq_build rfl tz25 rfl pl25 rfl)) rfl ?_
    refine Tl_e (JO_e rfl rfl (Je_store rfl rfl rfl rfl ty25 rfl (by decide) (Nat.le_of_ble_eq_true rfl) rfl)) rfl rfl ?_
    refine Tl_end ?_
    refine At_then ?_
    exact Tc_ret1 (fun _ _ h => h) rfl (⟨_, _, rfl, rfl, .inl ⟨ty25, Nat.le_of_ble_eq_true rfl, rfl⟩⟩) (by rw [hn0]; exact congrArg R.one (quot_zero b vd))
  · skip
    refine Tl_q (JO_q rfl rfl (Jq_eql rfl rfl rfl (b := false) (eF (by have := limbs_len_pos.2 hn0; omega)))) rfl ?_
    refine Tl_end ?_
    refine At_then ?_
    refine Tc_f rfl ?_
    refine Tc_skipA ?_
    refine At_then ?_
    refine Tc_seq ?_
    refine Tc_region ?_
    refine Tl_q (JO_q rfl rfl (Jq_move rfl rfl)) rfl ?_
    refine Tl_e (JO_e rfl rfl (Je_call rfl fn73 rfl (make_w d hsd (Nat.le_trans hld (by omega)) (vd) hvd))) rfl rfl ?_
    refine Tl_q (JO_q rfl rfl (Jq_assign rfl rfl)) rfl ?_
    refine Tl_end ?_
    refine At_then ?_
    refine Tc_seq ?_
    refine Tc_seq ?_
    refine Tc_region ?_
    refine Tl_q (JO_q rfl rfl (Jq_move rfl rfl)) rfl ?_
    refine Tl_e (JO_e rfl rfl (Je_call rfl fn74 rfl (qunit (limbs (vd))))) rfl rfl ?_
    refine Tl_end ?_
    refine At_then ?_
    refine Tc_cond rfl (fun hc17 => ?_) (fun hc17 => ?_)
    · skip
      refine Tc_seq ?_
      refine Tc_region ?_
      refine Tl_q (JO_q rfl rfl (Jq_move rfl rfl)) rfl ?_
      refine Tl_q (JO_q rfl rfl (Jq_move rfl rfl)) rfl ?_
      refine Tl_q (JO_q rfl rfl (Jq_build rfl tz25 rfl pl25 rfl)) rfl ?_
      refine Tl_e (JO_e rfl rfl (Je_store rfl rfl rfl rfl ty25 rfl (by decide) (Nat.le_of_ble_eq_true rfl) rfl)) rfl rfl ?_
      refine Tl_end ?_
      refine At_then ?_
      exact Tc_ret1 (fun _ _ h => h) rfl (⟨_, _, rfl, rfl, .inl ⟨ty25, Nat.le_of_ble_eq_true rfl, rfl⟩⟩) (by rw [quot_ret b hn0 h0]; have e1 : vd = 1 := limbs_eq_one.1 (of_decide_eq_true hc17); subst e1; simp only [Nat.gcd_one_right, Nat.div_one, if_true, limbs_zero]; rfl)
    · skip
      refine Tc_skipA ?_
      refine At_then ?_
      refine Tc_seq ?_
      refine Tc_seq ?_
      have hd1 : vd ≠ 1 := fun e => of_decide_eq_false hc17 (limbs_eq_one.2 e)
      refine Tc_region ?_
      refine Tl_q (JO_q rfl rfl (Jq_move rfl rfl)) rfl ?_
      refine Tl_q (JO_q rfl rfl (Jq_move rfl rfl)) rfl ?_
      refine Tl_e (JO_e rfl rfl (Je_call rfl fn75 rfl (gcd_w (limbs (vn)) (small_limbs _) (Bn.use (by omega)) (limbs (vd)) (small_limbs _) (Bn.use (by omega)) (vn) (val_limbs _) (vd) (val_limbs _)))) rfl rfl ?_
      refine Tl_q (JO_q rfl rfl (Jq_assign rfl rfl)) rfl ?_
      refine Tl_end ?_
      refine At_then ?_
      refine Tc_seq ?_
      by_cases hg : Nat.gcd vn vd = 1
      · skip
        refine Tc_region ?_
        refine Tl_q (JO_q rfl rfl (Jq_move rfl rfl)) rfl ?_
        refine Tl_e (JO_e rfl rfl (Je_call rfl fn74 rfl (qunit (limbs (Nat.gcd (vn) (vd)))))) rfl rfl ?_
        refine Tl_is true (decide_eq_true (limbs_eq_one.2 hg)) ?_
        refine Tl_q (JO_q rfl rfl (Jq_not rfl rfl (c := false) rfl)) rfl ?_
        refine Tl_end ?_
        refine At_then ?_
        refine Tc_f rfl ?_
        refine Tc_skipA ?_
        refine At_then ?_
        refine Tc_seq ?_
        refine Tc_seq ?_
        refine Tc_region ?_
        refine Tl_q (JO_q rfl rfl (Jq_move rfl rfl)) rfl ?_
        refine Tl_e (JO_e rfl rfl (Je_call rfl fn74 rfl (qunit (limbs (vd))))) rfl rfl ?_
        refine Tl_is false (decide_eq_false (fun e => hd1 (limbs_eq_one.1 e))) ?_
        refine Tl_end ?_
        refine At_then ?_
        refine Tc_f rfl ?_
        refine Tc_skipA ?_
        refine At_then ?_
        refine Tc_seq ?_
        refine Tc_region ?_
        refine Tl_q (JO_q rfl rfl (Jq_move rfl rfl)) rfl ?_
        refine Tl_q (JO_q rfl rfl (Jq_move rfl rfl)) rfl ?_
        refine Tl_q (JO_q rfl rfl (Jq_move rfl rfl)) rfl ?_
        refine Tl_q (JO_q rfl rfl (Jq_build rfl tz25 rfl pl25 rfl)) rfl ?_
        refine Tl_e (JO_e rfl rfl (Je_store rfl rfl rfl rfl ty25 rfl (by decide) (Nat.le_of_ble_eq_true rfl) rfl)) rfl rfl ?_
        refine Tl_end ?_
        refine At_then ?_
        exact Tc_ret1 (fun _ _ h => h) rfl (⟨_, _, rfl, rfl, .inl ⟨ty25, Nat.le_of_ble_eq_true rfl, rfl⟩⟩) (by rw [quot_ret b hn0 h0]; simp only [hg, Nat.div_one, if_neg hd1]; rfl)
      · skip
        refine Tc_region ?_
        refine Tl_q (JO_q rfl rfl (Jq_move rfl rfl)) rfl ?_
        refine Tl_e (JO_e rfl rfl (Je_call rfl fn74 rfl (qunit (limbs (Nat.gcd (vn) (vd)))))) rfl rfl ?_
        refine Tl_is false (decide_eq_false (fun e => hg (limbs_eq_one.1 e))) ?_
        refine Tl_q (JO_q rfl rfl (Jq_not rfl rfl (c := true) rfl)) rfl ?_
        refine Tl_end ?_
        refine At_then ?_
        refine Tc_t rfl ?_
        refine Tc_seq ?_
        refine Tc_region ?_
        refine Tl_q (JO_q rfl rfl (Jq_move rfl rfl)) rfl ?_
        refine Tl_q (JO_q rfl rfl (Jq_move rfl rfl)) rfl ?_
        refine Tl_e (JO_e rfl rfl (Je_call rfl fn55 rfl (divmod_w (limbs (vn)) (limbs (Nat.gcd vn vd)) (small_limbs _) (small_limbs _) (Bn.use (by omega)) (Bn.use (by omega)) (vn) (Nat.gcd vn vd) (val_limbs _) (val_limbs _) hgp))) rfl rfl ?_
        refine Tl_q (JO_q rfl rfl (Jq_move rfl rfl)) rfl ?_
        refine Tl_q (JO_q rfl rfl (Jq_extract rfl rfl rfl)) rfl ?_
        refine Tl_q (JO_q rfl rfl (Jq_extract rfl rfl rfl)) rfl ?_
        refine Tl_q (JO_q rfl rfl (Jq_extract rfl rfl rfl)) rfl ?_
        refine Tl_q (JO_q rfl rfl (Jq_assign rfl rfl)) rfl ?_
        refine Tl_end ?_
        refine At_then ?_
        refine Tc_region ?_
        refine Tl_q (JO_q rfl rfl (Jq_move rfl rfl)) rfl ?_
        refine Tl_q (JO_q rfl rfl (Jq_move rfl rfl)) rfl ?_
        refine Tl_e (JO_e rfl rfl (Je_call rfl fn55 rfl (divmod_w (limbs (vd)) (limbs (Nat.gcd vn vd)) (small_limbs _) (small_limbs _) (Bn.use (by omega)) (Bn.use (by omega)) (vd) (Nat.gcd vn vd) (val_limbs _) (val_limbs _) hgp))) rfl rfl ?_
        refine Tl_q (JO_q rfl rfl (Jq_move rfl rfl)) rfl ?_
        refine Tl_q (JO_q rfl rfl (Jq_extract rfl rfl rfl)) rfl ?_
        refine Tl_q (JO_q rfl rfl (Jq_extract rfl rfl rfl)) rfl ?_
        refine Tl_q (JO_q rfl rfl (Jq_extract rfl rfl rfl)) rfl ?_
        refine Tl_q (JO_q rfl rfl (Jq_assign rfl rfl)) rfl ?_
        refine Tl_end ?_
        refine At_then ?_
        refine Tc_seq ?_
        refine Tc_seq ?_
        by_cases hq : vd / Nat.gcd vn vd = 1
        · skip
          refine Tc_region ?_
          refine Tl_q (JO_q rfl rfl (Jq_move rfl rfl)) rfl ?_
          refine Tl_e (JO_e rfl rfl (Je_call rfl fn74 rfl (qunit (limbs (vd / (Nat.gcd vn vd)))))) rfl rfl ?_
          refine Tl_is true (decide_eq_true (limbs_eq_one.2 hq)) ?_
          refine Tl_end ?_
          refine At_then ?_
          refine Tc_t rfl ?_
          refine Tc_region ?_
          refine Tl_q (JO_q rfl rfl (Jq_assign_nil rfl)) rfl ?_
          refine Tl_end ?_
          refine At_then ?_
          refine Tc_seq ?_
          refine Tc_region ?_
          refine Tl_q (JO_q rfl rfl (Jq_move rfl rfl)) rfl ?_
          refine Tl_q (JO_q rfl rfl (Jq_move rfl rfl)) rfl ?_
          refine Tl_q (JO_q rfl rfl (Jq_move rfl rfl)) rfl ?_
          refine Tl_q (JO_q rfl rfl (Jq_build rfl tz25 rfl pl25 rfl)) rfl ?_
          refine Tl_e (JO_e rfl rfl (Je_store rfl rfl rfl rfl ty25 rfl (by decide) (Nat.le_of_ble_eq_true rfl) rfl)) rfl rfl ?_
          refine Tl_end ?_
          refine At_then ?_
          exact Tc_ret1 (fun _ _ h => h) rfl (⟨_, _, rfl, rfl, .inl ⟨ty25, Nat.le_of_ble_eq_true rfl, rfl⟩⟩) (by rw [quot_ret b hn0 h0]; rw [if_pos hq, limbs_zero]; rfl)
        · skip
          refine Tc_region ?_
          refine Tl_q (JO_q rfl rfl (Jq_move rfl rfl)) rfl ?_
          refine Tl_e (JO_e rfl rfl (Je_call rfl fn74 rfl (qunit (limbs (vd / (Nat.gcd vn vd)))))) rfl rfl ?_
          refine Tl_is false (decide_eq_false (fun e => hq (limbs_eq_one.1 e))) ?_
          refine Tl_end ?_
          refine At_then ?_
          refine Tc_f rfl ?_
          refine Tc_skipA ?_
          refine At_then ?_
          refine Tc_seq ?_
          refine Tc_region ?_
          refine Tl_q (JO_q rfl rfl (Jq_move rfl rfl)) rfl ?_
          refine Tl_q (JO_q rfl rfl (Jq_move rfl rfl)) rfl ?_
          refine Tl_q (JO_q rfl rfl (Jq_move rfl rfl)) rfl ?_
          refine Tl_q (JO_q rfl rfl (Jq_build rfl tz25 rfl pl25 rfl)) rfl ?_
          refine Tl_e (JO_e rfl rfl (Je_store rfl rfl rfl rfl ty25 rfl (by decide) (Nat.le_of_ble_eq_true rfl) rfl)) rfl rfl ?_
          refine Tl_end ?_
          refine At_then ?_
          exact Tc_ret1 (fun _ _ h => h) rfl (⟨_, _, rfl, rfl, .inl ⟨ty25, Nat.le_of_ble_eq_true rfl, rfl⟩⟩) (by rw [quot_ret b hn0 h0]; rw [if_neg hq]; rfl)

set_option maxRecDepth 10000 in
theorem rqone (d : List Nat) (hs : Small d) (hl : d.length ≤ 9000000000000) : Ctr Tryz.prog 68 [V.one (natL d)] (R.one (V.one (natL (limbs (dn (val d)))))) := by
  refine Ctr.of_body Tryz.func68 rfl Tryz.ntmps68 (Nat.le_of_ble_eq_true rfl) (fun w0 A0 => ?_)
  haveI i1 : Bn (val d) 9000000000000 := Bn.val hs hl
  refine Tc_seq ?_
  refine Tc_region ?_
  refine Tl_q (JO_q rfl rfl (Jq_assign_nil rfl)) rfl ?_
  refine Tl_end ?_
  refine At_then ?_
  refine Tc_seq ?_
  refine Tc_region ?_
  refine Tl_q (JO_q rfl rfl (Jq_move rfl rfl)) rfl ?_
  refine Tl_e (JO_e rfl rfl (Je_call rfl fn91 rfl (rmake_w d hs (Nat.le_trans hl (by omega)) (val d) rfl))) rfl rfl ?_
  refine Tl_q (JO_q rfl rfl (Jq_assign rfl rfl)) rfl ?_
  refine Tl_end ?_
  refine At_then ?_
  refine Tc_seq ?_
  refine Tc_seq ?_
  refine Tc_region ?_
  refine Tl_q (JO_q rfl rfl (Jq_move rfl rfl)) rfl ?_
  refine Tl_q (JO_q rfl rfl (Jq_len rfl rfl un23)) rfl ?_
  by_cases h0 : val d = 0
  · skip
    refine Tl_q (JO_q rfl rfl (Jq_eql rfl rfl rfl (b := true) (eT (by rw [h0, limbs_zero]; rfl)))) rfl ?_
    refine Tl_end ?_
    refine At_then ?_
    refine Tc_t rfl ?_
    refine Tc_seq ?_
    refine Tc_region ?_
    refine Tl_e (JO_e rfl rfl (Je_buildSlice rfl un23 ty62 tz62 rfl (by decide) (by decide) rfl (by decide) rfl)) rfl rfl ?_
    refine Tl_q (JO_q rfl rfl (Jq_assign rfl rfl)) rfl ?_
    refine Tl_end ?_
    refine At_then ?_
    exact Tc_ret1 (fun _ _ h => h) rfl rfl (by rw [h0]; show R.one (V.one (natL [1])) = R.one (V.one (natL (limbs 1))); rw [limbs_one])
  · skip
    refine Tl_q (JO_q rfl rfl (Jq_eql rfl rfl rfl (b := false) (eF (by have := limbs_len_pos.2 h0; omega)))) rfl ?_
    refine Tl_end ?_
    refine At_then ?_
    refine Tc_f rfl ?_
    refine Tc_skipA ?_
    refine At_then ?_
    refine Tc_seq ?_
    refine Tc_region ?_
    refine Tl_q (JO_q rfl rfl (Jq_move rfl rfl)) rfl ?_
    refine Tl_q (JO_q rfl rfl (Jq_assign rfl rfl)) rfl ?_
    refine Tl_end ?_
    refine At_then ?_
    exact Tc_ret1 (fun _ _ h => h) rfl rfl (by rw [dn_of h0])

theorem rqone_w (d : List Nat) (hs : Small d) (hl : d.length ≤ 9000000000000) (m : Nat) (hm : val d = m) : Ctr Tryz.prog 68 [V.one (natL d)] (R.one (V.one (natL (limbs (dn m))))) := by
  subst hm; exact rqone d hs hl

set_option maxRecDepth 10000 in
theorem rqquot (b : Bool) (n d : List Nat) (hsn : Small n) (hsd : Small d) (hln : n.length ≤ 8000000000000) (hld : d.length ≤ 8000000000000) (vn vd : Nat) (hvn : val n = vn) (hvd : val d = vd) (h0 : vd ≠ 0) : Ctr Tryz.prog 67 [V.one (Leaf.val (.bool b)), V.one (natL n), V.one (natL d)] (R.one (qV (qOf (rq b vn vd)))) := by
  refine Ctr.of_body Tryz.func67 rfl Tryz.ntmps67 (Nat.le_of_ble_eq_true rfl) (fun w0 A0 => ?_)
  haveI i1 : Bn vn 8000000000000 := by subst hvn; exact Bn.val hsn hln
  haveI i2 : Bn vd 8000000000000 := by subst hvd; exact Bn.val hsd hld
  have hgp : Nat.gcd vn vd ≠ 0 := Nat.ne_of_gt (Nat.gcd_pos_of_pos_right _ (Nat.pos_of_ne_zero h0))
  haveI i3 : Bn (Nat.gcd vn vd) 8000000000000 := Bn.mono (Nat.le_of_dvd (Nat.pos_of_ne_zero h0) (Nat.gcd_dvd_right _ _)) i2
  refine Tc_seq ?_
  refine Tc_region ?_
  refine Tl_e (JO_e rfl rfl (Je_alloc (n := 0) rfl tz25 rfl)) rfl rfl ?_
  refine Tl_end ?_
  refine At_then ?_
  refine Tc_seq ?_
  refine Tc_region ?_
  refine Tl_q (JO_q rfl rfl (Jq_move rfl rfl)) rfl ?_
  refine Tl_q (JO_q rfl rfl (Jq_move rfl rfl)) rfl ?_
  refine Tl_e (JO_e rfl rfl (Je_call rfl fn96 rfl (rgcd_w n hsn (Nat.le_trans hln (by omega)) d hsd (Nat.le_trans hld (by omega)) (vn) hvn (vd) hvd))) rfl rfl ?_
  refine Tl_q (JO_q rfl rfl (Jq_assign rfl rfl)) rfl ?_
  refine Tl_end ?_
  refine At_then ?_
  refine Tc_seq ?_
  obtain ⟨N1, hN1⟩ : ∃ N1, vn / Nat.gcd vn vd = N1 := ⟨_, rfl⟩
  obtain ⟨D1, hD1⟩ : ∃ D1, vd / Nat.gcd vn vd = D1 := ⟨_, rfl⟩
  have hND : N1 = 0 ↔ vn = 0 := by
    constructor
    · intro e; exact Classical.byContradiction (fun h => div_ne h (Nat.gcd_dvd_left vn vd) (by rw [hN1, e]))
    · intro e; rw [← hN1, e, Nat.zero_div]
  refine Tc_region ?_
  refine Tl_q (JO_q rfl rfl (Jq_move rfl rfl)) rfl ?_
  refine Tl_q (JO_q rfl rfl (Jq_move rfl rfl)) rfl ?_
  refine Tl_e (JO_e rfl rfl (Je_call rfl fn93 rfl (rdivmod_w n (limbs (Nat.gcd vn vd)) hsn (small_limbs _) (Nat.le_trans hln (by omega)) (Bn.use (by omega)) (vn) (Nat.gcd vn vd) hvn (val_limbs _) hgp))) rfl rfl ?_
  refine Tl_q (JO_q rfl rfl (Jq_move rfl rfl)) rfl ?_
  refine Tl_q (JO_q rfl rfl (Jq_extract rfl rfl rfl)) rfl ?_
  refine Tl_q (JO_q rfl rfl (Jq_extract rfl rfl rfl)) rfl ?_
  refine Tl_q (JO_q rfl rfl (Jq_extract rfl rfl rfl)) rfl ?_
  refine Tl_q (JO_q rfl rfl (Jq_assign rfl rfl)) rfl ?_
  refine Tl_q (JO_q rfl rfl (Jq_assign rfl rfl)) rfl ?_
  refine Tl_q (JO_q rfl rfl (Jq_assign rfl rfl)) rfl ?_
  refine Tl_end ?_
  refine At_then ?_
  refine Tc_seq ?_
  refine Tc_region ?_
  refine Tl_q (JO_q rfl rfl (Jq_move rfl rfl)) rfl ?_
  refine Tl_q (JO_q rfl rfl (Jq_move rfl rfl)) rfl ?_
  refine Tl_e (JO_e rfl rfl (Je_call rfl fn93 rfl (rdivmod_w d (limbs (Nat.gcd vn vd)) hsd (small_limbs _) (Nat.le_trans hld (by omega)) (Bn.use (by omega)) (vd) (Nat.gcd vn vd) hvd (val_limbs _) hgp))) rfl rfl ?_
  refine Tl_q (JO_q rfl rfl (Jq_move rfl rfl)) rfl ?_
  refine Tl_q (JO_q rfl rfl (Jq_extract rfl rfl rfl)) rfl ?_
  refine Tl_q (JO_q rfl rfl (Jq_extract rfl rfl rfl)) rfl ?_
  refine Tl_q (JO_q rfl rfl (Jq_extract rfl rfl rfl)) rfl ?_
  refine Tl_q (JO_q rfl rfl (Jq_assign rfl rfl)) rfl ?_
  refine Tl_q (JO_q rfl rfl (Jq_assign rfl rfl)) rfl ?_
  refine Tl_q (JO_q rfl rfl (Jq_assign rfl rfl)) rfl ?_
  refine Tl_end ?_
  refine At_then ?_
  refine Tc_seq ?_
  refine Tc_seq ?_
  refine Tc_region ?_
  refine Tl_q (JO_q rfl rfl (Jq_move rfl rfl)) rfl ?_
  refine Tl_q (JO_q rfl rfl (Jq_len rfl rfl un23)) rfl ?_
  by_cases h1 : (limbs (vd / Nat.gcd vn vd)).length = 1
  · skip
    refine Tl_q (JO_q rfl rfl (Jq_eql rfl rfl rfl (b := true) (eT (by omega)))) rfl ?_
    refine Tl_q (JO_q rfl rfl (Jq_move rfl rfl)) rfl ?_
    refine Tl_q (JO_qg rfl rfl rfl rfl (Jq_move rfl rfl)) rfl ?_
    obtain ⟨p, hp⟩ : ∃ p, limbs (vd / Nat.gcd vn vd) = [p] := by
      match limbs (vd / Nat.gcd vn vd), h1 with
      | [p], _ => exact ⟨p, rfl⟩
    have hp1 := val_limbs (vd / Nat.gcd vn vd)
    rw [hp] at hp1 ⊢
    have hp2 : vd / Nat.gcd vn vd = p := by rw [← hp1]; simp [val]
    refine Tl_q (JO_qg rfl rfl rfl rfl (Jq_index1 rfl rfl rfl un23 ty62 (by omega) (by simp) rfl)) rfl ?_
    refine Tl_q (JO_qg rfl rfl rfl rfl (Jq_load_ref rfl rfl ty62)) rfl ?_
    by_cases h2 : p = 1
    · skip
      refine Tl_q (JO_qg rfl rfl rfl rfl (Jq_eql rfl rfl rfl (b := true) (eT (by omega)))) rfl ?_
      refine Tl_q (JO_q rfl rfl (Jq_pick_t rfl rfl rfl)) rfl ?_
      refine Tl_end ?_
      refine At_then ?_
      refine Tc_t rfl ?_
      refine Tc_region ?_
      refine Tl_q (JO_q rfl rfl (Jq_assign_nil rfl)) rfl ?_
      refine Tl_end ?_
      refine At_then ?_
      refine Tc_seq ?_
      refine Tc_region ?_
      refine Tl_q (JO_q rfl rfl (Jq_move rfl rfl)) rfl ?_
      refine Tl_q (JO_q rfl rfl (Jq_move rfl rfl)) rfl ?_
      refine Tl_two (fun hb41 => ?_) (fun hb41 => ?_)
      · skip
        refine Tl_q (JO_skip rfl rfl rfl) rfl ?_
        refine Tl_q (JO_skip rfl rfl rfl) rfl ?_
        refine Tl_q (JO_skip rfl rfl rfl) rfl ?_
        refine Tl_q (JO_q rfl rfl (Jq_pick_f rfl rfl rfl)) rfl ?_
        refine Tl_q (JO_q rfl rfl (Jq_move rfl rfl)) rfl ?_
        refine Tl_q (JO_q rfl rfl (Jq_move rfl rfl)) rfl ?_
        refine Tl_q (JO_q rfl rfl (Jq_build rfl tz25 rfl pl25 rfl)) rfl ?_
        refine Tl_e (JO_e rfl rfl (Je_store rfl rfl rfl rfl ty25 rfl (by decide) (Nat.le_of_ble_eq_true rfl) rfl)) rfl rfl ?_
        refine Tl_end ?_
        refine At_then ?_
        exact Tc_ret1 (fun _ _ h => h) rfl (⟨_, _, rfl, rfl, .inl ⟨ty25, Nat.le_of_ble_eq_true rfl, rfl⟩⟩) (by rw [quot_ret' b h0, hb41, if_pos (by rw [hp2, h2]), limbs_zero]; rfl)
      · skip
        refine Tl_q (JO_qg rfl rfl rfl rfl (Jq_move rfl rfl)) rfl ?_
        refine Tl_q (JO_qg rfl rfl rfl rfl (Jq_len rfl rfl un23)) rfl ?_
        refine Tl_q (JO_qg rfl rfl rfl rfl (Jq_gtr rfl rfl rfl (b := _) (rfl))) rfl ?_
        refine Tl_q (JO_q rfl rfl (Jq_pick_t rfl rfl rfl)) rfl ?_
        refine Tl_q (JO_q rfl rfl (Jq_move rfl rfl)) rfl ?_
        refine Tl_q (JO_q rfl rfl (Jq_move rfl rfl)) rfl ?_
        refine Tl_q (JO_q rfl rfl (Jq_build rfl tz25 rfl pl25 rfl)) rfl ?_
        refine Tl_e (JO_e rfl rfl (Je_store rfl rfl rfl rfl ty25 rfl (by decide) (Nat.le_of_ble_eq_true rfl) rfl)) rfl rfl ?_
        refine Tl_end ?_
        refine At_then ?_
        exact Tc_ret1 (fun _ _ h => h) rfl (⟨_, _, rfl, rfl, .inl ⟨ty25, Nat.le_of_ble_eq_true rfl, rfl⟩⟩) (by rw [quot_ret' b h0, hb41, if_pos (by rw [hp2, h2]), limbs_zero, Bool.true_and, decide_eq_decide.2 (show vn ≠ 0 ↔ (0 : Int) < ((limbs (vn / Nat.gcd vn vd)).length : Nat) by have := limbs_len_pos (n := vn / Nat.gcd vn vd); rw [hN1] at this ⊢; omega)]; rfl)
    · skip
      refine Tl_q (JO_qg rfl rfl rfl rfl (Jq_eql rfl rfl rfl (b := false) (eF (by omega)))) rfl ?_
      refine Tl_q (JO_q rfl rfl (Jq_pick_t rfl rfl rfl)) rfl ?_
      refine Tl_end ?_
      refine At_then ?_
      refine Tc_f rfl ?_
      refine Tc_skipA ?_
      refine At_then ?_
      refine Tc_seq ?_
      refine Tc_region ?_
      refine Tl_q (JO_q rfl rfl (Jq_move rfl rfl)) rfl ?_
      refine Tl_q (JO_q rfl rfl (Jq_move rfl rfl)) rfl ?_
      refine Tl_two (fun hb41 => ?_) (fun hb41 => ?_)
      · skip
        refine Tl_q (JO_skip rfl rfl rfl) rfl ?_
        refine Tl_q (JO_skip rfl rfl rfl) rfl ?_
        refine Tl_q (JO_skip rfl rfl rfl) rfl ?_
        refine Tl_q (JO_q rfl rfl (Jq_pick_f rfl rfl rfl)) rfl ?_
        refine Tl_q (JO_q rfl rfl (Jq_move rfl rfl)) rfl ?_
        refine Tl_q (JO_q rfl rfl (Jq_move rfl rfl)) rfl ?_
        refine Tl_q (JO_q rfl rfl (Jq_build rfl tz25 rfl pl25 rfl)) rfl ?_
        refine Tl_e (JO_e rfl rfl (Je_store rfl rfl rfl rfl ty25 rfl (by decide) (Nat.le_of_ble_eq_true rfl) rfl)) rfl rfl ?_
        refine Tl_end ?_
        refine At_then ?_
        exact Tc_ret1 (fun _ _ h => h) rfl (⟨_, _, rfl, rfl, .inl ⟨ty25, Nat.le_of_ble_eq_true rfl, rfl⟩⟩) (by rw [quot_ret' b h0, hb41, if_neg (by rw [hp2]; exact h2), hp]; rfl)
      · skip
        refine Tl_q (JO_qg rfl rfl rfl rfl (Jq_move rfl rfl)) rfl ?_
        refine Tl_q (JO_qg rfl rfl rfl rfl (Jq_len rfl rfl un23)) rfl ?_
        refine Tl_q (JO_qg rfl rfl rfl rfl (Jq_gtr rfl rfl rfl (b := _) (rfl))) rfl ?_
        refine Tl_q (JO_q rfl rfl (Jq_pick_t rfl rfl rfl)) rfl ?_
        refine Tl_q (JO_q rfl rfl (Jq_move rfl rfl)) rfl ?_
        refine Tl_q (JO_q rfl rfl (Jq_move rfl rfl)) rfl ?_
        refine Tl_q (JO_q rfl rfl (Jq_build rfl tz25 rfl pl25 rfl)) rfl ?_
        refine Tl_e (JO_e rfl rfl (Je_store rfl rfl rfl rfl ty25 rfl (by decide) (Nat.le_of_ble_eq_true rfl) rfl)) rfl rfl ?_
        refine Tl_end ?_
        refine At_then ?_
        exact Tc_ret1 (fun _ _ h => h) rfl (⟨_, _, rfl, rfl, .inl ⟨ty25, Nat.le_of_ble_eq_true rfl, rfl⟩⟩) (by rw [quot_ret' b h0, hb41, if_neg (by rw [hp2]; exact h2), hp, Bool.true_and, decide_eq_decide.2 (show vn ≠ 0 ↔ (0 : Int) < ((limbs (vn / Nat.gcd vn vd)).length : Nat) by have := limbs_len_pos (n := vn / Nat.gcd vn vd); rw [hN1] at this ⊢; omega)]; rfl)
  · skip
    refine Tl_q (JO_q rfl rfl (Jq_eql rfl rfl rfl (b := false) (eF (by omega)))) rfl ?_
    refine Tl_q (JO_q rfl rfl (Jq_move rfl rfl)) rfl ?_
    refine Tl_q (JO_skip rfl rfl rfl) rfl ?_
    refine Tl_q (JO_skip rfl rfl rfl) rfl ?_
    refine Tl_q (JO_skip rfl rfl rfl) rfl ?_
    refine Tl_q (JO_skip rfl rfl rfl) rfl ?_
    refine Tl_q (JO_q rfl rfl (Jq_pick_f rfl rfl rfl)) rfl ?_
    refine Tl_end ?_
    refine At_then ?_
    refine Tc_f rfl ?_
    refine Tc_skipA ?_
    refine At_then ?_
    refine Tc_seq ?_
    have h2 : ¬ vd / Nat.gcd vn vd = 1 := fun e => h1 (by rw [e, limbs_one]; rfl)
    refine Tc_region ?_
    refine Tl_q (JO_q rfl rfl (Jq_move rfl rfl)) rfl ?_
    refine Tl_q (JO_q rfl rfl (Jq_move rfl rfl)) rfl ?_
    refine Tl_two (fun hb41 => ?_) (fun hb41 => ?_)
    · skip
      refine Tl_q (JO_skip rfl rfl rfl) rfl ?_
      refine Tl_q (JO_skip rfl rfl rfl) rfl ?_
      refine Tl_q (JO_skip rfl rfl rfl) rfl ?_
      refine Tl_q (JO_q rfl rfl (Jq_pick_f rfl rfl rfl)) rfl ?_
      refine Tl_q (JO_q rfl rfl (Jq_move rfl rfl)) rfl ?_
      refine Tl_q (JO_q rfl rfl (Jq_move rfl rfl)) rfl ?_
      refine Tl_q (JO_q rfl rfl (Jq_build rfl tz25 rfl pl25 rfl)) rfl ?_
      refine Tl_e (JO_e rfl rfl (Je_store rfl rfl rfl rfl ty25 rfl (by decide) (Nat.le_of_ble_eq_true rfl) rfl)) rfl rfl ?_
      refine Tl_end ?_
      refine At_then ?_
      exact Tc_ret1 (fun _ _ h => h) rfl (⟨_, _, rfl, rfl, .inl ⟨ty25, Nat.le_of_ble_eq_true rfl, rfl⟩⟩) (by rw [quot_ret' b h0, hb41, if_neg h2]; rfl)
    · skip
      refine Tl_q (JO_qg rfl rfl rfl rfl (Jq_move rfl rfl)) rfl ?_
      refine Tl_q (JO_qg rfl rfl rfl rfl (Jq_len rfl rfl un23)) rfl ?_
      refine Tl_q (JO_qg rfl rfl rfl rfl (Jq_gtr rfl rfl rfl (b := _) (rfl))) rfl ?_
      refine Tl_q (JO_q rfl rfl (Jq_pick_t rfl rfl rfl)) rfl ?_
      refine Tl_q (JO_q rfl rfl (Jq_move rfl rfl)) rfl ?_
      refine Tl_q (JO_q rfl rfl (Jq_move rfl rfl)) rfl ?_
      refine Tl_q (JO_q rfl rfl (Jq_build rfl tz25 rfl pl25 rfl)) rfl ?_
      refine Tl_e (JO_e rfl rfl (Je_store rfl rfl rfl rfl ty25 rfl (by decide) (Nat.le_of_ble_eq_true rfl) rfl)) rfl rfl ?_
      refine Tl_end ?_
      refine At_then ?_
      exact Tc_ret1 (fun _ _ h => h) rfl (⟨_, _, rfl, rfl, .inl ⟨ty25, Nat.le_of_ble_eq_true rfl, rfl⟩⟩) (by rw [quot_ret' b h0, hb41, if_neg h2, Bool.true_and, decide_eq_decide.2 (show vn ≠ 0 ↔ (0 : Int) < ((limbs (vn / Nat.gcd vn vd)).length : Nat) by have := limbs_len_pos (n := vn / Nat.gcd vn vd); rw [hN1] at this ⊢; omega)]; rfl)

set_option maxRecDepth 10000 in
theorem qcanon (x : Qr) (r : Rat) (hr : x.q = r) (hfx : Fit 3000000000000 x) : Ctr Tryz.prog 36 [qV x] (R.one (qV (qOf (r)))) := by
  refine Ctr.of_body Tryz.func36 rfl Tryz.ntmps36 (Nat.le_of_ble_eq_true rfl) (fun w0 A0 => ?_)
  haveI ixn : Bn (val x.n) 3000000000000 := Bn.val x.hn hfx.n
  haveI ixd : Bn (val x.d) 3000000000000 := Bn.val x.hd hfx.d
  refine Tc_seq ?_
  refine Tc_region ?_
  refine Tl_e (JO_e rfl rfl (Je_box (n := 0) rfl rfl rfl)) rfl rfl ?_
  refine Tl_e (JO_e rfl rfl (Je_alloc (n := 1) rfl tz25 rfl)) rfl rfl ?_
  refine Tl_end ?_
  refine At_then ?_
  refine Tc_seq ?_
  refine Tc_drawK 0 [none, none, none, none, none, none, none, some 1] [1] follows (by kernel_rfl) ?_
  refine DK_q (JO_q rfl rfl (Jq_fieldAddr rfl rfl fo25_0 rfl)) ?_
  refine DK_q (JO_q rfl rfl (Jq_load rfl rfl rfl (by decide) ty4 rfl)) ?_
  refine DK_q (JO_q rfl rfl (Jq_fieldAddr rfl rfl fo25_1 rfl)) ?_
  refine DK_q (JO_q rfl rfl (Jq_load rfl rfl rfl (by decide) ty23 rfl)) ?_
  refine DK_q (JO_q rfl rfl (Jq_load_agg rfl rfl rfl (by decide) ty25 (by decide) (Nat.le_of_ble_eq_true rfl) rfl)) ?_
  refine DK_c rfl rfl (Jd_call rfl fn48 rfl (qunder x (hfx.mono (by omega)))) ?_
  refine DK_c rfl rfl (Jd_call rfl fn46 rfl (qquot x.neg x.n (dl x.d) x.hn (small_dl x.hd) (hfx.mono (by omega)).n (len_dl hfx.d (by omega)) (val x.n) (dn (val x.d)) rfl (val_dl _) (dn_ne _))) ?_
  refine DK_s 1 rfl rfl rfl (Jd_store rfl rfl rfl rfl ty25 rfl (by decide) (Nat.le_of_ble_eq_true rfl) rfl) ?_
  refine DK_nil ?_
  refine At_then ?_
  exact Tc_ret1 (fun _ _ h => h) rfl (⟨_, _, rfl, rfl, .inl ⟨ty25, Nat.le_of_ble_eq_true rfl, rfl⟩⟩) (by subst hr; rw [rq_dn]; rfl)

set_option maxRecDepth 10000 in
theorem rqcanon (x : Qr) (r : Rat) (hr : x.q = r) (hfx : Fit 3000000000000 x) : Ctr Tryz.prog 41 [qV x] (R.one (qV (qOf (r)))) := by
  refine Ctr.of_body Tryz.func41 rfl Tryz.ntmps41 (Nat.le_of_ble_eq_true rfl) (fun w0 A0 => ?_)
  haveI ixn : Bn (val x.n) 3000000000000 := Bn.val x.hn hfx.n
  haveI ixd : Bn (val x.d) 3000000000000 := Bn.val x.hd hfx.d
  refine Tc_seq ?_
  refine Tc_region ?_
  refine Tl_e (JO_e rfl rfl (Je_box (n := 0) rfl rfl rfl)) rfl rfl ?_
  refine Tl_e (JO_e rfl rfl (Je_alloc (n := 1) rfl tz25 rfl)) rfl rfl ?_
  refine Tl_end ?_
  refine At_then ?_
  refine Tc_seq ?_
  refine Tc_drawK 0 [none, none, none, none, none, none, none, none, some 1] [1] follows (by kernel_rfl) ?_
  refine DK_q (JO_q rfl rfl (Jq_fieldAddr rfl rfl fo25_0 rfl)) ?_
  refine DK_q (JO_q rfl rfl (Jq_load rfl rfl rfl (by decide) ty4 rfl)) ?_
  refine DK_q (JO_q rfl rfl (Jq_fieldAddr rfl rfl fo25_1 rfl)) ?_
  refine DK_q (JO_q rfl rfl (Jq_load rfl rfl rfl (by decide) ty23 rfl)) ?_
  refine DK_q (JO_q rfl rfl (Jq_fieldAddr rfl rfl fo25_2 rfl)) ?_
  refine DK_q (JO_q rfl rfl (Jq_load rfl rfl rfl (by decide) ty23 rfl)) ?_
  refine DK_c rfl rfl (Jd_call rfl fn68 rfl ((rqone_w x.d x.hd (hfx.mono (by omega)).d (val x.d) rfl))) ?_
  refine DK_c rfl rfl (Jd_call rfl fn67 rfl (rqquot x.neg x.n (limbs (dn (val x.d))) x.hn (small_limbs _) (hfx.mono (by omega)).n (Bn.use (by omega)) (val x.n) (dn (val x.d)) rfl (val_limbs _) (dn_ne _))) ?_
  refine DK_s 1 rfl rfl rfl (Jd_store rfl rfl rfl rfl ty25 rfl (by decide) (Nat.le_of_ble_eq_true rfl) rfl) ?_
  refine DK_nil ?_
  refine At_then ?_
  exact Tc_ret1 (fun _ _ h => h) rfl (⟨_, _, rfl, rfl, .inl ⟨ty25, Nat.le_of_ble_eq_true rfl, rfl⟩⟩) (by subst hr; rw [rq_dn]; rfl)

set_option maxRecDepth 10000 in
theorem qsigned (x : Qr) (r : Rat) (hr : x.q = r) (hfx : Fit 3000000000000 x) : Ctr Tryz.prog 58 [qV x] (R.one (zV (zOf (sgn x.neg (val x.n))))) := by
  refine Ctr.of_body Tryz.func58 rfl Tryz.ntmps58 (Nat.le_of_ble_eq_true rfl) (fun w0 A0 => ?_)
  haveI ixn : Bn (val x.n) 3000000000000 := Bn.val x.hn hfx.n
  haveI ixd : Bn (val x.d) 3000000000000 := Bn.val x.hd hfx.d
  refine Tc_seq ?_
  refine Tc_region ?_
  refine Tl_e (JO_e rfl rfl (Je_box (n := 0) rfl rfl rfl)) rfl rfl ?_
  refine Tl_e (JO_e rfl rfl (Je_alloc (n := 1) rfl tz65 rfl)) rfl rfl ?_
  refine Tl_end ?_
  refine At_then ?_
  refine Tc_seq ?_
  refine Tc_region ?_
  refine Tl_q (JO_q rfl rfl (Jq_fieldAddr rfl rfl fo25_0 rfl)) rfl ?_
  refine Tl_q (JO_q rfl rfl (Jq_load rfl rfl rfl (by decide) ty4 rfl)) rfl ?_
  refine Tl_q (JO_q rfl rfl (Jq_fieldAddr rfl rfl fo25_1 rfl)) rfl ?_
  refine Tl_q (JO_q rfl rfl (Jq_load rfl rfl rfl (by decide) ty23 rfl)) rfl ?_
  refine Tl_e (JO_e rfl rfl (Je_call rfl fn89 rfl (zmake x.neg x.n x.hn (hfx.mono (by omega)).n (val x.n) rfl))) rfl rfl ?_
  refine Tl_e (JO_e rfl rfl (Je_store rfl rfl rfl rfl ty65 rfl (by decide) (Nat.le_of_ble_eq_true rfl) rfl)) rfl rfl ?_
  refine Tl_end ?_
  refine At_then ?_
  exact Tc_ret1 (fun _ _ h => h) rfl (⟨_, _, rfl, rfl, .inl ⟨ty65, Nat.le_of_ble_eq_true rfl, rfl⟩⟩) rfl

set_option maxRecDepth 10000 in
theorem qsign (x : Qr) (r : Rat) (hr : x.q = r) (hfx : Fit 3000000000000 x) : Ctr Tryz.prog 35 [qV x] (R.one (V.one (Leaf.val (.int .i64 (sg r))))) := by
  refine Ctr.of_body Tryz.func35 rfl Tryz.ntmps35 (Nat.le_of_ble_eq_true rfl) (fun w0 A0 => ?_)
  haveI ixn : Bn (val x.n) 3000000000000 := Bn.val x.hn hfx.n
  haveI ixd : Bn (val x.d) 3000000000000 := Bn.val x.hd hfx.d
  refine Tc_seq ?_
  refine Tc_region ?_
  refine Tl_e (JO_e rfl rfl (Je_box (n := 0) rfl rfl rfl)) rfl rfl ?_
  refine Tl_q (JO_q rfl rfl (Jq_assign rfl rfl)) rfl ?_
  refine Tl_end ?_
  refine At_then ?_
  refine Tc_seq ?_
  refine Tc_region ?_
  refine Tl_q (JO_q rfl rfl (Jq_load_agg rfl rfl rfl (by decide) ty25 (by decide) (Nat.le_of_ble_eq_true rfl) rfl)) rfl ?_
  refine Tl_e (JO_e rfl rfl (Je_call rfl fn58 rfl (qsigned x (r) hr (hfx.mono (by omega))))) rfl rfl ?_
  refine Tl_e (JO_e rfl rfl (Je_call rfl fn53 rfl (zsign (zOf (sgn x.neg (val x.n))) (sgn x.neg (val x.n)) (zOf_z _) (Bz.use (by omega))))) rfl rfl ?_
  refine Tl_q (JO_q rfl rfl (Jq_assign rfl rfl)) rfl ?_
  refine Tl_end ?_
  refine At_then ?_
  exact Tc_ret1 (fun _ _ h => h) rfl rfl (by subst hr; unfold Qr.q; rw [sg_rq])

set_option maxRecDepth 10000 in
theorem rqsign (x : Qr) (r : Rat) (hr : x.q = r) (hfx : Fit 3000000000000 x) : Ctr Tryz.prog 49 [qV x] (R.one (V.one (Leaf.val (.int .i64 (sg r))))) := by
  refine Ctr.of_body Tryz.func49 rfl Tryz.ntmps49 (Nat.le_of_ble_eq_true rfl) (fun w0 A0 => ?_)
  haveI ixn : Bn (val x.n) 3000000000000 := Bn.val x.hn hfx.n
  haveI ixd : Bn (val x.d) 3000000000000 := Bn.val x.hd hfx.d
  refine Tc_seq ?_
  refine Tc_region ?_
  refine Tl_e (JO_e rfl rfl (Je_box (n := 0) rfl rfl rfl)) rfl rfl ?_
  refine Tl_q (JO_q rfl rfl (Jq_assign rfl rfl)) rfl ?_
  refine Tl_end ?_
  refine At_then ?_
  refine Tc_seq ?_
  refine Tc_region ?_
  refine Tl_q (JO_q rfl rfl (Jq_fieldAddr rfl rfl fo25_0 rfl)) rfl ?_
  refine Tl_q (JO_q rfl rfl (Jq_load rfl rfl rfl (by decide) ty4 rfl)) rfl ?_
  refine Tl_q (JO_q rfl rfl (Jq_fieldAddr rfl rfl fo25_1 rfl)) rfl ?_
  refine Tl_q (JO_q rfl rfl (Jq_load rfl rfl rfl (by decide) ty23 rfl)) rfl ?_
  refine Tl_q (JO_q rfl rfl (Jq_build rfl tz65 rfl pl65 rfl)) rfl ?_
  refine Tl_e (JO_e rfl rfl (Je_call rfl fn78 rfl (rzsign (Zr.mk x.neg x.n x.hn) (sgn x.neg (val x.n)) (zr_eq rfl) (hfx.mono (by omega)).n))) rfl rfl ?_
  refine Tl_q (JO_q rfl rfl (Jq_assign rfl rfl)) rfl ?_
  refine Tl_end ?_
  refine At_then ?_
  exact Tc_ret1 (fun _ _ h => h) rfl rfl (by subst hr; unfold Qr.q; rw [sg_rq])

set_option maxRecDepth 10000 in
theorem qcross (x : Qr) (r : Rat) (hr : x.q = r) (hfx : Fit 1000000000000 x) (y : Qr) (s : Rat) (hs : y.q = s) (hfy : Fit 1000000000000 y) : Ctr Tryz.prog 43 [qV x, qV y] (R.tup [zV (zOf (sgn x.neg (val x.n) * sgn false (dn (val y.d)))), zV (zOf (sgn y.neg (val y.n) * sgn false (dn (val x.d))))]) := by
  refine Ctr.of_body Tryz.func43 rfl Tryz.ntmps43 (Nat.le_of_ble_eq_true rfl) (fun w0 A0 => ?_)
  haveI ixn : Bn (val x.n) 1000000000000 := Bn.val x.hn hfx.n
  haveI ixd : Bn (val x.d) 1000000000000 := Bn.val x.hd hfx.d
  haveI iyn : Bn (val y.n) 1000000000000 := Bn.val y.hn hfy.n
  haveI iyd : Bn (val y.d) 1000000000000 := Bn.val y.hd hfy.d
  haveI ir : Br r 1000000000000 := hr ▸ Br.q hfx
  haveI is : Br s 1000000000000 := hs ▸ Br.q hfy
  refine Tc_seq ?_
  refine Tc_region ?_
  refine Tl_e (JO_e rfl rfl (Je_box (n := 0) rfl rfl rfl)) rfl rfl ?_
  refine Tl_e (JO_e rfl rfl (Je_box (n := 1) rfl rfl rfl)) rfl rfl ?_
  refine Tl_e (JO_e rfl rfl (Je_alloc (n := 2) rfl tz65 rfl)) rfl rfl ?_
  refine Tl_e (JO_e rfl rfl (Je_alloc (n := 3) rfl tz65 rfl)) rfl rfl ?_
  refine Tl_end ?_
  refine At_then ?_
  refine Tc_seq ?_
  refine Tc_drawK 0 [none, none, none, none, none, none] [] follows (by kernel_rfl) ?_
  refine DK_q (JO_q rfl rfl (Jq_load_agg rfl rfl rfl (by decide) ty25 (by decide) (Nat.le_of_ble_eq_true rfl) rfl)) ?_
  refine DK_c rfl rfl (Jd_call rfl fn48 rfl (qunder x (hfx.mono (by omega)))) ?_
  refine DK_q (JO_q rfl rfl (Jq_load_agg rfl rfl rfl (by decide) ty25 (by decide) (Nat.le_of_ble_eq_true rfl) rfl)) ?_
  refine DK_c rfl rfl (Jd_call rfl fn48 rfl (qunder y (hfy.mono (by omega)))) ?_
  refine DK_q (JO_q rfl rfl (Jq_assign rfl rfl)) ?_
  refine DK_q (JO_q rfl rfl (Jq_assign rfl rfl)) ?_
  refine DK_nil ?_
  refine At_then ?_
  refine Tc_seq ?_
  refine Tc_drawK 0 [none, none, none, none, none, none, none, none, none, none, some 2, some 3] [2, 3] follows (by kernel_rfl) ?_
  refine DK_q (JO_q rfl rfl (Jq_load_agg rfl rfl rfl (by decide) ty25 (by decide) (Nat.le_of_ble_eq_true rfl) rfl)) ?_
  refine DK_c rfl rfl (Jd_call rfl fn58 rfl (qsigned x (r) hr (hfx.mono (by omega)))) ?_
  refine DK_q (JO_q rfl rfl (Jq_move rfl rfl)) ?_
  refine DK_q (JO_q rfl rfl (Jq_build rfl tz65 rfl pl65 rfl)) ?_
  refine DK_c rfl rfl (Jd_call rfl fn69 rfl (zmul (zOf (sgn x.neg (val x.n))) (sgn x.neg (val x.n)) (zOf_z _) (Bz.use (by omega)) (Zr.mk false (dl y.d) (small_dl y.hd)) (sgn false (dn (val y.d))) (zr_eq (val_dl _)) (len_dl hfy.d (by omega)))) ?_
  refine DK_q (JO_q rfl rfl (Jq_load_agg rfl rfl rfl (by decide) ty25 (by decide) (Nat.le_of_ble_eq_true rfl) rfl)) ?_
  refine DK_c rfl rfl (Jd_call rfl fn58 rfl (qsigned y (s) hs (hfy.mono (by omega)))) ?_
  refine DK_q (JO_q rfl rfl (Jq_move rfl rfl)) ?_
  refine DK_q (JO_q rfl rfl (Jq_build rfl tz65 rfl pl65 rfl)) ?_
  refine DK_c rfl rfl (Jd_call rfl fn69 rfl (zmul (zOf (sgn y.neg (val y.n))) (sgn y.neg (val y.n)) (zOf_z _) (Bz.use (by omega)) (Zr.mk false (dl x.d) (small_dl x.hd)) (sgn false (dn (val x.d))) (zr_eq (val_dl _)) (len_dl hfx.d (by omega)))) ?_
  refine DK_s 2 rfl rfl rfl (Jd_store rfl rfl rfl rfl ty65 rfl (by decide) (Nat.le_of_ble_eq_true rfl) rfl) ?_
  refine DK_s 3 rfl rfl rfl (Jd_store rfl rfl rfl rfl ty65 rfl (by decide) (Nat.le_of_ble_eq_true rfl) rfl) ?_
  refine DK_nil ?_
  refine At_then ?_
  exact Tc_ret2 (fun _ _ h => h) rfl (⟨_, _, rfl, rfl, .inl ⟨ty65, Nat.le_of_ble_eq_true rfl, rfl⟩⟩) (⟨_, _, rfl, rfl, .inl ⟨ty65, Nat.le_of_ble_eq_true rfl, rfl⟩⟩) rfl

set_option maxRecDepth 10000 in
theorem qcmp (x : Qr) (r : Rat) (hr : x.q = r) (hfx : Fit 1000000000000 x) (y : Qr) (s : Rat) (hs : y.q = s) (hfy : Fit 1000000000000 y) : Ctr Tryz.prog 24 [qV x, qV y] (R.one (V.one (Leaf.val (.int .i64 (cmpq r s))))) := by
  refine Ctr.of_body Tryz.func24 rfl Tryz.ntmps24 (Nat.le_of_ble_eq_true rfl) (fun w0 A0 => ?_)
  haveI ixn : Bn (val x.n) 1000000000000 := Bn.val x.hn hfx.n
  haveI ixd : Bn (val x.d) 1000000000000 := Bn.val x.hd hfx.d
  haveI iyn : Bn (val y.n) 1000000000000 := Bn.val y.hn hfy.n
  haveI iyd : Bn (val y.d) 1000000000000 := Bn.val y.hd hfy.d
  haveI ir : Br r 1000000000000 := hr ▸ Br.q hfx
  haveI is : Br s 1000000000000 := hs ▸ Br.q hfy
  refine Tc_seq ?_
  refine Tc_region ?_
  refine Tl_e (JO_e rfl rfl (Je_box (n := 0) rfl rfl rfl)) rfl rfl ?_
  refine Tl_e (JO_e rfl rfl (Je_box (n := 1) rfl rfl rfl)) rfl rfl ?_
  refine Tl_q (JO_q rfl rfl (Jq_assign rfl rfl)) rfl ?_
  refine Tl_end ?_
  refine At_then ?_
  refine Tc_seq ?_
  refine Tc_seq ?_
  refine Tc_drawK 0 [none, none, none, none, none, none] [] follows (by kernel_rfl) ?_
  refine DK_q (JO_q rfl rfl (Jq_load_agg rfl rfl rfl (by decide) ty25 (by decide) (Nat.le_of_ble_eq_true rfl) rfl)) ?_
  refine DK_c rfl rfl (Jd_call rfl fn35 rfl (qsign x (r) hr (hfx.mono (by omega)))) ?_
  refine DK_q (JO_q rfl rfl (Jq_load_agg rfl rfl rfl (by decide) ty25 (by decide) (Nat.le_of_ble_eq_true rfl) rfl)) ?_
  refine DK_c rfl rfl (Jd_call rfl fn35 rfl (qsign y (s) hs (hfy.mono (by omega)))) ?_
  refine DK_q (JO_q rfl rfl (Jq_assign rfl rfl)) ?_
  refine DK_q (JO_q rfl rfl (Jq_assign rfl rfl)) ?_
  refine DK_nil ?_
  refine At_then ?_
  refine Tc_seq ?_
  refine Tc_region ?_
  refine Tl_q (JO_q rfl rfl (Jq_move rfl rfl)) rfl ?_
  refine Tl_q (JO_q rfl rfl (Jq_move rfl rfl)) rfl ?_
  by_cases h1 : sg r ≠ sg s
  · skip
    refine Tl_q (JO_q rfl rfl (Jq_neq rfl rfl rfl (b := true) (nT (by omega)))) rfl ?_
    refine Tl_end ?_
    refine At_then ?_
    refine Tc_t rfl ?_
    refine Tc_seq ?_
    refine Tc_seq ?_
    refine Tc_region ?_
    refine Tl_q (JO_q rfl rfl (Jq_move rfl rfl)) rfl ?_
    refine Tl_q (JO_q rfl rfl (Jq_move rfl rfl)) rfl ?_
    by_cases h2 : sg r < sg s
    · skip
      refine Tl_q (JO_q rfl rfl (Jq_lss rfl rfl rfl (b := true) (dT (by omega)))) rfl ?_
      refine Tl_end ?_
      refine At_then ?_
      refine Tc_t rfl ?_
      refine Tc_seq ?_
      refine Tc_region ?_
      refine Tl_q (JO_q rfl rfl (Jq_assign rfl rfl)) rfl ?_
      refine Tl_end ?_
      refine At_then ?_
      exact Tc_ret1 (fun _ _ h => h) rfl rfl (by rw [cmpq_sg_lt h2])
    · skip
      refine Tl_q (JO_q rfl rfl (Jq_lss rfl rfl rfl (b := false) (dF (by omega)))) rfl ?_
      refine Tl_end ?_
      refine At_then ?_
      refine Tc_f rfl ?_
      refine Tc_skipA ?_
      refine At_then ?_
      refine Tc_seq ?_
      refine Tc_region ?_
      refine Tl_q (JO_q rfl rfl (Jq_assign rfl rfl)) rfl ?_
      refine Tl_end ?_
      refine At_then ?_
      exact Tc_ret1 (fun _ _ h => h) rfl rfl (by rw [cmpq_sg_gt h1 h2])
  · skip
    refine Tl_q (JO_q rfl rfl (Jq_neq rfl rfl rfl (b := false) (nF (by omega)))) rfl ?_
    refine Tl_end ?_
    refine At_then ?_
    refine Tc_f rfl ?_
    refine Tc_skipA ?_
    refine At_then ?_
    refine Tc_seq ?_
    refine Tc_region ?_
    refine Tl_q (JO_q rfl rfl (Jq_load_agg rfl rfl rfl (by decide) ty25 (by decide) (Nat.le_of_ble_eq_true rfl) rfl)) rfl ?_
    refine Tl_q (JO_q rfl rfl (Jq_load_agg rfl rfl rfl (by decide) ty25 (by decide) (Nat.le_of_ble_eq_true rfl) rfl)) rfl ?_
    refine Tl_e (JO_e rfl rfl (Je_call rfl fn43 rfl (qcross x (r) hr (hfx.mono (by omega)) y (s) hs (hfy.mono (by omega))))) rfl rfl ?_
    refine Tl_q (JO_q rfl rfl (Jq_move rfl rfl)) rfl ?_
    refine Tl_q (JO_q rfl rfl (Jq_extract rfl rfl rfl)) rfl ?_
    refine Tl_q (JO_q rfl rfl (Jq_extract rfl rfl rfl)) rfl ?_
    refine Tl_e (JO_e rfl rfl (Je_alloc (n := 2) rfl tz65 rfl)) rfl rfl ?_
    refine Tl_e (JO_e rfl rfl (Je_alloc (n := 3) rfl tz65 rfl)) rfl rfl ?_
    refine Tl_e (JO_e rfl rfl (Je_store rfl rfl rfl rfl ty65 rfl (by decide) (Nat.le_of_ble_eq_true rfl) rfl)) rfl rfl ?_
    refine Tl_e (JO_e rfl rfl (Je_store rfl rfl rfl rfl ty65 rfl (by decide) (Nat.le_of_ble_eq_true rfl) rfl)) rfl rfl ?_
    refine Tl_end ?_
    refine At_then ?_
    refine Tc_seq ?_
    refine Tc_region ?_
    refine Tl_q (JO_q rfl rfl (Jq_load_agg rfl rfl rfl (by decide) ty65 (by decide) (Nat.le_of_ble_eq_true rfl) rfl)) rfl ?_
    refine Tl_q (JO_q rfl rfl (Jq_load_agg rfl rfl rfl (by decide) ty65 (by decide) (Nat.le_of_ble_eq_true rfl) rfl)) rfl ?_
    refine Tl_e (JO_e rfl rfl (Je_call rfl fn44 rfl (zcmp (zOf (sgn x.neg (val x.n) * sgn false (dn (val y.d)))) (sgn x.neg (val x.n) * sgn false (dn (val y.d))) (zOf_z _) (Bz.use (by omega)) (zOf (sgn y.neg (val y.n) * sgn false (dn (val x.d)))) (sgn y.neg (val y.n) * sgn false (dn (val x.d))) (zOf_z _) (Bz.use (by omega))))) rfl rfl ?_
    refine Tl_q (JO_q rfl rfl (Jq_assign rfl rfl)) rfl ?_
    refine Tl_end ?_
    refine At_then ?_
    exact Tc_ret1 (fun _ _ h => h) rfl rfl (by subst hr; subst hs; rw [cmpq_cross]; rfl)

set_option maxRecDepth 10000 in
theorem rqneg (x : Qr) (r : Rat) (hr : x.q = r) (hfx : Fit 3000000000000 x) : Ctr Tryz.prog 80 [qV x] (R.one (qV (qOf (-r)))) := by
  refine Ctr.of_body Tryz.func80 rfl Tryz.ntmps80 (Nat.le_of_ble_eq_true rfl) (fun w0 A0 => ?_)
  haveI ixn : Bn (val x.n) 3000000000000 := Bn.val x.hn hfx.n
  haveI ixd : Bn (val x.d) 3000000000000 := Bn.val x.hd hfx.d
  refine Tc_seq ?_
  refine Tc_region ?_
  refine Tl_e (JO_e rfl rfl (Je_box (n := 0) rfl rfl rfl)) rfl rfl ?_
  refine Tl_e (JO_e rfl rfl (Je_alloc (n := 1) rfl tz25 rfl)) rfl rfl ?_
  refine Tl_end ?_
  refine At_then ?_
  refine Tc_seq ?_
  refine Tc_region ?_
  refine Tl_q (JO_q rfl rfl (Jq_fieldAddr rfl rfl fo25_0 rfl)) rfl ?_
  refine Tl_q (JO_q rfl rfl (Jq_load rfl rfl rfl (by decide) ty4 rfl)) rfl ?_
  refine Tl_q (JO_q rfl rfl (Jq_not rfl rfl (c := _) rfl)) rfl ?_
  refine Tl_q (JO_q rfl rfl (Jq_fieldAddr rfl rfl fo25_0 rfl)) rfl ?_
  refine Tl_e (JO_e rfl rfl (Je_store rfl rfl rfl rfl ty4 rfl (by decide) (Nat.le_of_ble_eq_true rfl) rfl)) rfl rfl ?_
  refine Tl_end ?_
  refine At_then ?_
  refine Tc_seq ?_
  refine Tc_region ?_
  refine Tl_q (JO_q rfl rfl (Jq_load_agg rfl rfl rfl (by decide) ty25 (by decide) (Nat.le_of_ble_eq_true rfl) rfl)) rfl ?_
  refine Tl_e (JO_e rfl rfl (Je_call rfl fn41 rfl (rqcanon (Qr.mk (!x.neg) x.n x.d x.hn x.hd) (-(r)) (qr_neg hr) (Fit.neg (hfx.mono (by omega)))))) rfl rfl ?_
  refine Tl_e (JO_e rfl rfl (Je_store rfl rfl rfl rfl ty25 rfl (by decide) (Nat.le_of_ble_eq_true rfl) rfl)) rfl rfl ?_
  refine Tl_end ?_
  refine At_then ?_
  exact Tc_ret1 (fun _ _ h => h) rfl (⟨_, _, rfl, rfl, .inl ⟨ty25, Nat.le_of_ble_eq_true rfl, rfl⟩⟩) rfl

set_option maxRecDepth 10000 in
theorem rqadd (x : Qr) (r : Rat) (hr : x.q = r) (hfx : Fit 1000000000000 x) (y : Qr) (s : Rat) (hs : y.q = s) (hfy : Fit 1000000000000 y) : Ctr Tryz.prog 79 [qV x, qV y] (R.one (qV (qOf (r + s)))) := by
  refine Ctr.of_body Tryz.func79 rfl Tryz.ntmps79 (Nat.le_of_ble_eq_true rfl) (fun w0 A0 => ?_)
  haveI ixn : Bn (val x.n) 1000000000000 := Bn.val x.hn hfx.n
  haveI ixd : Bn (val x.d) 1000000000000 := Bn.val x.hd hfx.d
  haveI iyn : Bn (val y.n) 1000000000000 := Bn.val y.hn hfy.n
  haveI iyd : Bn (val y.d) 1000000000000 := Bn.val y.hd hfy.d
  haveI ir : Br r 1000000000000 := hr ▸ Br.q hfx
  haveI is : Br s 1000000000000 := hs ▸ Br.q hfy
  refine Tc_seq ?_
  refine Tc_region ?_
  refine Tl_e (JO_e rfl rfl (Je_box (n := 0) rfl rfl rfl)) rfl rfl ?_
  refine Tl_e (JO_e rfl rfl (Je_box (n := 1) rfl rfl rfl)) rfl rfl ?_
  refine Tl_e (JO_e rfl rfl (Je_alloc (n := 2) rfl tz25 rfl)) rfl rfl ?_
  refine Tl_end ?_
  refine At_then ?_
  refine Tc_seq ?_
  refine Tc_drawK 1 [none, none, none, none, none, none, none, none, none, some 3, some 3] [3] follows (by kernel_rfl) ?_
  refine DK_q (JO_q rfl rfl (Jq_fieldAddr rfl rfl fo25_0 rfl)) ?_
  refine DK_q (JO_q rfl rfl (Jq_load rfl rfl rfl (by decide) ty4 rfl)) ?_
  refine DK_q (JO_q rfl rfl (Jq_fieldAddr rfl rfl fo25_1 rfl)) ?_
  refine DK_q (JO_q rfl rfl (Jq_load rfl rfl rfl (by decide) ty23 rfl)) ?_
  refine DK_q (JO_q rfl rfl (Jq_fieldAddr rfl rfl fo25_2 rfl)) ?_
  refine DK_q (JO_q rfl rfl (Jq_load rfl rfl rfl (by decide) ty23 rfl)) ?_
  refine DK_c rfl rfl (Jd_call rfl fn68 rfl ((rqone_w y.d y.hd (hfy.mono (by omega)).d (val y.d) rfl))) ?_
  refine DK_c rfl rfl (Jd_call rfl fn63 rfl (rmul_w x.n (limbs (dn (val y.d))) x.hn (small_limbs _) (hfx.mono (by omega)).n (Bn.use (by omega)) (val x.n) (dn (val y.d)) rfl (val_limbs _))) ?_
  refine DK_q (JO_q rfl rfl (Jq_build rfl tz65 rfl pl65 rfl)) ?_
  refine DK_s 3 rfl rfl rfl (Jd_alloc (i := 3) rfl tz65 rfl) ?_
  refine DK_s 3 rfl rfl rfl (Jd_store rfl rfl rfl rfl ty65 rfl (by decide) (Nat.le_of_ble_eq_true rfl) rfl) ?_
  refine DK_nil ?_
  refine At_then ?_
  refine Tc_seq ?_
  refine Tc_drawK 1 [none, none, none, none, none, none, none, none, none, some 4, some 4] [4] follows (by kernel_rfl) ?_
  refine DK_q (JO_q rfl rfl (Jq_fieldAddr rfl rfl fo25_0 rfl)) ?_
  refine DK_q (JO_q rfl rfl (Jq_load rfl rfl rfl (by decide) ty4 rfl)) ?_
  refine DK_q (JO_q rfl rfl (Jq_fieldAddr rfl rfl fo25_1 rfl)) ?_
  refine DK_q (JO_q rfl rfl (Jq_load rfl rfl rfl (by decide) ty23 rfl)) ?_
  refine DK_q (JO_q rfl rfl (Jq_fieldAddr rfl rfl fo25_2 rfl)) ?_
  refine DK_q (JO_q rfl rfl (Jq_load rfl rfl rfl (by decide) ty23 rfl)) ?_
  refine DK_c rfl rfl (Jd_call rfl fn68 rfl ((rqone_w x.d x.hd (hfx.mono (by omega)).d (val x.d) rfl))) ?_
  refine DK_c rfl rfl (Jd_call rfl fn63 rfl (rmul_w y.n (limbs (dn (val x.d))) y.hn (small_limbs _) (hfy.mono (by omega)).n (Bn.use (by omega)) (val y.n) (dn (val x.d)) rfl (val_limbs _))) ?_
  refine DK_q (JO_q rfl rfl (Jq_build rfl tz65 rfl pl65 rfl)) ?_
  refine DK_s 4 rfl rfl rfl (Jd_alloc (i := 4) rfl tz65 rfl) ?_
  refine DK_s 4 rfl rfl rfl (Jd_store rfl rfl rfl rfl ty65 rfl (by decide) (Nat.le_of_ble_eq_true rfl) rfl) ?_
  refine DK_nil ?_
  refine At_then ?_
  refine Tc_seq ?_
  refine Tc_region ?_
  refine Tl_q (JO_q rfl rfl (Jq_load_agg rfl rfl rfl (by decide) ty65 (by decide) (Nat.le_of_ble_eq_true rfl) rfl)) rfl ?_
  refine Tl_q (JO_q rfl rfl (Jq_load_agg rfl rfl rfl (by decide) ty65 (by decide) (Nat.le_of_ble_eq_true rfl) rfl)) rfl ?_
  refine Tl_e (JO_e rfl rfl (Je_call rfl fn100 rfl (rzadd (Zr.mk x.neg (limbs ((val x.n) * (dn (val y.d)))) (small_limbs _)) (sgn x.neg ((val x.n) * (dn (val y.d)))) (zr_eq (val_limbs _)) (Bn.use (by omega)) (Zr.mk y.neg (limbs ((val y.n) * (dn (val x.d)))) (small_limbs _)) (sgn y.neg ((val y.n) * (dn (val x.d)))) (zr_eq (val_limbs _)) (Bn.use (by omega))))) rfl rfl ?_
  refine Tl_e (JO_e rfl rfl (Je_alloc (n := 5) rfl tz65 rfl)) rfl rfl ?_
  refine Tl_e (JO_e rfl rfl (Je_store rfl rfl rfl rfl ty65 rfl (by decide) (Nat.le_of_ble_eq_true rfl) rfl)) rfl rfl ?_
  refine Tl_end ?_
  refine At_then ?_
  refine Tc_seq ?_
  refine Tc_drawK 0 [none, none, none, none, none, none, none, none, none, none, none, none, some 2] [2] follows (by kernel_rfl) ?_
  refine DK_q (JO_q rfl rfl (Jq_fieldAddr rfl rfl fo65_0 rfl)) ?_
  refine DK_q (JO_q rfl rfl (Jq_load rfl rfl rfl (by decide) ty4 rfl)) ?_
  refine DK_q (JO_q rfl rfl (Jq_fieldAddr rfl rfl fo65_1 rfl)) ?_
  refine DK_q (JO_q rfl rfl (Jq_load rfl rfl rfl (by decide) ty23 rfl)) ?_
  refine DK_q (JO_q rfl rfl (Jq_fieldAddr rfl rfl fo25_2 rfl)) ?_
  refine DK_q (JO_q rfl rfl (Jq_load rfl rfl rfl (by decide) ty23 rfl)) ?_
  refine DK_c rfl rfl (Jd_call rfl fn68 rfl ((rqone_w x.d x.hd (hfx.mono (by omega)).d (val x.d) rfl))) ?_
  refine DK_q (JO_q rfl rfl (Jq_fieldAddr rfl rfl fo25_2 rfl)) ?_
  refine DK_q (JO_q rfl rfl (Jq_load rfl rfl rfl (by decide) ty23 rfl)) ?_
  refine DK_c rfl rfl (Jd_call rfl fn68 rfl ((rqone_w y.d y.hd (hfy.mono (by omega)).d (val y.d) rfl))) ?_
  refine DK_c rfl rfl (Jd_call rfl fn63 rfl (rmul_w (limbs (dn (val x.d))) (limbs (dn (val y.d))) (small_limbs _) (small_limbs _) (Bn.use (by omega)) (Bn.use (by omega)) (dn (val x.d)) (dn (val y.d)) (val_limbs _) (val_limbs _))) ?_
  refine DK_c rfl rfl (Jd_call rfl fn67 rfl (rqquot (decide ((sgn x.neg ((val x.n) * (dn (val y.d)))) + (sgn y.neg ((val y.n) * (dn (val x.d)))) < 0)) (limbs (Int.natAbs ((sgn x.neg ((val x.n) * (dn (val y.d)))) + (sgn y.neg ((val y.n) * (dn (val x.d))))))) (limbs ((dn (val x.d)) * (dn (val y.d)))) (small_limbs _) (small_limbs _) (Bz.use (z := (sgn x.neg ((val x.n) * (dn (val y.d)))) + (sgn y.neg ((val y.n) * (dn (val x.d))))) (by omega)) (Bn.use (by omega)) (Int.natAbs ((sgn x.neg ((val x.n) * (dn (val y.d)))) + (sgn y.neg ((val y.n) * (dn (val x.d)))))) ((dn (val x.d)) * (dn (val y.d))) (val_limbs _) (val_limbs _) (Nat.mul_ne_zero (dn_ne _) (dn_ne _)))) ?_
  refine DK_s 2 rfl rfl rfl (Jd_store rfl rfl rfl rfl ty25 rfl (by decide) (Nat.le_of_ble_eq_true rfl) rfl) ?_
  refine DK_nil ?_
  refine At_then ?_
  exact Tc_ret1 (fun _ _ h => h) rfl (⟨_, _, rfl, rfl, .inl ⟨ty25, Nat.le_of_ble_eq_true rfl, rfl⟩⟩) (by subst hr; subst hs; rw [q_add' x.neg y.neg (val x.n) (val y.n) (val x.d) (val y.d) _ rfl]; rfl)

set_option maxRecDepth 10000 in
theorem qmul (x : Qr) (r : Rat) (hr : x.q = r) (hfx : Fit 1000000000000 x) (y : Qr) (s : Rat) (hs : y.q = s) (hfy : Fit 1000000000000 y) : Ctr Tryz.prog 29 [qV x, qV y] (R.one (qV (qOf (r * s)))) := by
  refine Ctr.of_body Tryz.func29 rfl Tryz.ntmps29 (Nat.le_of_ble_eq_true rfl) (fun w0 A0 => ?_)
  haveI ixn : Bn (val x.n) 1000000000000 := Bn.val x.hn hfx.n
  haveI ixd : Bn (val x.d) 1000000000000 := Bn.val x.hd hfx.d
  haveI iyn : Bn (val y.n) 1000000000000 := Bn.val y.hn hfy.n
  haveI iyd : Bn (val y.d) 1000000000000 := Bn.val y.hd hfy.d
  haveI ir : Br r 1000000000000 := hr ▸ Br.q hfx
  haveI is : Br s 1000000000000 := hs ▸ Br.q hfy
  refine Tc_seq ?_
  refine Tc_region ?_
  refine Tl_e (JO_e rfl rfl (Je_box (n := 0) rfl rfl rfl)) rfl rfl ?_
  refine Tl_e (JO_e rfl rfl (Je_box (n := 1) rfl rfl rfl)) rfl rfl ?_
  refine Tl_e (JO_e rfl rfl (Je_alloc (n := 2) rfl tz25 rfl)) rfl rfl ?_
  refine Tl_end ?_
  refine At_then ?_
  refine Tc_seq ?_
  refine Tc_drawK 0 [none, none, none, none, none, none, none, none, none, none, none, none, none, none, none, none, some 2] [2] follows (by kernel_rfl) ?_
  refine DK_q (JO_q rfl rfl (Jq_fieldAddr rfl rfl fo25_0 rfl)) ?_
  refine DK_q (JO_q rfl rfl (Jq_load rfl rfl rfl (by decide) ty4 rfl)) ?_
  refine DK_q (JO_q rfl rfl (Jq_fieldAddr rfl rfl fo25_0 rfl)) ?_
  refine DK_q (JO_q rfl rfl (Jq_load rfl rfl rfl (by decide) ty4 rfl)) ?_
  refine DK_q (JO_q rfl rfl (Jq_neq_bool rfl rfl rfl un4 (d := _) (rfl))) ?_
  refine DK_q (JO_q rfl rfl (Jq_fieldAddr rfl rfl fo25_1 rfl)) ?_
  refine DK_q (JO_q rfl rfl (Jq_load rfl rfl rfl (by decide) ty23 rfl)) ?_
  refine DK_q (JO_q rfl rfl (Jq_fieldAddr rfl rfl fo25_1 rfl)) ?_
  refine DK_q (JO_q rfl rfl (Jq_load rfl rfl rfl (by decide) ty23 rfl)) ?_
  refine DK_c rfl rfl (Jd_call rfl fn47 rfl (mul_w x.n x.hn (hfx.mono (by omega)).n y.n y.hn (hfy.mono (by omega)).n (val x.n) rfl (val y.n) rfl)) ?_
  refine DK_q (JO_q rfl rfl (Jq_load_agg rfl rfl rfl (by decide) ty25 (by decide) (Nat.le_of_ble_eq_true rfl) rfl)) ?_
  refine DK_c rfl rfl (Jd_call rfl fn48 rfl (qunder x (hfx.mono (by omega)))) ?_
  refine DK_q (JO_q rfl rfl (Jq_load_agg rfl rfl rfl (by decide) ty25 (by decide) (Nat.le_of_ble_eq_true rfl) rfl)) ?_
  refine DK_c rfl rfl (Jd_call rfl fn48 rfl (qunder y (hfy.mono (by omega)))) ?_
  refine DK_c rfl rfl (Jd_call rfl fn47 rfl (mul_w (dl x.d) (small_dl x.hd) (len_dl hfx.d (by omega)) (dl y.d) (small_dl y.hd) (len_dl hfy.d (by omega)) (dn (val x.d)) (val_dl _) (dn (val y.d)) (val_dl _))) ?_
  refine DK_c rfl rfl (Jd_call rfl fn46 rfl (qquot (x.neg != y.neg) (limbs ((val x.n) * (val y.n))) (limbs ((dn (val x.d)) * (dn (val y.d)))) (small_limbs _) (small_limbs _) (Bn.use (by omega)) (Bn.use (by omega)) ((val x.n) * (val y.n)) ((dn (val x.d)) * (dn (val y.d))) (val_limbs _) (val_limbs _) (Nat.mul_ne_zero (dn_ne _) (dn_ne _)))) ?_
  refine DK_s 2 rfl rfl rfl (Jd_store rfl rfl rfl rfl ty25 rfl (by decide) (Nat.le_of_ble_eq_true rfl) rfl) ?_
  refine DK_nil ?_
  refine At_then ?_
  exact Tc_ret1 (fun _ _ h => h) rfl (⟨_, _, rfl, rfl, .inl ⟨ty25, Nat.le_of_ble_eq_true rfl, rfl⟩⟩) (by subst hr; subst hs; rw [rq_mul]; rfl)

set_option maxRecDepth 10000 in
theorem rqsub (x : Qr) (r : Rat) (hr : x.q = r) (hfx : Fit 1000000000000 x) (y : Qr) (s : Rat) (hs : y.q = s) (hfy : Fit 1000000000000 y) : Ctr Tryz.prog 50 [qV x, qV y] (R.one (qV (qOf (r - s)))) := by
  refine Ctr.of_body Tryz.func50 rfl Tryz.ntmps50 (Nat.le_of_ble_eq_true rfl) (fun w0 A0 => ?_)
  haveI ixn : Bn (val x.n) 1000000000000 := Bn.val x.hn hfx.n
  haveI ixd : Bn (val x.d) 1000000000000 := Bn.val x.hd hfx.d
  haveI iyn : Bn (val y.n) 1000000000000 := Bn.val y.hn hfy.n
  haveI iyd : Bn (val y.d) 1000000000000 := Bn.val y.hd hfy.d
  haveI ir : Br r 1000000000000 := hr ▸ Br.q hfx
  haveI is : Br s 1000000000000 := hs ▸ Br.q hfy
  refine Tc_seq ?_
  refine Tc_region ?_
  refine Tl_e (JO_e rfl rfl (Je_box (n := 0) rfl rfl rfl)) rfl rfl ?_
  refine Tl_e (JO_e rfl rfl (Je_box (n := 1) rfl rfl rfl)) rfl rfl ?_
  refine Tl_e (JO_e rfl rfl (Je_alloc (n := 2) rfl tz25 rfl)) rfl rfl ?_
  refine Tl_end ?_
  refine At_then ?_
  refine Tc_seq ?_
  refine Tc_drawK 0 [none, none, none, none, some 2] [2] follows (by kernel_rfl) ?_
  refine DK_q (JO_q rfl rfl (Jq_load_agg rfl rfl rfl (by decide) ty25 (by decide) (Nat.le_of_ble_eq_true rfl) rfl)) ?_
  refine DK_q (JO_q rfl rfl (Jq_load_agg rfl rfl rfl (by decide) ty25 (by decide) (Nat.le_of_ble_eq_true rfl) rfl)) ?_
  refine DK_c rfl rfl (Jd_call rfl fn80 rfl (rqneg y (s) hs (hfy.mono (by omega)))) ?_
  refine DK_c rfl rfl (Jd_call rfl fn79 rfl (rqadd x (r) hr (hfx.mono (by omega)) (qOf (-(s))) (-(s)) (qOf_q _) (Br.use (by omega)))) ?_
  refine DK_s 2 rfl rfl rfl (Jd_store rfl rfl rfl rfl ty25 rfl (by decide) (Nat.le_of_ble_eq_true rfl) rfl) ?_
  refine DK_nil ?_
  refine At_then ?_
  exact Tc_ret1 (fun _ _ h => h) rfl (⟨_, _, rfl, rfl, .inl ⟨ty25, Nat.le_of_ble_eq_true rfl, rfl⟩⟩) (by rw [Rat.sub_eq_add_neg]; rfl)

set_option maxRecDepth 10000 in
theorem rqcmp (x : Qr) (r : Rat) (hr : x.q = r) (hfx : Fit 1000000000000 x) (y : Qr) (s : Rat) (hs : y.q = s) (hfy : Fit 1000000000000 y) : Ctr Tryz.prog 33 [qV x, qV y] (R.one (V.one (Leaf.val (.int .i64 (cmpq r s))))) := by
  refine Ctr.of_body Tryz.func33 rfl Tryz.ntmps33 (Nat.le_of_ble_eq_true rfl) (fun w0 A0 => ?_)
  haveI ixn : Bn (val x.n) 1000000000000 := Bn.val x.hn hfx.n
  haveI ixd : Bn (val x.d) 1000000000000 := Bn.val x.hd hfx.d
  haveI iyn : Bn (val y.n) 1000000000000 := Bn.val y.hn hfy.n
  haveI iyd : Bn (val y.d) 1000000000000 := Bn.val y.hd hfy.d
  haveI ir : Br r 1000000000000 := hr ▸ Br.q hfx
  haveI is : Br s 1000000000000 := hs ▸ Br.q hfy
  refine Tc_seq ?_
  refine Tc_region ?_
  refine Tl_e (JO_e rfl rfl (Je_box (n := 0) rfl rfl rfl)) rfl rfl ?_
  refine Tl_e (JO_e rfl rfl (Je_box (n := 1) rfl rfl rfl)) rfl rfl ?_
  refine Tl_q (JO_q rfl rfl (Jq_assign rfl rfl)) rfl ?_
  refine Tl_end ?_
  refine At_then ?_
  refine Tc_seq ?_
  refine Tc_region ?_
  refine Tl_q (JO_q rfl rfl (Jq_load_agg rfl rfl rfl (by decide) ty25 (by decide) (Nat.le_of_ble_eq_true rfl) rfl)) rfl ?_
  refine Tl_q (JO_q rfl rfl (Jq_load_agg rfl rfl rfl (by decide) ty25 (by decide) (Nat.le_of_ble_eq_true rfl) rfl)) rfl ?_
  refine Tl_e (JO_e rfl rfl (Je_call rfl fn50 rfl (rqsub x (r) hr (hfx.mono (by omega)) y (s) hs (hfy.mono (by omega))))) rfl rfl ?_
  refine Tl_e (JO_e rfl rfl (Je_call rfl fn49 rfl (rqsign (qOf ((r) - (s))) ((r) - (s)) (qOf_q _) (Br.use (by omega))))) rfl rfl ?_
  refine Tl_q (JO_q rfl rfl (Jq_assign rfl rfl)) rfl ?_
  refine Tl_end ?_
  refine At_then ?_
  exact Tc_ret1 (fun _ _ h => h) rfl rfl (by rw [cmpq_sub])

set_option maxRecDepth 10000 in
theorem qmin (x : Qr) (r : Rat) (hr : x.q = r) (hfx : Fit 1000000000000 x) (y : Qr) (s : Rat) (hs : y.q = s) (hfy : Fit 1000000000000 y) : Ctr Tryz.prog 27 [qV x, qV y] (R.one (qV (qOf (mn r s)))) := by
  refine Ctr.of_body Tryz.func27 rfl Tryz.ntmps27 (Nat.le_of_ble_eq_true rfl) (fun w0 A0 => ?_)
  haveI ixn : Bn (val x.n) 1000000000000 := Bn.val x.hn hfx.n
  haveI ixd : Bn (val x.d) 1000000000000 := Bn.val x.hd hfx.d
  haveI iyn : Bn (val y.n) 1000000000000 := Bn.val y.hn hfy.n
  haveI iyd : Bn (val y.d) 1000000000000 := Bn.val y.hd hfy.d
  haveI ir : Br r 1000000000000 := hr ▸ Br.q hfx
  haveI is : Br s 1000000000000 := hs ▸ Br.q hfy
  refine Tc_seq ?_
  refine Tc_region ?_
  refine Tl_e (JO_e rfl rfl (Je_box (n := 0) rfl rfl rfl)) rfl rfl ?_
  refine Tl_e (JO_e rfl rfl (Je_box (n := 1) rfl rfl rfl)) rfl rfl ?_
  refine Tl_e (JO_e rfl rfl (Je_alloc (n := 2) rfl tz25 rfl)) rfl rfl ?_
  refine Tl_end ?_
  refine At_then ?_
  refine Tc_seq ?_
  refine Tc_seq ?_
  refine Tc_region ?_
  refine Tl_q (JO_q rfl rfl (Jq_load_agg rfl rfl rfl (by decide) ty25 (by decide) (Nat.le_of_ble_eq_true rfl) rfl)) rfl ?_
  refine Tl_q (JO_q rfl rfl (Jq_load_agg rfl rfl rfl (by decide) ty25 (by decide) (Nat.le_of_ble_eq_true rfl) rfl)) rfl ?_
  refine Tl_e (JO_e rfl rfl (Je_call rfl fn24 rfl (qcmp x (r) hr (hfx.mono (by omega)) y (s) hs (hfy.mono (by omega))))) rfl rfl ?_
  refine Tl_q (JO_q rfl rfl (Jq_leq rfl rfl rfl (b := _) (rfl))) rfl ?_
  refine Tl_end ?_
  refine At_then ?_
  refine Tc_cond rfl (fun hc8 => ?_) (fun hc8 => ?_)
  · skip
    refine Tc_seq ?_
    refine Tc_region ?_
    refine Tl_q (JO_q rfl rfl (Jq_load_agg rfl rfl rfl (by decide) ty25 (by decide) (Nat.le_of_ble_eq_true rfl) rfl)) rfl ?_
    refine Tl_e (JO_e rfl rfl (Je_call rfl fn36 rfl (qcanon x (r) hr (hfx.mono (by omega))))) rfl rfl ?_
    refine Tl_e (JO_e rfl rfl (Je_store rfl rfl rfl rfl ty25 rfl (by decide) (Nat.le_of_ble_eq_true rfl) rfl)) rfl rfl ?_
    refine Tl_end ?_
    refine At_then ?_
    exact Tc_ret1 (fun _ _ h => h) rfl (⟨_, _, rfl, rfl, .inl ⟨ty25, Nat.le_of_ble_eq_true rfl, rfl⟩⟩) (by rw [mn_le (of_decide_eq_true hc8)]; rfl)
  · skip
    refine Tc_skipA ?_
    refine At_then ?_
    refine Tc_seq ?_
    refine Tc_region ?_
    refine Tl_q (JO_q rfl rfl (Jq_load_agg rfl rfl rfl (by decide) ty25 (by decide) (Nat.le_of_ble_eq_true rfl) rfl)) rfl ?_
    refine Tl_e (JO_e rfl rfl (Je_call rfl fn36 rfl (qcanon y (s) hs (hfy.mono (by omega))))) rfl rfl ?_
    refine Tl_e (JO_e rfl rfl (Je_store rfl rfl rfl rfl ty25 rfl (by decide) (Nat.le_of_ble_eq_true rfl) rfl)) rfl rfl ?_
    refine Tl_end ?_
    refine At_then ?_
    exact Tc_ret1 (fun _ _ h => h) rfl (⟨_, _, rfl, rfl, .inl ⟨ty25, Nat.le_of_ble_eq_true rfl, rfl⟩⟩) (by rw [mn_gt (of_decide_eq_false hc8)]; rfl)

set_option maxRecDepth 10000 in
theorem qmax (x : Qr) (r : Rat) (hr : x.q = r) (hfx : Fit 1000000000000 x) (y : Qr) (s : Rat) (hs : y.q = s) (hfy : Fit 1000000000000 y) : Ctr Tryz.prog 26 [qV x, qV y] (R.one (qV (qOf (mx r s)))) := by
  refine Ctr.of_body Tryz.func26 rfl Tryz.ntmps26 (Nat.le_of_ble_eq_true rfl) (fun w0 A0 => ?_)
  haveI ixn : Bn (val x.n) 1000000000000 := Bn.val x.hn hfx.n
  haveI ixd : Bn (val x.d) 1000000000000 := Bn.val x.hd hfx.d
  haveI iyn : Bn (val y.n) 1000000000000 := Bn.val y.hn hfy.n
  haveI iyd : Bn (val y.d) 1000000000000 := Bn.val y.hd hfy.d
  haveI ir : Br r 1000000000000 := hr ▸ Br.q hfx
  haveI is : Br s 1000000000000 := hs ▸ Br.q hfy
  refine Tc_seq ?_
  refine Tc_region ?_
  refine Tl_e (JO_e rfl rfl (Je_box (n := 0) rfl rfl rfl)) rfl rfl ?_
  refine Tl_e (JO_e rfl rfl (Je_box (n := 1) rfl rfl rfl)) rfl rfl ?_
  refine Tl_e (JO_e rfl rfl (Je_alloc (n := 2) rfl tz25 rfl)) rfl rfl ?_
  refine Tl_end ?_
  refine At_then ?_
  refine Tc_seq ?_
  refine Tc_seq ?_
  refine Tc_region ?_
  refine Tl_q (JO_q rfl rfl (Jq_load_agg rfl rfl rfl (by decide) ty25 (by decide) (Nat.le_of_ble_eq_true rfl) rfl)) rfl ?_
  refine Tl_q (JO_q rfl rfl (Jq_load_agg rfl rfl rfl (by decide) ty25 (by decide) (Nat.le_of_ble_eq_true rfl) rfl)) rfl ?_
  refine Tl_e (JO_e rfl rfl (Je_call rfl fn24 rfl (qcmp x (r) hr (hfx.mono (by omega)) y (s) hs (hfy.mono (by omega))))) rfl rfl ?_
  refine Tl_q (JO_q rfl rfl (Jq_geq rfl rfl rfl (b := _) (rfl))) rfl ?_
  refine Tl_end ?_
  refine At_then ?_
  refine Tc_cond rfl (fun hc8 => ?_) (fun hc8 => ?_)
  · skip
    refine Tc_seq ?_
    refine Tc_region ?_
    refine Tl_q (JO_q rfl rfl (Jq_load_agg rfl rfl rfl (by decide) ty25 (by decide) (Nat.le_of_ble_eq_true rfl) rfl)) rfl ?_
    refine Tl_e (JO_e rfl rfl (Je_call rfl fn36 rfl (qcanon x (r) hr (hfx.mono (by omega))))) rfl rfl ?_
    refine Tl_e (JO_e rfl rfl (Je_store rfl rfl rfl rfl ty25 rfl (by decide) (Nat.le_of_ble_eq_true rfl) rfl)) rfl rfl ?_
    refine Tl_end ?_
    refine At_then ?_
    exact Tc_ret1 (fun _ _ h => h) rfl (⟨_, _, rfl, rfl, .inl ⟨ty25, Nat.le_of_ble_eq_true rfl, rfl⟩⟩) (by rw [mx_ge (of_decide_eq_true hc8)]; rfl)
  · skip
    refine Tc_skipA ?_
    refine At_then ?_
    refine Tc_seq ?_
    refine Tc_region ?_
    refine Tl_q (JO_q rfl rfl (Jq_load_agg rfl rfl rfl (by decide) ty25 (by decide) (Nat.le_of_ble_eq_true rfl) rfl)) rfl ?_
    refine Tl_e (JO_e rfl rfl (Je_call rfl fn36 rfl (qcanon y (s) hs (hfy.mono (by omega))))) rfl rfl ?_
    refine Tl_e (JO_e rfl rfl (Je_store rfl rfl rfl rfl ty25 rfl (by decide) (Nat.le_of_ble_eq_true rfl) rfl)) rfl rfl ?_
    refine Tl_end ?_
    refine At_then ?_
    exact Tc_ret1 (fun _ _ h => h) rfl (⟨_, _, rfl, rfl, .inl ⟨ty25, Nat.le_of_ble_eq_true rfl, rfl⟩⟩) (by rw [mx_lt (of_decide_eq_false hc8)]; rfl)

end Go.Proofs.YtpabkdpijcbkgaaGreatDoor
