/- Walks: dyadic numbers and their reference, Exact and Rat. -/
import Derived.Test.YtpabkdpijcbkgaaDoorWkM
import Derived.Test.YtpabkdpijcbkgaaDoorDyQ
import Derived.Test.YtpabkdpijcbkgaaDoorFacts
set_option linter.unusedSimpArgs false
set_option linter.unusedVariables false
namespace Go.Proofs.YtpabkdpijcbkgaaDoor
open Go Go.RowKit Rc


theorem zeros_w (n : Nat) (h : n ≠ 0) (hl : (limbs n).length ≤ 10000000000000) : Ctr Tryd.prog 56 [V.one (natL (limbs n))] (R.one (V.one (Leaf.val (.int .i64 ((tz n : Nat) : Int))))) := by
  have h1 := zeros_spec (limbs n) (small_limbs _) (by rw [val_limbs]; exact h) hl
  rwa [val_limbs] at h1

theorem rShlZ (l : List Nat) (k : Int) (h0 : 0 ≤ k) (hk : k ≤ 1048576) (hs : Small l) (hl : l.length ≤ 9000000000000) (m : Nat) (hm : val l = m) : Ctr Tryd.prog 25 [V.one (natL l), V.one (Leaf.val (.int .i64 k))] (R.tup [V.one (natL (limbs (m * 2 ^ k.toNat))), V.one (Leaf.val (.int .i64 0))]) := by
  obtain ⟨n, rfl⟩ := Int.eq_ofNat_of_zero_le h0
  exact rShl_spec l n hs (by omega) hl m hm

theorem rbits_w (a : List Nat) (hsa : Small a) (hla : a.length ≤ 10000000000000) (m : Nat) (hm : val a = m) : Ctr Tryd.prog 20 [V.one (natL a)] (R.one (V.one (Leaf.val (.int .i64 ((bl m : Nat) : Int))))) := by
  subst hm
  exact rbits_spec a hsa hla

set_option maxRecDepth 10000 in
theorem qnum (x : Qr) (r : Rat) (hr : x.q = r) (hfx : Fit 1000000000000 x) : Ctr Tryd.prog 54 [qV x] (R.one (zV (zOf r.num))) := by
  refine Ctr.of_body Tryd.func54 rfl Tryd.ntmps54 (Nat.le_of_ble_eq_true rfl) (fun w0 A0 => ?_)
  haveI ir : Br r 1000000000000 := Br.fitq hr hfx
  refine Tc_seq ?_
  refine Tc_region ?_
  refine Tl_e (JO_e rfl rfl (Je_box (n := 0) rfl rfl rfl)) rfl rfl ?_
  refine Tl_e (JO_e rfl rfl (Je_alloc (n := 1) rfl tz65 rfl)) rfl rfl ?_
  refine Tl_end ?_
  refine At_then ?_
  refine Tc_seq ?_
  refine Tc_region ?_
  refine Tl_q (JO_q rfl rfl (Jq_load_agg rfl rfl rfl (by decide) ty25 (by decide) (Nat.le_of_ble_eq_true rfl) rfl)) rfl ?_
  refine Tl_e (JO_e rfl rfl (Je_call rfl fn60 rfl (qcanon x (r) hr (hfx.mono (by omega))))) rfl rfl ?_
  refine Tl_e (JO_e rfl rfl (Je_alloc (n := 2) rfl tz25 rfl)) rfl rfl ?_
  refine Tl_e (JO_e rfl rfl (Je_store rfl rfl rfl rfl ty25 rfl (by decide) (Nat.le_of_ble_eq_true rfl) rfl)) rfl rfl ?_
  refine Tl_end ?_
  refine At_then ?_
  refine Tc_seq ?_
  refine Tc_region ?_
  refine Tl_q (JO_q rfl rfl (Jq_fieldAddr rfl rfl fo25_0 rfl)) rfl ?_
  refine Tl_q (JO_q rfl rfl (Jq_load rfl rfl rfl (by decide) ty4 rfl)) rfl ?_
  refine Tl_q (JO_q rfl rfl (Jq_fieldAddr rfl rfl fo25_1 rfl)) rfl ?_
  refine Tl_q (JO_q rfl rfl (Jq_load rfl rfl rfl (by decide) ty23 rfl)) rfl ?_
  refine Tl_q (JO_q rfl rfl (Jq_build rfl tz65 rfl pl65 rfl)) rfl ?_
  refine Tl_e (JO_e rfl rfl (Je_store rfl rfl rfl rfl ty65 rfl (by decide) (Nat.le_of_ble_eq_true rfl) rfl)) rfl rfl ?_
  refine Tl_end ?_
  refine At_then ?_
  exact Tc_ret1 (fun _ _ h => h) rfl (⟨_, _, rfl, rfl, .inl ⟨ty65, Nat.le_of_ble_eq_true rfl, rfl⟩⟩) rfl

set_option maxRecDepth 10000 in
theorem qden (x : Qr) (r : Rat) (hr : x.q = r) (hfx : Fit 1000000000000 x) : Ctr Tryd.prog 55 [qV x] (R.one (V.one (natL (limbs r.den)))) := by
  refine Ctr.of_body Tryd.func55 rfl Tryd.ntmps55 (Nat.le_of_ble_eq_true rfl) (fun w0 A0 => ?_)
  haveI ir : Br r 1000000000000 := Br.fitq hr hfx
  refine Tc_seq ?_
  refine Tc_region ?_
  refine Tl_e (JO_e rfl rfl (Je_box (n := 0) rfl rfl rfl)) rfl rfl ?_
  refine Tl_q (JO_q rfl rfl (Jq_assign_nil rfl)) rfl ?_
  refine Tl_end ?_
  refine At_then ?_
  refine Tc_seq ?_
  refine Tc_region ?_
  refine Tl_q (JO_q rfl rfl (Jq_load_agg rfl rfl rfl (by decide) ty25 (by decide) (Nat.le_of_ble_eq_true rfl) rfl)) rfl ?_
  refine Tl_e (JO_e rfl rfl (Je_call rfl fn60 rfl (qcanon x (r) hr (hfx.mono (by omega))))) rfl rfl ?_
  refine Tl_e (JO_e rfl rfl (Je_call rfl fn84 rfl (qunder (qOf (r)) (Br.use (by omega))))) rfl rfl ?_
  refine Tl_e (JO_e rfl rfl (Je_call rfl fn63 rfl (make_w (dl (qOf (r)).d) (small_dl (qOf (r)).hd) (len_dl (Br.use (r := (r)) (Nat.le_refl _)).d (by omega)) (dn (val (qOf (r)).d)) (val_dl _)))) rfl rfl ?_
  refine Tl_q (JO_q rfl rfl (Jq_assign rfl rfl)) rfl ?_
  refine Tl_end ?_
  refine At_then ?_
  exact Tc_ret1 (fun _ _ h => h) rfl rfl (congrArg (fun n => R.one (V.one (natL (limbs n)))) (dn_qOf r))

set_option maxRecDepth 10000 in
theorem rqden (x : Qr) (r : Rat) (hr : x.q = r) (hfx : Fit 1000000000000 x) : Ctr Tryd.prog 76 [qV x] (R.one (V.one (natL (limbs r.den)))) := by
  refine Ctr.of_body Tryd.func76 rfl Tryd.ntmps76 (Nat.le_of_ble_eq_true rfl) (fun w0 A0 => ?_)
  haveI ir : Br r 1000000000000 := Br.fitq hr hfx
  refine Tc_seq ?_
  refine Tc_region ?_
  refine Tl_e (JO_e rfl rfl (Je_box (n := 0) rfl rfl rfl)) rfl rfl ?_
  refine Tl_q (JO_q rfl rfl (Jq_assign_nil rfl)) rfl ?_
  refine Tl_end ?_
  refine At_then ?_
  refine Tc_seq ?_
  refine Tc_region ?_
  refine Tl_q (JO_q rfl rfl (Jq_load_agg rfl rfl rfl (by decide) ty25 (by decide) (Nat.le_of_ble_eq_true rfl) rfl)) rfl ?_
  refine Tl_e (JO_e rfl rfl (Je_call rfl fn26 rfl (rqcanon x (r) hr (hfx.mono (by omega))))) rfl rfl ?_
  refine Tl_q (JO_q rfl rfl (Jq_fieldT rfl rfl ft25_2 ty23 rfl)) rfl ?_
  refine Tl_e (JO_e rfl rfl (Je_call rfl fn52 rfl (rqone (limbs (cden r)) (small_limbs _) (Br.use (r := r) (by omega)).d))) rfl rfl ?_
  refine Tl_q (JO_q rfl rfl (Jq_assign rfl rfl)) rfl ?_
  refine Tl_end ?_
  refine At_then ?_
  exact Tc_ret1 (fun _ _ h => h) rfl rfl (congrArg (fun n => R.one (V.one (natL (limbs n)))) (dn_qOf r))

set_option maxRecDepth 10000 in
theorem dnormal (s : Bool) (l : List Nat) (e : Int) (hs : Small l) (hl : l.length ≤ 100000000000) (he1 : -1000000000000000 ≤ e) (he2 : e ≤ 1000000000000000) (n : Nat) (hn : val l = n) : Ctr Tryd.prog 58 [V.one (Leaf.val (.bool s)), V.one (natL l), V.one (Leaf.val (.int .i64 e))] (R.tup [dV (nrm s n e), V.one (Leaf.val (.bool (nok n e)))]) := by
  refine Ctr.of_body Tryd.func58 rfl Tryd.ntmps58 (Nat.le_of_ble_eq_true rfl) (fun w0 A0 => ?_)
  haveI i0 : Bn n 100000000000 := by subst hn; exact Bn.val hs hl
  have hb := bl_le_len (Bn.use (n := n) (Nat.le_refl _))
  have ht := tz_le_len (Bn.use (n := n) (Nat.le_refl _))
  refine Tc_seq ?_
  refine Tc_region ?_
  refine Tl_e (JO_e rfl rfl (Je_alloc (n := 0) rfl tz29 rfl)) rfl rfl ?_
  refine Tl_q (JO_q rfl rfl (Jq_assign rfl rfl)) rfl ?_
  refine Tl_end ?_
  refine At_then ?_
  refine Tc_seq ?_
  refine Tc_region ?_
  refine Tl_q (JO_q rfl rfl (Jq_move rfl rfl)) rfl ?_
  refine Tl_e (JO_e rfl rfl (Je_call rfl fn63 rfl (make_w l hs (Nat.le_trans hl (by omega)) (n) hn))) rfl rfl ?_
  refine Tl_q (JO_q rfl rfl (Jq_assign rfl rfl)) rfl ?_
  refine Tl_end ?_
  refine At_then ?_
  refine Tc_seq ?_
  refine Tc_seq ?_
  refine Tc_region ?_
  refine Tl_q (JO_q rfl rfl (Jq_move rfl rfl)) rfl ?_
  refine Tl_q (JO_q rfl rfl (Jq_len rfl rfl un23)) rfl ?_
  by_cases hn0 : n = 0
  · skip
    refine Tl_q (JO_q rfl rfl (Jq_eql rfl rfl rfl (b := true) (eT (by rw [hn0, limbs_zero]; rfl)))) rfl ?_
    refine Tl_end ?_
    refine At_then ?_
    refine Tc_t rfl ?_
    refine Tc_seq ?_
    refine Tc_region ?_
    refine Tl_q (JO_q rfl rfl (Jq_build rfl tz29 rfl pl29 rfl)) rfl ?_
    refine Tl_e (JO_e rfl rfl (Je_store rfl rfl rfl rfl ty29 rfl (by decide) (Nat.le_of_ble_eq_true rfl) rfl)) rfl rfl ?_
    refine Tl_q (JO_q rfl rfl (Jq_assign rfl rfl)) rfl ?_
    refine Tl_end ?_
    refine At_then ?_
    exact Tc_ret2 (fun _ _ h => h) rfl (⟨_, _, rfl, rfl, .inl ⟨ty29, Nat.le_of_ble_eq_true rfl, rfl⟩⟩) rfl (by rw [hn0, nrm_zero, nok_zero, dV_zero]; rfl)
  · skip
    refine Tl_q (JO_q rfl rfl (Jq_eql rfl rfl rfl (b := false) (eF (by have := limbs_len_pos.2 hn0; omega)))) rfl ?_
    refine Tl_end ?_
    refine At_then ?_
    refine Tc_f rfl ?_
    refine Tc_skipA ?_
    refine At_then ?_
    refine Tc_seq ?_
    refine Tc_region ?_
    refine Tl_q (JO_q rfl rfl (Jq_move rfl rfl)) rfl ?_
    refine Tl_e (JO_e rfl rfl (Je_call rfl fn56 rfl (zeros_w n hn0 (Bn.use (by omega))))) rfl rfl ?_
    refine Tl_q (JO_q rfl rfl (Jq_assign rfl rfl)) rfl ?_
    refine Tl_end ?_
    refine At_then ?_
    refine Tc_seq ?_
    refine Tc_seq ?_
    refine Tc_region ?_
    refine Tl_q (JO_q rfl rfl (Jq_move rfl rfl)) rfl ?_
    refine Tl_q (JO_q rfl rfl (Jq_move rfl rfl)) rfl ?_
    refine Tl_q (JO_q rfl rfl (Jq_add rfl rfl rfl (r := e + (tz n : Int)) (w64 rfl (by omega) (by omega)))) rfl ?_
    refine Tl_q (JO_q rfl rfl (Jq_assign rfl rfl)) rfl ?_
    refine Tl_end ?_
    refine At_then ?_
    refine Tc_seq ?_
    refine Tc_region ?_
    refine Tl_q (JO_q rfl rfl (Jq_move rfl rfl)) rfl ?_
    by_cases h1 : e + (tz n : Int) < -1048576
    · skip
      refine Tl_q (JO_q rfl rfl (Jq_lss rfl rfl rfl (b := true) (dT (by omega)))) rfl ?_
      refine Tl_q (JO_q rfl rfl (Jq_move rfl rfl)) rfl ?_
      refine Tl_q (JO_skip rfl rfl rfl) rfl ?_
      refine Tl_q (JO_skip rfl rfl rfl) rfl ?_
      refine Tl_q (JO_q rfl rfl (Jq_pick_t rfl rfl rfl)) rfl ?_
      refine Tl_end ?_
      refine At_then ?_
      refine Tc_t rfl ?_
      refine Tc_seq ?_
      refine Tc_region ?_
      refine Tl_q (JO_q rfl rfl (Jq_build rfl tz29 rfl pl29 rfl)) rfl ?_
      refine Tl_e (JO_e rfl rfl (Je_store rfl rfl rfl rfl ty29 rfl (by decide) (Nat.le_of_ble_eq_true rfl) rfl)) rfl rfl ?_
      refine Tl_q (JO_q rfl rfl (Jq_assign rfl rfl)) rfl ?_
      refine Tl_end ?_
      refine At_then ?_
      exact Tc_ret2 (fun _ _ h => h) rfl (⟨_, _, rfl, rfl, .inl ⟨ty29, Nat.le_of_ble_eq_true rfl, rfl⟩⟩) rfl (by rw [nrm_out hn0 (.inl h1), nok_out hn0 (.inl h1), dV_zero]; rfl)
    · skip
      refine Tl_q (JO_q rfl rfl (Jq_lss rfl rfl rfl (b := false) (dF (by omega)))) rfl ?_
      refine Tl_q (JO_q rfl rfl (Jq_move rfl rfl)) rfl ?_
      refine Tl_q (JO_qg rfl rfl rfl rfl (Jq_move rfl rfl)) rfl ?_
      by_cases h2 : 1048576 < e + (tz n : Int)
      · skip
        refine Tl_q (JO_qg rfl rfl rfl rfl (Jq_gtr rfl rfl rfl (b := true) (dT (by omega)))) rfl ?_
        refine Tl_q (JO_q rfl rfl (Jq_pick_f rfl rfl rfl)) rfl ?_
        refine Tl_end ?_
        refine At_then ?_
        refine Tc_t rfl ?_
        refine Tc_seq ?_
        refine Tc_region ?_
        refine Tl_q (JO_q rfl rfl (Jq_build rfl tz29 rfl pl29 rfl)) rfl ?_
        refine Tl_e (JO_e rfl rfl (Je_store rfl rfl rfl rfl ty29 rfl (by decide) (Nat.le_of_ble_eq_true rfl) rfl)) rfl rfl ?_
        refine Tl_q (JO_q rfl rfl (Jq_assign rfl rfl)) rfl ?_
        refine Tl_end ?_
        refine At_then ?_
        exact Tc_ret2 (fun _ _ h => h) rfl (⟨_, _, rfl, rfl, .inl ⟨ty29, Nat.le_of_ble_eq_true rfl, rfl⟩⟩) rfl (by rw [nrm_out hn0 (.inr h2), nok_out hn0 (.inr h2), dV_zero]; rfl)
      · skip
        refine Tl_q (JO_qg rfl rfl rfl rfl (Jq_gtr rfl rfl rfl (b := false) (dF (by omega)))) rfl ?_
        refine Tl_q (JO_q rfl rfl (Jq_pick_f rfl rfl rfl)) rfl ?_
        refine Tl_end ?_
        refine At_then ?_
        refine Tc_f rfl ?_
        refine Tc_skipA ?_
        refine At_then ?_
        refine Tc_seq ?_
        refine Tc_region ?_
        refine Tl_q (JO_q rfl rfl (Jq_move rfl rfl)) rfl ?_
        refine Tl_q (JO_q rfl rfl (Jq_move rfl rfl)) rfl ?_
        refine Tl_q (JO_q rfl rfl (Jq_move rfl rfl)) rfl ?_
        refine Tl_e (JO_e rfl rfl (Je_call rfl fn88 rfl (dshr_spec n (tz n : Int) (by omega) (Bn.use (by omega))))) rfl rfl ?_
        refine Tl_q (JO_q rfl rfl (Jq_move rfl rfl)) rfl ?_
        refine Tl_q (JO_q rfl rfl (Jq_build rfl tz29 rfl pl29 rfl)) rfl ?_
        refine Tl_e (JO_e rfl rfl (Je_store rfl rfl rfl rfl ty29 rfl (by decide) (Nat.le_of_ble_eq_true rfl) rfl)) rfl rfl ?_
        refine Tl_q (JO_q rfl rfl (Jq_assign rfl rfl)) rfl ?_
        refine Tl_end ?_
        refine At_then ?_
        exact Tc_ret2 (fun _ _ h => h) rfl (⟨_, _, rfl, rfl, .inl ⟨ty29, Nat.le_of_ble_eq_true rfl, rfl⟩⟩) rfl (by rw [nrm_in hn0 (by omega) (by omega), nok_in hn0 (by omega) (by omega)]; rfl)

set_option maxRecDepth 10000 in
theorem dcanon (s : Bool) (l : List Nat) (e : Int) (hs : Small l) (hl : l.length ≤ 100000000000) (he1 : -1000000000000000 ≤ e) (he2 : e ≤ 1000000000000000) (n : Nat) (hn : val l = n) : Ctr Tryd.prog 49 [V.one (Leaf.val (.bool s)), V.one (natL l), V.one (Leaf.val (.int .i64 e))] (R.tup [dV (nrm s n e), V.one (Leaf.val (.bool (nok n e)))]) := by
  refine Ctr.of_body Tryd.func49 rfl Tryd.ntmps49 (Nat.le_of_ble_eq_true rfl) (fun w0 A0 => ?_)
  haveI i0 : Bn n 100000000000 := by subst hn; exact Bn.val hs hl
  have hb := bl_le_len (Bn.use (n := n) (Nat.le_refl _))
  have ht := tz_le_len (Bn.use (n := n) (Nat.le_refl _))
  refine Tc_seq ?_
  refine Tc_region ?_
  refine Tl_e (JO_e rfl rfl (Je_alloc (n := 0) rfl tz29 rfl)) rfl rfl ?_
  refine Tl_q (JO_q rfl rfl (Jq_assign rfl rfl)) rfl ?_
  refine Tl_end ?_
  refine At_then ?_
  refine Tc_seq ?_
  refine Tc_region ?_
  refine Tl_q (JO_q rfl rfl (Jq_move rfl rfl)) rfl ?_
  refine Tl_e (JO_e rfl rfl (Je_call rfl fn47 rfl (rmake_w l hs (Nat.le_trans hl (by omega)) (n) hn))) rfl rfl ?_
  refine Tl_q (JO_q rfl rfl (Jq_assign rfl rfl)) rfl ?_
  refine Tl_end ?_
  refine At_then ?_
  refine Tc_seq ?_
  refine Tc_seq ?_
  refine Tc_region ?_
  refine Tl_q (JO_q rfl rfl (Jq_move rfl rfl)) rfl ?_
  refine Tl_q (JO_q rfl rfl (Jq_len rfl rfl un23)) rfl ?_
  by_cases hn0 : n = 0
  · skip
    refine Tl_q (JO_q rfl rfl (Jq_eql rfl rfl rfl (b := true) (eT (by rw [hn0, limbs_zero]; rfl)))) rfl ?_
    refine Tl_end ?_
    refine At_then ?_
    refine Tc_t rfl ?_
    refine Tc_seq ?_
    refine Tc_region ?_
    refine Tl_q (JO_q rfl rfl (Jq_build rfl tz29 rfl pl29 rfl)) rfl ?_
    refine Tl_e (JO_e rfl rfl (Je_store rfl rfl rfl rfl ty29 rfl (by decide) (Nat.le_of_ble_eq_true rfl) rfl)) rfl rfl ?_
    refine Tl_q (JO_q rfl rfl (Jq_assign rfl rfl)) rfl ?_
    refine Tl_end ?_
    refine At_then ?_
    exact Tc_ret2 (fun _ _ h => h) rfl (⟨_, _, rfl, rfl, .inl ⟨ty29, Nat.le_of_ble_eq_true rfl, rfl⟩⟩) rfl (by rw [hn0, nrm_zero, nok_zero, dV_zero]; rfl)
  · skip
    refine Tl_q (JO_q rfl rfl (Jq_eql rfl rfl rfl (b := false) (eF (by have := limbs_len_pos.2 hn0; omega)))) rfl ?_
    refine Tl_end ?_
    refine At_then ?_
    refine Tc_f rfl ?_
    refine Tc_skipA ?_
    refine At_then ?_
    refine Tc_seq ?_
    refine Tc_block ?_
    refine Tc_loopR (fun m Γ H => ∃ (x : Nat) (f : Int), x = m ∧ Γ = [(0, some (D.bool s)), (1, some (D.v (V.one (natL (limbs x))))), (2, some (D.int f)), (6, some (D.ptr 0 0))] ∧ H = [some ⟨29, [Leaf.val (.bool false), nilL, Leaf.val (.int .i64 0)], none, none⟩] ∧ x ≠ 0 ∧ (limbs x).length ≤ 100000000000 ∧ f + bl x = e + bl n ∧ nrm s x f = nrm s n e ∧ nok x f = nok n e) ⟨n, e, rfl, rfl, rfl, hn0, Bn.use (Nat.le_refl _), rfl, rfl, rfl⟩ ⟨rfl, rfl, rfl, rfl, trivial⟩ ?_
    rintro m Γ H ⟨x, f, rfl, rfl, rfl, hx0, hxl, hf, hnr, hok⟩
    have hxb := bl_le_len hxl; have hxp := limbs_len_pos.2 hx0
    refine Tc_seq ?_
    refine Tc_seq ?_
    refine Tc_region ?_
    refine Tl_q (JO_q rfl rfl (Jq_move rfl rfl)) rfl ?_
    refine Tl_q (JO_q rfl rfl (Jq_index1 rfl rfl rfl un23 ty46 (by omega) (by omega) (get_limb0 hx0))) rfl ?_
    refine Tl_q (JO_q rfl rfl (Jq_load_ref rfl rfl ty46)) rfl ?_
    refine Tl_q (JO_q rfl rfl (Jq_and rfl rfl rfl (r := ((x % 4294967296 % 2 : Nat) : Int)) (and_one (Nat.mod_lt _ (by decide))))) rfl ?_
    by_cases h2 : x % 2 = 0
    · skip
      refine Tl_q (JO_q rfl rfl (Jq_eql rfl rfl rfl (b := true) (eT (by omega)))) rfl ?_
      refine Tl_end ?_
      refine At_then ?_
      refine Tc_t rfl ?_
      refine Tc_skipA ?_
      refine At_then ?_
      refine Tc_block ?_
      refine Tc_seq ?_
      refine Tc_region ?_
      refine Tl_q (JO_q rfl rfl (Jq_move rfl rfl)) rfl ?_
      refine Tl_e (JO_e rfl rfl (Je_call rfl fn80 rfl (rShr_spec (limbs x) 1 (small_limbs _) (by decide) (by omega) x (val_limbs _)))) rfl rfl ?_
      refine Tl_q (JO_q rfl rfl (Jq_move rfl rfl)) rfl ?_
      refine Tl_q (JO_q rfl rfl (Jq_extract rfl rfl rfl)) rfl ?_
      refine Tl_q (JO_q rfl rfl (Jq_extract rfl rfl rfl)) rfl ?_
      refine Tl_q (JO_q rfl rfl (Jq_assign rfl rfl)) rfl ?_
      refine Tl_end ?_
      refine At_then ?_
      refine Tc_region ?_
      refine Tl_q (JO_q rfl rfl (Jq_move rfl rfl)) rfl ?_
      refine Tl_q (JO_q rfl rfl (Jq_add rfl rfl rfl (r := f + 1) (w64 (by omega) (by omega) (by omega)))) rfl ?_
      refine Tl_q (JO_q rfl rfl (Jq_assign rfl rfl)) rfl ?_
      refine Tl_end ?_
      refine At_block ?_
      exact At_next (m' := x / 2 ^ 1) (by omega) ⟨x / 2 ^ 1, f + 1, rfl, rfl, rfl, by omega, Nat.le_trans (limbs_length_mono (Nat.div_le_self _ _)) hxl, by have := bl_half (x := x) (by omega); rw [Nat.pow_one]; omega, (nrm_even hx0 h2).1.trans hnr, (nrm_even (s := s) hx0 h2).2.trans hok⟩ ⟨rfl, rfl, rfl, rfl, trivial⟩
    · skip
      refine Tl_q (JO_q rfl rfl (Jq_eql rfl rfl rfl (b := false) (eF (by omega)))) rfl ?_
      refine Tl_end ?_
      refine At_then ?_
      refine Tc_f rfl ?_
      refine Tc_exitA ?_
      refine At_then_exit ?_
      refine At_then_exit ?_
      refine At_block_exit ?_
      refine At_then ?_
      refine Tc_seq ?_
      refine Tc_seq ?_
      refine Tc_region ?_
      refine Tl_q (JO_q rfl rfl (Jq_move rfl rfl)) rfl ?_
      by_cases h3 : f < -1048576
      · skip
        refine Tl_q (JO_q rfl rfl (Jq_lss rfl rfl rfl (b := true) (dT (by omega)))) rfl ?_
        refine Tl_q (JO_q rfl rfl (Jq_move rfl rfl)) rfl ?_
        refine Tl_q (JO_skip rfl rfl rfl) rfl ?_
        refine Tl_q (JO_skip rfl rfl rfl) rfl ?_
        refine Tl_q (JO_q rfl rfl (Jq_pick_t rfl rfl rfl)) rfl ?_
        refine Tl_end ?_
        refine At_then ?_
        refine Tc_t rfl ?_
        refine Tc_seq ?_
        refine Tc_region ?_
        refine Tl_q (JO_q rfl rfl (Jq_build rfl tz29 rfl pl29 rfl)) rfl ?_
        refine Tl_e (JO_e rfl rfl (Je_store rfl rfl rfl rfl ty29 rfl (by decide) (Nat.le_of_ble_eq_true rfl) rfl)) rfl rfl ?_
        refine Tl_q (JO_q rfl rfl (Jq_assign rfl rfl)) rfl ?_
        refine Tl_end ?_
        refine At_then ?_
        exact Tc_ret2 (fun _ _ h => h) rfl (⟨_, _, rfl, rfl, .inl ⟨ty29, Nat.le_of_ble_eq_true rfl, rfl⟩⟩) rfl (by have h := nrm_odd_out (s := s) (n := x) (by omega) (.inl h3); rw [← hnr, ← hok, h.1, h.2, dV_zero]; rfl)
      · skip
        refine Tl_q (JO_q rfl rfl (Jq_lss rfl rfl rfl (b := false) (dF (by omega)))) rfl ?_
        refine Tl_q (JO_q rfl rfl (Jq_move rfl rfl)) rfl ?_
        refine Tl_q (JO_qg rfl rfl rfl rfl (Jq_move rfl rfl)) rfl ?_
        by_cases h4 : 1048576 < f
        · skip
          refine Tl_q (JO_qg rfl rfl rfl rfl (Jq_gtr rfl rfl rfl (b := true) (dT (by omega)))) rfl ?_
          refine Tl_q (JO_q rfl rfl (Jq_pick_f rfl rfl rfl)) rfl ?_
          refine Tl_end ?_
          refine At_then ?_
          refine Tc_t rfl ?_
          refine Tc_seq ?_
          refine Tc_region ?_
          refine Tl_q (JO_q rfl rfl (Jq_build rfl tz29 rfl pl29 rfl)) rfl ?_
          refine Tl_e (JO_e rfl rfl (Je_store rfl rfl rfl rfl ty29 rfl (by decide) (Nat.le_of_ble_eq_true rfl) rfl)) rfl rfl ?_
          refine Tl_q (JO_q rfl rfl (Jq_assign rfl rfl)) rfl ?_
          refine Tl_end ?_
          refine At_then ?_
          exact Tc_ret2 (fun _ _ h => h) rfl (⟨_, _, rfl, rfl, .inl ⟨ty29, Nat.le_of_ble_eq_true rfl, rfl⟩⟩) rfl (by have h := nrm_odd_out (s := s) (n := x) (by omega) (.inr h4); rw [← hnr, ← hok, h.1, h.2, dV_zero]; rfl)
        · skip
          refine Tl_q (JO_qg rfl rfl rfl rfl (Jq_gtr rfl rfl rfl (b := false) (dF (by omega)))) rfl ?_
          refine Tl_q (JO_q rfl rfl (Jq_pick_f rfl rfl rfl)) rfl ?_
          refine Tl_end ?_
          refine At_then ?_
          refine Tc_f rfl ?_
          refine Tc_skipA ?_
          refine At_then ?_
          refine Tc_seq ?_
          refine Tc_region ?_
          refine Tl_q (JO_q rfl rfl (Jq_move rfl rfl)) rfl ?_
          refine Tl_q (JO_q rfl rfl (Jq_move rfl rfl)) rfl ?_
          refine Tl_q (JO_q rfl rfl (Jq_move rfl rfl)) rfl ?_
          refine Tl_q (JO_q rfl rfl (Jq_build rfl tz29 rfl pl29 rfl)) rfl ?_
          refine Tl_e (JO_e rfl rfl (Je_store rfl rfl rfl rfl ty29 rfl (by decide) (Nat.le_of_ble_eq_true rfl) rfl)) rfl rfl ?_
          refine Tl_q (JO_q rfl rfl (Jq_assign rfl rfl)) rfl ?_
          refine Tl_end ?_
          refine At_then ?_
          exact Tc_ret2 (fun _ _ h => h) rfl (⟨_, _, rfl, rfl, .inl ⟨ty29, Nat.le_of_ble_eq_true rfl, rfl⟩⟩) rfl (by have h := nrm_odd_in (s := s) (n := x) (e := f) (by omega) (by omega) (by omega); rw [← hnr, ← hok, h.1, h.2]; rfl)

set_option maxRecDepth 10000 in
theorem dexact (x : Qr) (r : Rat) (hr : x.q = r) (hfx : Fit 10000000000 x) : Ctr Tryd.prog 29 [qV x] (R.tup [dV (exD r), V.one (Leaf.val (.bool (exOk r)))]) := by
  refine Ctr.of_body Tryd.func29 rfl Tryd.ntmps29 (Nat.le_of_ble_eq_true rfl) (fun w0 A0 => ?_)
  haveI ir : Br r 10000000000 := Br.fitq hr hfx
  have ht := tz_le_len (Bn.use (n := r.den) (Nat.le_refl _))
  refine Tc_seq ?_
  refine Tc_region ?_
  refine Tl_e (JO_e rfl rfl (Je_box (n := 0) rfl rfl rfl)) rfl rfl ?_
  refine Tl_e (JO_e rfl rfl (Je_alloc (n := 1) rfl tz29 rfl)) rfl rfl ?_
  refine Tl_q (JO_q rfl rfl (Jq_assign rfl rfl)) rfl ?_
  refine Tl_end ?_
  refine At_then ?_
  refine Tc_seq ?_
  refine Tc_drawK 1 [none, none, none, none, some 2, some 2, none] [2] follows (by kernel_rfl) ?_
  refine DK_q (JO_q rfl rfl (Jq_load_agg rfl rfl rfl (by decide) ty25 (by decide) (Nat.le_of_ble_eq_true rfl) rfl)) ?_
  refine DK_c rfl rfl (Jd_call rfl fn54 rfl (qnum x (r) hr (hfx.mono (by omega)))) ?_
  refine DK_q (JO_q rfl rfl (Jq_load_agg rfl rfl rfl (by decide) ty25 (by decide) (Nat.le_of_ble_eq_true rfl) rfl)) ?_
  refine DK_c rfl rfl (Jd_call rfl fn55 rfl (qden x (r) hr (hfx.mono (by omega)))) ?_
  refine DK_s 2 rfl rfl rfl (Jd_alloc (i := 2) rfl tz65 rfl) ?_
  refine DK_s 2 rfl rfl rfl (Jd_store rfl rfl rfl rfl ty65 rfl (by decide) (Nat.le_of_ble_eq_true rfl) rfl) ?_
  refine DK_q (JO_q rfl rfl (Jq_assign rfl rfl)) ?_
  refine DK_nil ?_
  refine At_then ?_
  refine Tc_seq ?_
  refine Tc_region ?_
  refine Tl_q (JO_q rfl rfl (Jq_move rfl rfl)) rfl ?_
  refine Tl_e (JO_e rfl rfl (Je_call rfl fn56 rfl (zeros_w r.den r.den_nz (Bn.use (by omega))))) rfl rfl ?_
  refine Tl_q (JO_q rfl rfl (Jq_assign rfl rfl)) rfl ?_
  refine Tl_end ?_
  refine At_then ?_
  refine Tc_seq ?_
  refine Tc_seq ?_
  refine Tc_region ?_
  refine Tl_q (JO_q rfl rfl (Jq_move rfl rfl)) rfl ?_
  refine Tl_e (JO_e rfl rfl (Je_call rfl fn57 rfl (bits_w (limbs (r.den)) (small_limbs _) (Bn.use (by omega)) (r.den) (val_limbs _)))) rfl rfl ?_
  refine Tl_q (JO_q rfl rfl (Jq_move rfl rfl)) rfl ?_
  refine Tl_q (JO_q rfl rfl (Jq_add rfl rfl rfl (r := (tz r.den : Int) + 1) (w64 rfl (by omega) (by omega)))) rfl ?_
  by_cases h1 : bl r.den ≠ tz r.den + 1
  · skip
    refine Tl_q (JO_q rfl rfl (Jq_neq rfl rfl rfl (b := true) (nT (by omega)))) rfl ?_
    refine Tl_end ?_
    refine At_then ?_
    refine Tc_t rfl ?_
    refine Tc_seq ?_
    refine Tc_region ?_
    refine Tl_q (JO_q rfl rfl (Jq_build rfl tz29 rfl pl29 rfl)) rfl ?_
    refine Tl_e (JO_e rfl rfl (Je_store rfl rfl rfl rfl ty29 rfl (by decide) (Nat.le_of_ble_eq_true rfl) rfl)) rfl rfl ?_
    refine Tl_q (JO_q rfl rfl (Jq_assign rfl rfl)) rfl ?_
    refine Tl_end ?_
    refine At_then ?_
    exact Tc_ret2 (fun _ _ h => h) rfl (⟨_, _, rfl, rfl, .inl ⟨ty29, Nat.le_of_ble_eq_true rfl, rfl⟩⟩) rfl (by unfold exD exOk; rw [if_neg (fun e => h1 e), if_neg (fun e => h1 e), dV_zero]; rfl)
  · skip
    refine Tl_q (JO_q rfl rfl (Jq_neq rfl rfl rfl (b := false) (nF (by omega)))) rfl ?_
    refine Tl_end ?_
    refine At_then ?_
    refine Tc_f rfl ?_
    refine Tc_skipA ?_
    refine At_then ?_
    refine Tc_seq ?_
    refine Tc_region ?_
    refine Tl_q (JO_q rfl rfl (Jq_fieldAddr rfl rfl fo65_0 rfl)) rfl ?_
    refine Tl_q (JO_q rfl rfl (Jq_load rfl rfl rfl (by decide) ty4 rfl)) rfl ?_
    refine Tl_q (JO_q rfl rfl (Jq_fieldAddr rfl rfl fo65_1 rfl)) rfl ?_
    refine Tl_q (JO_q rfl rfl (Jq_load rfl rfl rfl (by decide) ty23 rfl)) rfl ?_
    refine Tl_q (JO_q rfl rfl (Jq_move rfl rfl)) rfl ?_
    refine Tl_q (JO_q rfl rfl (Jq_neg rfl rfl (r := -(tz r.den : Int)) (w64 (by omega) (by omega) (by omega)))) rfl ?_
    refine Tl_e (JO_e rfl rfl (Je_call rfl fn58 rfl (dnormal (decide (r.num < 0)) (limbs (Int.natAbs (r.num))) (-(tz r.den : Int)) (small_limbs _) (Bz.use (z := r.num) (by omega)) (by omega) (by omega) (Int.natAbs (r.num)) (val_limbs _)))) rfl rfl ?_
    refine Tl_q (JO_q rfl rfl (Jq_extract rfl rfl rfl)) rfl ?_
    refine Tl_q (JO_q rfl rfl (Jq_extract rfl rfl rfl)) rfl ?_
    refine Tl_e (JO_e rfl rfl (Je_store rfl rfl rfl rfl ty29 rfl (by decide) (Nat.le_of_ble_eq_true rfl) rfl)) rfl rfl ?_
    refine Tl_q (JO_q rfl rfl (Jq_assign rfl rfl)) rfl ?_
    refine Tl_end ?_
    refine At_then ?_
    exact Tc_ret2 (fun _ _ h => h) rfl (⟨_, _, rfl, rfl, .inl ⟨ty29, Nat.le_of_ble_eq_true rfl, rfl⟩⟩) rfl (by unfold exD exOk; rw [if_pos (Classical.not_not.1 h1), if_pos (Classical.not_not.1 h1)]; rfl)

set_option maxRecDepth 10000 in
theorem rdexact (x : Qr) (r : Rat) (hr : x.q = r) (hfx : Fit 30000 x) : Ctr Tryd.prog 23 [qV x] (R.tup [dV (exD r), V.one (Leaf.val (.bool (exOk r)))]) := by
  refine Ctr.of_body Tryd.func23 rfl Tryd.ntmps23 (Nat.le_of_ble_eq_true rfl) (fun w0 A0 => ?_)
  haveI ir : Br r 30000 := Br.fitq hr hfx
  refine Tc_seq ?_
  refine Tc_region ?_
  refine Tl_e (JO_e rfl rfl (Je_box (n := 0) rfl rfl rfl)) rfl rfl ?_
  refine Tl_e (JO_e rfl rfl (Je_alloc (n := 1) rfl tz29 rfl)) rfl rfl ?_
  refine Tl_q (JO_q rfl rfl (Jq_assign rfl rfl)) rfl ?_
  refine Tl_end ?_
  refine At_then ?_
  refine Tc_seq ?_
  refine Tc_region ?_
  refine Tl_q (JO_q rfl rfl (Jq_load_agg rfl rfl rfl (by decide) ty25 (by decide) (Nat.le_of_ble_eq_true rfl) rfl)) rfl ?_
  refine Tl_e (JO_e rfl rfl (Je_call rfl fn26 rfl (rqcanon x (r) hr (hfx.mono (by omega))))) rfl rfl ?_
  refine Tl_e (JO_e rfl rfl (Je_store rfl rfl rfl rfl ty25 rfl (by decide) (Nat.le_of_ble_eq_true rfl) rfl)) rfl rfl ?_
  refine Tl_end ?_
  refine At_then ?_
  refine Tc_seq ?_
  refine Tc_seq ?_
  refine Tc_region ?_
  refine Tl_q (JO_q rfl rfl (Jq_fieldAddr rfl rfl fo25_2 rfl)) rfl ?_
  refine Tl_q (JO_q rfl rfl (Jq_load rfl rfl rfl (by decide) ty23 rfl)) rfl ?_
  refine Tl_q (JO_q rfl rfl (Jq_len rfl rfl un23)) rfl ?_
  by_cases h1 : r.den = 1
  · skip
    refine Tl_q (JO_q rfl rfl (Jq_eql rfl rfl rfl (b := true) (eT (by show ((limbs (cden r)).length : Int) = 0; rw [show cden r = 0 from if_pos h1, limbs_zero]; rfl)))) rfl ?_
    refine Tl_end ?_
    refine At_then ?_
    refine Tc_t rfl ?_
    refine Tc_seq ?_
    refine Tc_region ?_
    refine Tl_q (JO_q rfl rfl (Jq_fieldAddr rfl rfl fo25_0 rfl)) rfl ?_
    refine Tl_q (JO_q rfl rfl (Jq_load rfl rfl rfl (by decide) ty4 rfl)) rfl ?_
    refine Tl_q (JO_q rfl rfl (Jq_fieldAddr rfl rfl fo25_1 rfl)) rfl ?_
    refine Tl_q (JO_q rfl rfl (Jq_load rfl rfl rfl (by decide) ty23 rfl)) rfl ?_
    refine Tl_e (JO_e rfl rfl (Je_call rfl fn49 rfl (dcanon (cneg r) (limbs (cnum r)) 0 (small_limbs _) (Br.use (r := r) (by omega)).n (by omega) (by omega) (cnum r) (val_limbs _)))) rfl rfl ?_
    refine Tl_q (JO_q rfl rfl (Jq_extract rfl rfl rfl)) rfl ?_
    refine Tl_q (JO_q rfl rfl (Jq_extract rfl rfl rfl)) rfl ?_
    refine Tl_e (JO_e rfl rfl (Je_store rfl rfl rfl rfl ty29 rfl (by decide) (Nat.le_of_ble_eq_true rfl) rfl)) rfl rfl ?_
    refine Tl_q (JO_q rfl rfl (Jq_assign rfl rfl)) rfl ?_
    refine Tl_end ?_
    refine At_then ?_
    exact Tc_ret2 (fun _ _ h => h) rfl (⟨_, _, rfl, rfl, .inl ⟨ty29, Nat.le_of_ble_eq_true rfl, rfl⟩⟩) rfl (by rw [(ex_one h1).1, (ex_one h1).2]; rfl)
  · skip
    refine Tl_q (JO_q rfl rfl (Jq_eql rfl rfl rfl (b := false) (eF (by show ((limbs (cden r)).length : Int) ≠ 0; have := limbs_len_pos.2 (show cden r ≠ 0 from by unfold cden; rw [if_neg h1]; exact r.den_nz); omega)))) rfl ?_
    refine Tl_end ?_
    refine At_then ?_
    refine Tc_f rfl ?_
    refine Tc_skipA ?_
    refine At_then ?_
    refine Tc_seq ?_
    have hcd : cden r ≠ 0 := by unfold cden; rw [if_neg h1]; exact r.den_nz
    have hbp := bl_pos hcd
    have hbd : bl (cden r) ≤ 32 * 30000 := bl_le_len (Br.use (r := r) (Nat.le_refl _)).d
    refine Tc_region ?_
    refine Tl_q (JO_q rfl rfl (Jq_fieldAddr rfl rfl fo25_2 rfl)) rfl ?_
    refine Tl_q (JO_q rfl rfl (Jq_load rfl rfl rfl (by decide) ty23 rfl)) rfl ?_
    refine Tl_e (JO_e rfl rfl (Je_call rfl fn20 rfl (rbits_w (limbs (cden r)) (small_limbs _) (Br.use (r := r) (by omega)).d (cden r) (val_limbs _)))) rfl rfl ?_
    refine Tl_q (JO_q rfl rfl (Jq_sub rfl rfl rfl (r := (((bl (cden r) - 1) : Nat) : Int)) (w64 (by omega) (by omega) (by omega)))) rfl ?_
    refine Tl_q (JO_q rfl rfl (Jq_assign rfl rfl)) rfl ?_
    refine Tl_end ?_
    refine At_then ?_
    refine Tc_seq ?_
    refine Tc_region ?_
    refine Tl_e (JO_e rfl rfl (Je_buildSlice rfl un23 ty46 tz46 rfl (by decide) (by decide) rfl (by decide) rfl)) rfl rfl ?_
    refine Tl_q (JO_q rfl rfl (Jq_move rfl rfl)) rfl ?_
    refine Tl_e (JO_e rfl rfl (Je_call rfl fn25 rfl (rShlZ [1] (((bl (cden r) - 1) : Nat) : Int) (by omega) (by omega) (Small.cons (by decide) Small.nil) (by simp) 1 rfl))) rfl rfl ?_
    refine Tl_q (JO_q rfl rfl (Jq_move rfl rfl)) rfl ?_
    refine Tl_q (JO_q rfl rfl (Jq_extract rfl rfl rfl)) rfl ?_
    refine Tl_q (JO_q rfl rfl (Jq_extract rfl rfl rfl)) rfl ?_
    refine Tl_q (JO_q rfl rfl (Jq_assign rfl rfl)) rfl ?_
    refine Tl_q (JO_q rfl rfl (Jq_assign rfl rfl)) rfl ?_
    refine Tl_end ?_
    refine At_then ?_
    refine Tc_seq ?_
    refine Tc_seq ?_
    by_cases h2 : 1 * 2 ^ (bl (cden r) - 1) = cden r
    · skip
      refine Tc_region ?_
      refine Tl_q (JO_q rfl rfl (Jq_move rfl rfl)) rfl ?_
      refine Tl_q (JO_q rfl rfl (Jq_neq rfl rfl rfl (b := false) (rfl))) rfl ?_
      refine Tl_q (JO_q rfl rfl (Jq_move rfl rfl)) rfl ?_
      refine Tl_q (JO_qg rfl rfl rfl rfl (Jq_move rfl rfl)) rfl ?_
      refine Tl_q (JO_qg rfl rfl rfl rfl (Jq_fieldAddr rfl rfl fo25_2 rfl)) rfl ?_
      refine Tl_q (JO_qg rfl rfl rfl rfl (Jq_load rfl rfl rfl (by decide) ty23 rfl)) rfl ?_
      refine Tl_e (JO_eg rfl rfl rfl rfl (Je_call rfl fn45 rfl (same_spec (limbs (1 * 2 ^ (bl (cden r) - 1))) (limbs (cden r))))) rfl rfl ?_
      refine Tl_is true (decide_eq_true (by rw [h2])) ?_
      refine Tl_q (JO_qg rfl rfl rfl rfl (Jq_not rfl rfl (c := false) rfl)) rfl ?_
      refine Tl_q (JO_q rfl rfl (Jq_pick_f rfl rfl rfl)) rfl ?_
      refine Tl_end ?_
      refine At_then ?_
      refine Tc_f rfl ?_
      refine Tc_skipA ?_
      refine At_then ?_
      refine Tc_seq ?_
      refine Tc_region ?_
      refine Tl_q (JO_q rfl rfl (Jq_fieldAddr rfl rfl fo25_0 rfl)) rfl ?_
      refine Tl_q (JO_q rfl rfl (Jq_load rfl rfl rfl (by decide) ty4 rfl)) rfl ?_
      refine Tl_q (JO_q rfl rfl (Jq_fieldAddr rfl rfl fo25_1 rfl)) rfl ?_
      refine Tl_q (JO_q rfl rfl (Jq_load rfl rfl rfl (by decide) ty23 rfl)) rfl ?_
      refine Tl_q (JO_q rfl rfl (Jq_move rfl rfl)) rfl ?_
      refine Tl_q (JO_q rfl rfl (Jq_neg rfl rfl (r := -(((bl (cden r) - 1) : Nat) : Int)) (w64 (by omega) (by omega) (by omega)))) rfl ?_
      refine Tl_e (JO_e rfl rfl (Je_call rfl fn49 rfl (dcanon (cneg r) (limbs (cnum r)) (-(((bl (cden r) - 1) : Nat) : Int)) (small_limbs _) (Br.use (r := r) (by omega)).n (by omega) (by omega) (cnum r) (val_limbs _)))) rfl rfl ?_
      refine Tl_q (JO_q rfl rfl (Jq_extract rfl rfl rfl)) rfl ?_
      refine Tl_q (JO_q rfl rfl (Jq_extract rfl rfl rfl)) rfl ?_
      refine Tl_e (JO_e rfl rfl (Je_store rfl rfl rfl rfl ty29 rfl (by decide) (Nat.le_of_ble_eq_true rfl) rfl)) rfl rfl ?_
      refine Tl_q (JO_q rfl rfl (Jq_assign rfl rfl)) rfl ?_
      refine Tl_end ?_
      refine At_then ?_
      exact Tc_ret2 (fun _ _ h => h) rfl (⟨_, _, rfl, rfl, .inl ⟨ty29, Nat.le_of_ble_eq_true rfl, rfl⟩⟩) rfl (by rw [(ex_yes h1 h2).1, (ex_yes h1 h2).2]; rfl)
    · skip
      refine Tc_region ?_
      refine Tl_q (JO_q rfl rfl (Jq_move rfl rfl)) rfl ?_
      refine Tl_q (JO_q rfl rfl (Jq_neq rfl rfl rfl (b := false) (rfl))) rfl ?_
      refine Tl_q (JO_q rfl rfl (Jq_move rfl rfl)) rfl ?_
      refine Tl_q (JO_qg rfl rfl rfl rfl (Jq_move rfl rfl)) rfl ?_
      refine Tl_q (JO_qg rfl rfl rfl rfl (Jq_fieldAddr rfl rfl fo25_2 rfl)) rfl ?_
      refine Tl_q (JO_qg rfl rfl rfl rfl (Jq_load rfl rfl rfl (by decide) ty23 rfl)) rfl ?_
      refine Tl_e (JO_eg rfl rfl rfl rfl (Je_call rfl fn45 rfl (same_spec (limbs (1 * 2 ^ (bl (cden r) - 1))) (limbs (cden r))))) rfl rfl ?_
      refine Tl_is false (decide_eq_false (fun e => h2 (limbs_inj' e))) ?_
      refine Tl_q (JO_qg rfl rfl rfl rfl (Jq_not rfl rfl (c := true) rfl)) rfl ?_
      refine Tl_q (JO_q rfl rfl (Jq_pick_f rfl rfl rfl)) rfl ?_
      refine Tl_end ?_
      refine At_then ?_
      refine Tc_t rfl ?_
      refine Tc_seq ?_
      refine Tc_region ?_
      refine Tl_q (JO_q rfl rfl (Jq_build rfl tz29 rfl pl29 rfl)) rfl ?_
      refine Tl_e (JO_e rfl rfl (Je_store rfl rfl rfl rfl ty29 rfl (by decide) (Nat.le_of_ble_eq_true rfl) rfl)) rfl rfl ?_
      refine Tl_q (JO_q rfl rfl (Jq_assign rfl rfl)) rfl ?_
      refine Tl_end ?_
      refine At_then ?_
      exact Tc_ret2 (fun _ _ h => h) rfl (⟨_, _, rfl, rfl, .inl ⟨ty29, Nat.le_of_ble_eq_true rfl, rfl⟩⟩) rfl (by rw [(ex_no h1 h2).1, (ex_no h1 h2).2, dV_zero]; rfl)

set_option maxRecDepth 10000 in
theorem drat (d : Dy) (hd : Dfit 1000000000 d) : Ctr Tryd.prog 32 [dV d] (R.one (qV (qOf (dq d)))) := by
  refine Ctr.of_body Tryd.func32 rfl Tryd.ntmps32 (Nat.le_of_ble_eq_true rfl) (fun w0 A0 => ?_)
  haveI id : Bd d 1000000000 := ⟨hd⟩
  have hlo := hd.lo; have hhi := hd.hi
  refine Tc_seq ?_
  refine Tc_region ?_
  refine Tl_e (JO_e rfl rfl (Je_box (n := 0) rfl rfl rfl)) rfl rfl ?_
  refine Tl_e (JO_e rfl rfl (Je_alloc (n := 1) rfl tz25 rfl)) rfl rfl ?_
  refine Tl_end ?_
  refine At_then ?_
  refine Tc_seq ?_
  refine Tc_seq ?_
  refine Tc_region ?_
  refine Tl_q (JO_q rfl rfl (Jq_fieldAddr rfl rfl fo29_2 rfl)) rfl ?_
  refine Tl_q (JO_q rfl rfl (Jq_load rfl rfl rfl (by decide) ty3 rfl)) rfl ?_
  by_cases h1 : 0 ≤ d.exp
  · skip
    refine Tl_q (JO_q rfl rfl (Jq_geq rfl rfl rfl (b := true) (dT (by omega)))) rfl ?_
    refine Tl_end ?_
    refine At_then ?_
    refine Tc_t rfl ?_
    refine Tc_seq ?_
    haveI i1 : Bn (d.mag * 2 ^ d.exp.toNat) (1000000000 + 32769) := Bn.shift 32769 inferInstance (by omega)
    refine Tc_drawK 0 [none, none, none, none, none, none, none, none, none, some 1] [1] follows (by kernel_rfl) ?_
    refine DK_q (JO_q rfl rfl (Jq_fieldAddr rfl rfl fo29_0 rfl)) ?_
    refine DK_q (JO_q rfl rfl (Jq_load rfl rfl rfl (by decide) ty4 rfl)) ?_
    refine DK_q (JO_q rfl rfl (Jq_fieldAddr rfl rfl fo29_1 rfl)) ?_
    refine DK_q (JO_q rfl rfl (Jq_load rfl rfl rfl (by decide) ty23 rfl)) ?_
    refine DK_q (JO_q rfl rfl (Jq_fieldAddr rfl rfl fo29_2 rfl)) ?_
    refine DK_q (JO_q rfl rfl (Jq_load rfl rfl rfl (by decide) ty3 rfl)) ?_
    refine DK_c rfl rfl (Jd_call rfl fn61 rfl (dshl_spec d.mag d.exp (by omega) (Bn.use (by omega)))) ?_
    refine DK_q (JO_q rfl rfl (Jq_build rfl tz25 rfl pl25 rfl)) ?_
    refine DK_c rfl rfl (Jd_call rfl fn60 rfl (qcanon (Qr.mk d.neg (limbs (d.mag * 2 ^ d.exp.toNat)) [] (small_limbs _) Small.nil) (rq d.neg (d.mag * 2 ^ d.exp.toNat) (0)) (qr_eq (val_limbs _) rfl) (Fit.mk (Bn.use (by omega)) (Nat.zero_le _)))) ?_
    refine DK_s 1 rfl rfl rfl (Jd_store rfl rfl rfl rfl ty25 rfl (by decide) (Nat.le_of_ble_eq_true rfl) rfl) ?_
    refine DK_nil ?_
    refine At_then ?_
    exact Tc_ret1 (fun _ _ h => h) rfl (⟨_, _, rfl, rfl, .inl ⟨ty25, Nat.le_of_ble_eq_true rfl, rfl⟩⟩) (by unfold dq; rw [if_pos h1]; rfl)
  · skip
    refine Tl_q (JO_q rfl rfl (Jq_geq rfl rfl rfl (b := false) (dF (by omega)))) rfl ?_
    refine Tl_end ?_
    refine At_then ?_
    refine Tc_f rfl ?_
    refine Tc_skipA ?_
    refine At_then ?_
    refine Tc_seq ?_
    haveI i2 : Bn (1 * 2 ^ (-d.exp).toNat) (1 + 32769) := Bn.shift 32769 ⟨by rw [limbs_one]; exact Nat.le_refl _⟩ (by omega)
    refine Tc_drawK 0 [none, none, none, none, none, none, none, none, none, none, none, some 1] [1] follows (by kernel_rfl) ?_
    refine DK_q (JO_q rfl rfl (Jq_fieldAddr rfl rfl fo29_0 rfl)) ?_
    refine DK_q (JO_q rfl rfl (Jq_load rfl rfl rfl (by decide) ty4 rfl)) ?_
    refine DK_q (JO_q rfl rfl (Jq_fieldAddr rfl rfl fo29_1 rfl)) ?_
    refine DK_q (JO_q rfl rfl (Jq_load rfl rfl rfl (by decide) ty23 rfl)) ?_
    refine DK_c rfl rfl (Jd_call rfl fn62 rfl (of_spec 1 (by decide))) ?_
    refine DK_q (JO_q rfl rfl (Jq_fieldAddr rfl rfl fo29_2 rfl)) ?_
    refine DK_q (JO_q rfl rfl (Jq_load rfl rfl rfl (by decide) ty3 rfl)) ?_
    refine DK_q (JO_q rfl rfl (Jq_neg rfl rfl (r := -d.exp) (w64 (by omega) (by omega) (by omega)))) ?_
    refine DK_c rfl rfl (Jd_call rfl fn61 rfl (dshl_spec 1 (-d.exp) (by omega) (Bn.use (by omega)))) ?_
    refine DK_q (JO_q rfl rfl (Jq_build rfl tz25 rfl pl25 rfl)) ?_
    refine DK_c rfl rfl (Jd_call rfl fn60 rfl (qcanon (Qr.mk d.neg (limbs (d.mag)) (limbs (1 * 2 ^ (-d.exp).toNat)) (small_limbs _) (small_limbs _)) (rq d.neg (d.mag) (1 * 2 ^ (-d.exp).toNat)) (qr_eq (val_limbs _) (val_limbs _)) (Fit.mk (Bn.use (by omega)) (Bn.use (by omega))))) ?_
    refine DK_s 1 rfl rfl rfl (Jd_store rfl rfl rfl rfl ty25 rfl (by decide) (Nat.le_of_ble_eq_true rfl) rfl) ?_
    refine DK_nil ?_
    refine At_then ?_
    exact Tc_ret1 (fun _ _ h => h) rfl (⟨_, _, rfl, rfl, .inl ⟨ty25, Nat.le_of_ble_eq_true rfl, rfl⟩⟩) (by unfold dq; rw [if_neg h1, Nat.one_mul]; rfl)

set_option maxRecDepth 10000 in
theorem rdrat (d : Dy) (hd : Dfit 1000000000 d) : Ctr Tryd.prog 21 [dV d] (R.one (qV (qOf (dq d)))) := by
  refine Ctr.of_body Tryd.func21 rfl Tryd.ntmps21 (Nat.le_of_ble_eq_true rfl) (fun w0 A0 => ?_)
  haveI id : Bd d 1000000000 := ⟨hd⟩
  have hlo := hd.lo; have hhi := hd.hi
  refine Tc_seq ?_
  refine Tc_region ?_
  refine Tl_e (JO_e rfl rfl (Je_box (n := 0) rfl rfl rfl)) rfl rfl ?_
  refine Tl_e (JO_e rfl rfl (Je_alloc (n := 1) rfl tz25 rfl)) rfl rfl ?_
  refine Tl_end ?_
  refine At_then ?_
  refine Tc_seq ?_
  refine Tc_seq ?_
  refine Tc_region ?_
  refine Tl_q (JO_q rfl rfl (Jq_fieldAddr rfl rfl fo29_2 rfl)) rfl ?_
  refine Tl_q (JO_q rfl rfl (Jq_load rfl rfl rfl (by decide) ty3 rfl)) rfl ?_
  by_cases h0 : d.exp < 0
  · skip
    refine Tl_q (JO_q rfl rfl (Jq_lss rfl rfl rfl (b := true) (dT (by omega)))) rfl ?_
    refine Tl_end ?_
    refine At_then ?_
    refine Tc_t rfl ?_
    refine Tc_seq ?_
    haveI i2 : Bn (1 * 2 ^ (-d.exp).toNat) (1 + 32769) := Bn.shift 32769 ⟨by rw [limbs_one]; exact Nat.le_refl _⟩ (by omega)
    refine Tc_region ?_
    refine Tl_e (JO_e rfl rfl (Je_buildSlice rfl un23 ty46 tz46 rfl (by decide) (by decide) rfl (by decide) rfl)) rfl rfl ?_
    refine Tl_q (JO_q rfl rfl (Jq_fieldAddr rfl rfl fo29_2 rfl)) rfl ?_
    refine Tl_q (JO_q rfl rfl (Jq_load rfl rfl rfl (by decide) ty3 rfl)) rfl ?_
    refine Tl_q (JO_q rfl rfl (Jq_neg rfl rfl (r := -d.exp) (w64 (by omega) (by omega) (by omega)))) rfl ?_
    refine Tl_e (JO_e rfl rfl (Je_call rfl fn25 rfl (rShlZ [1] (-d.exp) (by omega) (by omega) (Small.cons (by decide) Small.nil) (by simp) 1 rfl))) rfl rfl ?_
    refine Tl_q (JO_q rfl rfl (Jq_move rfl rfl)) rfl ?_
    refine Tl_q (JO_q rfl rfl (Jq_extract rfl rfl rfl)) rfl ?_
    refine Tl_q (JO_q rfl rfl (Jq_extract rfl rfl rfl)) rfl ?_
    refine Tl_q (JO_q rfl rfl (Jq_assign rfl rfl)) rfl ?_
    refine Tl_q (JO_q rfl rfl (Jq_assign rfl rfl)) rfl ?_
    refine Tl_end ?_
    refine At_then ?_
    refine Tc_seq ?_
    refine Tc_region ?_
    refine Tl_q (JO_q rfl rfl (Jq_fieldAddr rfl rfl fo29_0 rfl)) rfl ?_
    refine Tl_q (JO_q rfl rfl (Jq_load rfl rfl rfl (by decide) ty4 rfl)) rfl ?_
    refine Tl_q (JO_q rfl rfl (Jq_fieldAddr rfl rfl fo29_1 rfl)) rfl ?_
    refine Tl_q (JO_q rfl rfl (Jq_load rfl rfl rfl (by decide) ty23 rfl)) rfl ?_
    refine Tl_q (JO_q rfl rfl (Jq_move rfl rfl)) rfl ?_
    refine Tl_q (JO_q rfl rfl (Jq_build rfl tz25 rfl pl25 rfl)) rfl ?_
    refine Tl_e (JO_e rfl rfl (Je_call rfl fn26 rfl (rqcanon (Qr.mk d.neg (limbs (d.mag)) (limbs (1 * 2 ^ (-d.exp).toNat)) (small_limbs _) (small_limbs _)) (rq d.neg (d.mag) (1 * 2 ^ (-d.exp).toNat)) (qr_eq (val_limbs _) (val_limbs _)) (Fit.mk (Bn.use (by omega)) (Bn.use (by omega)))))) rfl rfl ?_
    refine Tl_e (JO_e rfl rfl (Je_store rfl rfl rfl rfl ty25 rfl (by decide) (Nat.le_of_ble_eq_true rfl) rfl)) rfl rfl ?_
    refine Tl_end ?_
    refine At_then ?_
    have h1 : ¬ 0 ≤ d.exp := by omega
    exact Tc_ret1 (fun _ _ h => h) rfl (⟨_, _, rfl, rfl, .inl ⟨ty25, Nat.le_of_ble_eq_true rfl, rfl⟩⟩) (by unfold dq; rw [if_neg h1, Nat.one_mul]; rfl)
  · skip
    refine Tl_q (JO_q rfl rfl (Jq_lss rfl rfl rfl (b := false) (dF (by omega)))) rfl ?_
    refine Tl_end ?_
    refine At_then ?_
    refine Tc_f rfl ?_
    refine Tc_skipA ?_
    refine At_then ?_
    refine Tc_seq ?_
    haveI i1 : Bn (d.mag * 2 ^ d.exp.toNat) (1000000000 + 32769) := Bn.shift 32769 inferInstance (by omega)
    refine Tc_region ?_
    refine Tl_q (JO_q rfl rfl (Jq_fieldAddr rfl rfl fo29_1 rfl)) rfl ?_
    refine Tl_q (JO_q rfl rfl (Jq_load rfl rfl rfl (by decide) ty23 rfl)) rfl ?_
    refine Tl_q (JO_q rfl rfl (Jq_fieldAddr rfl rfl fo29_2 rfl)) rfl ?_
    refine Tl_q (JO_q rfl rfl (Jq_load rfl rfl rfl (by decide) ty3 rfl)) rfl ?_
    refine Tl_e (JO_e rfl rfl (Je_call rfl fn25 rfl (rShlZ (limbs d.mag) d.exp (by omega) (by omega) (small_limbs _) (Bn.use (by omega)) d.mag (val_limbs _)))) rfl rfl ?_
    refine Tl_q (JO_q rfl rfl (Jq_move rfl rfl)) rfl ?_
    refine Tl_q (JO_q rfl rfl (Jq_extract rfl rfl rfl)) rfl ?_
    refine Tl_q (JO_q rfl rfl (Jq_extract rfl rfl rfl)) rfl ?_
    refine Tl_q (JO_q rfl rfl (Jq_assign rfl rfl)) rfl ?_
    refine Tl_q (JO_q rfl rfl (Jq_assign rfl rfl)) rfl ?_
    refine Tl_end ?_
    refine At_then ?_
    refine Tc_seq ?_
    refine Tc_region ?_
    refine Tl_q (JO_q rfl rfl (Jq_fieldAddr rfl rfl fo29_0 rfl)) rfl ?_
    refine Tl_q (JO_q rfl rfl (Jq_load rfl rfl rfl (by decide) ty4 rfl)) rfl ?_
    refine Tl_q (JO_q rfl rfl (Jq_move rfl rfl)) rfl ?_
    refine Tl_q (JO_q rfl rfl (Jq_build rfl tz25 rfl pl25 rfl)) rfl ?_
    refine Tl_e (JO_e rfl rfl (Je_call rfl fn26 rfl (rqcanon (Qr.mk d.neg (limbs (d.mag * 2 ^ d.exp.toNat)) [] (small_limbs _) Small.nil) (rq d.neg (d.mag * 2 ^ d.exp.toNat) (0)) (qr_eq (val_limbs _) rfl) (Fit.mk (Bn.use (by omega)) (Nat.zero_le _))))) rfl rfl ?_
    refine Tl_e (JO_e rfl rfl (Je_store rfl rfl rfl rfl ty25 rfl (by decide) (Nat.le_of_ble_eq_true rfl) rfl)) rfl rfl ?_
    refine Tl_end ?_
    refine At_then ?_
    have h1 : 0 ≤ d.exp := by omega
    exact Tc_ret1 (fun _ _ h => h) rfl (⟨_, _, rfl, rfl, .inl ⟨ty25, Nat.le_of_ble_eq_true rfl, rfl⟩⟩) (by unfold dq; rw [if_pos h1]; rfl)

set_option maxRecDepth 10000 in
theorem dsame (s : Bool) (l : List Nat) (e : Int) (t : Bool) (m : List Nat) (f : Int) : Ctr Tryd.prog 17 [V.agg [Leaf.val (.bool s), natL l, Leaf.val (.int .i64 e)], V.agg [Leaf.val (.bool t), natL m, Leaf.val (.int .i64 f)]] (R.one (V.one (Leaf.val (.bool (sameR s l e t m f))))) := by
  refine Ctr.of_body Tryd.func17 rfl Tryd.ntmps17 (Nat.le_of_ble_eq_true rfl) (fun w0 A0 => ?_)
  refine Tc_seq ?_
  refine Tc_region ?_
  refine Tl_e (JO_e rfl rfl (Je_box (n := 0) rfl rfl rfl)) rfl rfl ?_
  refine Tl_e (JO_e rfl rfl (Je_box (n := 1) rfl rfl rfl)) rfl rfl ?_
  refine Tl_q (JO_q rfl rfl (Jq_assign rfl rfl)) rfl ?_
  refine Tl_end ?_
  refine At_then ?_
  refine Tc_seq ?_
  refine Tc_region ?_
  refine Tl_q (JO_q rfl rfl (Jq_fieldAddr rfl rfl fo29_0 rfl)) rfl ?_
  refine Tl_q (JO_q rfl rfl (Jq_load rfl rfl rfl (by decide) ty4 rfl)) rfl ?_
  refine Tl_q (JO_q rfl rfl (Jq_fieldAddr rfl rfl fo29_0 rfl)) rfl ?_
  refine Tl_q (JO_q rfl rfl (Jq_load rfl rfl rfl (by decide) ty4 rfl)) rfl ?_
  refine Tl_q (JO_q rfl rfl (Jq_eql_bool rfl rfl rfl un4 (d := _) (rfl))) rfl ?_
  refine Tl_q (JO_q rfl rfl (Jq_move rfl rfl)) rfl ?_
  refine Tl_two (fun hb10 => ?_) (fun hb10 => ?_)
  · skip
    refine Tl_q (JO_skip rfl rfl rfl) rfl ?_
    refine Tl_q (JO_skip rfl rfl rfl) rfl ?_
    refine Tl_q (JO_skip rfl rfl rfl) rfl ?_
    refine Tl_q (JO_skip rfl rfl rfl) rfl ?_
    refine Tl_q (JO_skip rfl rfl rfl) rfl ?_
    refine Tl_q (JO_q rfl rfl (Jq_pick_f rfl rfl rfl)) rfl ?_
    refine Tl_q (JO_q rfl rfl (Jq_move rfl rfl)) rfl ?_
    refine Tl_q (JO_skip rfl rfl rfl) rfl ?_
    refine Tl_q (JO_skip rfl rfl rfl) rfl ?_
    refine Tl_q (JO_skip rfl rfl rfl) rfl ?_
    refine Tl_q (JO_skip rfl rfl rfl) rfl ?_
    refine Tl_q (JO_skip rfl rfl rfl) rfl ?_
    refine Tl_q (JO_q rfl rfl (Jq_pick_f rfl rfl rfl)) rfl ?_
    refine Tl_q (JO_q rfl rfl (Jq_assign rfl rfl)) rfl ?_
    refine Tl_end ?_
    refine At_then ?_
    exact Tc_ret1 (fun _ _ h => h) rfl rfl (by simp [sameR, *])
  · skip
    refine Tl_q (JO_qg rfl rfl rfl rfl (Jq_fieldAddr rfl rfl fo29_2 rfl)) rfl ?_
    refine Tl_q (JO_qg rfl rfl rfl rfl (Jq_load rfl rfl rfl (by decide) ty3 rfl)) rfl ?_
    refine Tl_q (JO_qg rfl rfl rfl rfl (Jq_fieldAddr rfl rfl fo29_2 rfl)) rfl ?_
    refine Tl_q (JO_qg rfl rfl rfl rfl (Jq_load rfl rfl rfl (by decide) ty3 rfl)) rfl ?_
    refine Tl_q (JO_qg rfl rfl rfl rfl (Jq_eql rfl rfl rfl (b := _) (rfl))) rfl ?_
    refine Tl_q (JO_q rfl rfl (Jq_pick_t rfl rfl rfl)) rfl ?_
    refine Tl_q (JO_q rfl rfl (Jq_move rfl rfl)) rfl ?_
    refine Tl_two (fun hb17 => ?_) (fun hb17 => ?_)
    · skip
      refine Tl_q (JO_skip rfl rfl rfl) rfl ?_
      refine Tl_q (JO_skip rfl rfl rfl) rfl ?_
      refine Tl_q (JO_skip rfl rfl rfl) rfl ?_
      refine Tl_q (JO_skip rfl rfl rfl) rfl ?_
      refine Tl_q (JO_skip rfl rfl rfl) rfl ?_
      refine Tl_q (JO_q rfl rfl (Jq_pick_f rfl rfl rfl)) rfl ?_
      refine Tl_q (JO_q rfl rfl (Jq_assign rfl rfl)) rfl ?_
      refine Tl_end ?_
      refine At_then ?_
      exact Tc_ret1 (fun _ _ h => h) rfl rfl (by simp [sameR, *])
    · skip
      refine Tl_q (JO_qg rfl rfl rfl rfl (Jq_fieldAddr rfl rfl fo29_1 rfl)) rfl ?_
      refine Tl_q (JO_qg rfl rfl rfl rfl (Jq_load rfl rfl rfl (by decide) ty23 rfl)) rfl ?_
      refine Tl_q (JO_qg rfl rfl rfl rfl (Jq_fieldAddr rfl rfl fo29_1 rfl)) rfl ?_
      refine Tl_q (JO_qg rfl rfl rfl rfl (Jq_load rfl rfl rfl (by decide) ty23 rfl)) rfl ?_
      refine Tl_e (JO_eg rfl rfl rfl rfl (Je_call rfl fn45 rfl (same_spec l m))) rfl rfl ?_
      refine Tl_q (JO_q rfl rfl (Jq_pick_t rfl rfl rfl)) rfl ?_
      refine Tl_q (JO_q rfl rfl (Jq_assign rfl rfl)) rfl ?_
      refine Tl_end ?_
      refine At_then ?_
      exact Tc_ret1 (fun _ _ h => h) rfl rfl (by simp [sameR, *])

set_option maxRecDepth 10000 in
theorem dvalid (s : Bool) (l : List Nat) (e : Int) (hs : Small l) : Ctr Tryd.prog 30 [V.agg [Leaf.val (.bool s), natL l, Leaf.val (.int .i64 e)]] (R.one (V.one (Leaf.val (.bool (isD s l e))))) := by
  refine Ctr.of_body Tryd.func30 rfl Tryd.ntmps30 (Nat.le_of_ble_eq_true rfl) (fun w0 A0 => ?_)
  refine Tc_seq ?_
  refine Tc_region ?_
  refine Tl_e (JO_e rfl rfl (Je_box (n := 0) rfl rfl rfl)) rfl rfl ?_
  refine Tl_q (JO_q rfl rfl (Jq_assign rfl rfl)) rfl ?_
  refine Tl_end ?_
  refine At_then ?_
  refine Tc_seq ?_
  refine Tc_seq ?_
  refine Tc_region ?_
  refine Tl_q (JO_q rfl rfl (Jq_fieldAddr rfl rfl fo29_1 rfl)) rfl ?_
  refine Tl_q (JO_q rfl rfl (Jq_load rfl rfl rfl (by decide) ty23 rfl)) rfl ?_
  refine Tl_q (JO_q rfl rfl (Jq_len rfl rfl un23)) rfl ?_
  by_cases h0 : l.length = 0
  · skip
    refine Tl_q (JO_q rfl rfl (Jq_eql rfl rfl rfl (b := true) (eT (by omega)))) rfl ?_
    refine Tl_end ?_
    refine At_then ?_
    refine Tc_t rfl ?_
    refine Tc_seq ?_
    refine Tc_region ?_
    refine Tl_q (JO_q rfl rfl (Jq_fieldAddr rfl rfl fo29_0 rfl)) rfl ?_
    refine Tl_q (JO_q rfl rfl (Jq_load rfl rfl rfl (by decide) ty4 rfl)) rfl ?_
    refine Tl_q (JO_q rfl rfl (Jq_not rfl rfl (c := _) rfl)) rfl ?_
    refine Tl_q (JO_q rfl rfl (Jq_move rfl rfl)) rfl ?_
    refine Tl_two (fun hb10 => ?_) (fun hb10 => ?_)
    · skip
      refine Tl_q (JO_skip rfl rfl rfl) rfl ?_
      refine Tl_q (JO_skip rfl rfl rfl) rfl ?_
      refine Tl_q (JO_skip rfl rfl rfl) rfl ?_
      refine Tl_q (JO_q rfl rfl (Jq_pick_f rfl rfl rfl)) rfl ?_
      refine Tl_q (JO_q rfl rfl (Jq_assign rfl rfl)) rfl ?_
      refine Tl_end ?_
      refine At_then ?_
      exact Tc_ret1 (fun _ _ h => h) rfl rfl (by unfold isD; rw [if_pos h0]; simp [*])
    · skip
      refine Tl_q (JO_qg rfl rfl rfl rfl (Jq_fieldAddr rfl rfl fo29_2 rfl)) rfl ?_
      refine Tl_q (JO_qg rfl rfl rfl rfl (Jq_load rfl rfl rfl (by decide) ty3 rfl)) rfl ?_
      refine Tl_q (JO_qg rfl rfl rfl rfl (Jq_eql rfl rfl rfl (b := _) (rfl))) rfl ?_
      refine Tl_q (JO_q rfl rfl (Jq_pick_t rfl rfl rfl)) rfl ?_
      refine Tl_q (JO_q rfl rfl (Jq_assign rfl rfl)) rfl ?_
      refine Tl_end ?_
      refine At_then ?_
      exact Tc_ret1 (fun _ _ h => h) rfl rfl (by unfold isD; rw [if_pos h0]; simp [*])
  · skip
    refine Tl_q (JO_q rfl rfl (Jq_eql rfl rfl rfl (b := false) (eF (by omega)))) rfl ?_
    refine Tl_end ?_
    refine At_then ?_
    refine Tc_f rfl ?_
    refine Tc_skipA ?_
    refine At_then ?_
    refine Tc_seq ?_
    have hg : l.getD 0 0 = l[0] := getD_of (by omega)
    have hsl0 := hs.get 0 (by omega)
    refine Tc_region ?_
    refine Tl_q (JO_q rfl rfl (Jq_fieldAddr rfl rfl fo29_1 rfl)) rfl ?_
    refine Tl_q (JO_q rfl rfl (Jq_load rfl rfl rfl (by decide) ty23 rfl)) rfl ?_
    refine Tl_e (JO_e rfl rfl (Je_call rfl fn59 rfl (valid_spec l))) rfl rfl ?_
    refine Tl_q (JO_q rfl rfl (Jq_move rfl rfl)) rfl ?_
    refine Tl_two (fun hb18 => ?_) (fun hb18 => ?_)
    · skip
      refine Tl_q (JO_skip rfl rfl rfl) rfl ?_
      refine Tl_q (JO_skip rfl rfl rfl) rfl ?_
      refine Tl_q (JO_skip rfl rfl rfl) rfl ?_
      refine Tl_q (JO_skip rfl rfl rfl) rfl ?_
      refine Tl_q (JO_skip rfl rfl rfl) rfl ?_
      refine Tl_q (JO_skip rfl rfl rfl) rfl ?_
      refine Tl_q (JO_q rfl rfl (Jq_pick_f rfl rfl rfl)) rfl ?_
      refine Tl_q (JO_q rfl rfl (Jq_move rfl rfl)) rfl ?_
      refine Tl_q (JO_skip rfl rfl rfl) rfl ?_
      refine Tl_q (JO_skip rfl rfl rfl) rfl ?_
      refine Tl_q (JO_skip rfl rfl rfl) rfl ?_
      refine Tl_q (JO_q rfl rfl (Jq_pick_f rfl rfl rfl)) rfl ?_
      refine Tl_q (JO_q rfl rfl (Jq_move rfl rfl)) rfl ?_
      refine Tl_q (JO_skip rfl rfl rfl) rfl ?_
      refine Tl_q (JO_skip rfl rfl rfl) rfl ?_
      refine Tl_q (JO_skip rfl rfl rfl) rfl ?_
      refine Tl_q (JO_q rfl rfl (Jq_pick_f rfl rfl rfl)) rfl ?_
      refine Tl_q (JO_q rfl rfl (Jq_assign rfl rfl)) rfl ?_
      refine Tl_end ?_
      refine At_then ?_
      exact Tc_ret1 (fun _ _ h => h) rfl rfl (by unfold isD; rw [if_neg h0, hg]; simp [*])
    · skip
      refine Tl_q (JO_qg rfl rfl rfl rfl (Jq_fieldAddr rfl rfl fo29_1 rfl)) rfl ?_
      refine Tl_q (JO_qg rfl rfl rfl rfl (Jq_load rfl rfl rfl (by decide) ty23 rfl)) rfl ?_
      refine Tl_q (JO_qg rfl rfl rfl rfl (Jq_index1 rfl rfl rfl un23 ty46 (by omega) (by omega) (get_u32i 0 (by omega) rfl))) rfl ?_
      refine Tl_q (JO_qg rfl rfl rfl rfl (Jq_load_ref rfl rfl ty46)) rfl ?_
      refine Tl_q (JO_qg rfl rfl rfl rfl (Jq_rem rfl rfl rfl (by decide) (r := ((l[0]'(by omega) % 2 : Nat) : Int)) (tmodN _ 2))) rfl ?_
      by_cases h2 : l[0]'(by omega) % 2 = 1
      · skip
        refine Tl_q (JO_qg rfl rfl rfl rfl (Jq_eql rfl rfl rfl (b := true) (eT (by omega)))) rfl ?_
        have hm := decide_eq_true h2
        refine Tl_q (JO_q rfl rfl (Jq_pick_t rfl rfl rfl)) rfl ?_
        refine Tl_q (JO_q rfl rfl (Jq_move rfl rfl)) rfl ?_
        refine Tl_q (JO_qg rfl rfl rfl rfl (Jq_fieldAddr rfl rfl fo29_2 rfl)) rfl ?_
        refine Tl_q (JO_qg rfl rfl rfl rfl (Jq_load rfl rfl rfl (by decide) ty3 rfl)) rfl ?_
        refine Tl_q (JO_qg rfl rfl rfl rfl (Jq_geq rfl rfl rfl (b := _) (rfl))) rfl ?_
        refine Tl_q (JO_q rfl rfl (Jq_pick_t rfl rfl rfl)) rfl ?_
        refine Tl_q (JO_q rfl rfl (Jq_move rfl rfl)) rfl ?_
        refine Tl_two (fun hb31 => ?_) (fun hb31 => ?_)
        · skip
          refine Tl_q (JO_skip rfl rfl rfl) rfl ?_
          refine Tl_q (JO_skip rfl rfl rfl) rfl ?_
          refine Tl_q (JO_skip rfl rfl rfl) rfl ?_
          refine Tl_q (JO_q rfl rfl (Jq_pick_f rfl rfl rfl)) rfl ?_
          refine Tl_q (JO_q rfl rfl (Jq_assign rfl rfl)) rfl ?_
          refine Tl_end ?_
          refine At_then ?_
          exact Tc_ret1 (fun _ _ h => h) rfl rfl (by unfold isD; rw [if_neg h0, hg]; simp [*])
        · skip
          refine Tl_q (JO_qg rfl rfl rfl rfl (Jq_fieldAddr rfl rfl fo29_2 rfl)) rfl ?_
          refine Tl_q (JO_qg rfl rfl rfl rfl (Jq_load rfl rfl rfl (by decide) ty3 rfl)) rfl ?_
          refine Tl_q (JO_qg rfl rfl rfl rfl (Jq_leq rfl rfl rfl (b := _) (rfl))) rfl ?_
          refine Tl_q (JO_q rfl rfl (Jq_pick_t rfl rfl rfl)) rfl ?_
          refine Tl_q (JO_q rfl rfl (Jq_assign rfl rfl)) rfl ?_
          refine Tl_end ?_
          refine At_then ?_
          exact Tc_ret1 (fun _ _ h => h) rfl rfl (by unfold isD; rw [if_neg h0, hg]; simp [*])
      · skip
        refine Tl_q (JO_qg rfl rfl rfl rfl (Jq_eql rfl rfl rfl (b := false) (eF (by omega)))) rfl ?_
        have hm := decide_eq_false h2
        refine Tl_q (JO_q rfl rfl (Jq_pick_t rfl rfl rfl)) rfl ?_
        refine Tl_q (JO_q rfl rfl (Jq_move rfl rfl)) rfl ?_
        refine Tl_q (JO_skip rfl rfl rfl) rfl ?_
        refine Tl_q (JO_skip rfl rfl rfl) rfl ?_
        refine Tl_q (JO_skip rfl rfl rfl) rfl ?_
        refine Tl_q (JO_q rfl rfl (Jq_pick_f rfl rfl rfl)) rfl ?_
        refine Tl_q (JO_q rfl rfl (Jq_move rfl rfl)) rfl ?_
        refine Tl_q (JO_skip rfl rfl rfl) rfl ?_
        refine Tl_q (JO_skip rfl rfl rfl) rfl ?_
        refine Tl_q (JO_skip rfl rfl rfl) rfl ?_
        refine Tl_q (JO_q rfl rfl (Jq_pick_f rfl rfl rfl)) rfl ?_
        refine Tl_q (JO_q rfl rfl (Jq_assign rfl rfl)) rfl ?_
        refine Tl_end ?_
        refine At_then ?_
        exact Tc_ret1 (fun _ _ h => h) rfl rfl (by unfold isD; rw [if_neg h0, hg]; simp [*])

set_option maxRecDepth 10000 in
theorem rdvalid (s : Bool) (l : List Nat) (e : Int) (hs : Small l) : Ctr Tryd.prog 19 [V.agg [Leaf.val (.bool s), natL l, Leaf.val (.int .i64 e)]] (R.one (V.one (Leaf.val (.bool (isD s l e))))) := by
  refine Ctr.of_body Tryd.func19 rfl Tryd.ntmps19 (Nat.le_of_ble_eq_true rfl) (fun w0 A0 => ?_)
  refine Tc_seq ?_
  refine Tc_region ?_
  refine Tl_e (JO_e rfl rfl (Je_box (n := 0) rfl rfl rfl)) rfl rfl ?_
  refine Tl_q (JO_q rfl rfl (Jq_assign rfl rfl)) rfl ?_
  refine Tl_end ?_
  refine At_then ?_
  refine Tc_seq ?_
  refine Tc_seq ?_
  refine Tc_region ?_
  refine Tl_q (JO_q rfl rfl (Jq_fieldAddr rfl rfl fo29_1 rfl)) rfl ?_
  refine Tl_q (JO_q rfl rfl (Jq_load rfl rfl rfl (by decide) ty23 rfl)) rfl ?_
  refine Tl_q (JO_q rfl rfl (Jq_len rfl rfl un23)) rfl ?_
  by_cases h0 : l.length = 0
  · skip
    refine Tl_q (JO_q rfl rfl (Jq_eql rfl rfl rfl (b := true) (eT (by omega)))) rfl ?_
    refine Tl_end ?_
    refine At_then ?_
    refine Tc_t rfl ?_
    refine Tc_seq ?_
    refine Tc_region ?_
    refine Tl_q (JO_q rfl rfl (Jq_fieldAddr rfl rfl fo29_0 rfl)) rfl ?_
    refine Tl_q (JO_q rfl rfl (Jq_load rfl rfl rfl (by decide) ty4 rfl)) rfl ?_
    refine Tl_q (JO_q rfl rfl (Jq_not rfl rfl (c := _) rfl)) rfl ?_
    refine Tl_q (JO_q rfl rfl (Jq_move rfl rfl)) rfl ?_
    refine Tl_two (fun hb10 => ?_) (fun hb10 => ?_)
    · skip
      refine Tl_q (JO_skip rfl rfl rfl) rfl ?_
      refine Tl_q (JO_skip rfl rfl rfl) rfl ?_
      refine Tl_q (JO_skip rfl rfl rfl) rfl ?_
      refine Tl_q (JO_q rfl rfl (Jq_pick_f rfl rfl rfl)) rfl ?_
      refine Tl_q (JO_q rfl rfl (Jq_assign rfl rfl)) rfl ?_
      refine Tl_end ?_
      refine At_then ?_
      exact Tc_ret1 (fun _ _ h => h) rfl rfl (by unfold isD; rw [if_pos h0]; simp [*])
    · skip
      refine Tl_q (JO_qg rfl rfl rfl rfl (Jq_fieldAddr rfl rfl fo29_2 rfl)) rfl ?_
      refine Tl_q (JO_qg rfl rfl rfl rfl (Jq_load rfl rfl rfl (by decide) ty3 rfl)) rfl ?_
      refine Tl_q (JO_qg rfl rfl rfl rfl (Jq_eql rfl rfl rfl (b := _) (rfl))) rfl ?_
      refine Tl_q (JO_q rfl rfl (Jq_pick_t rfl rfl rfl)) rfl ?_
      refine Tl_q (JO_q rfl rfl (Jq_assign rfl rfl)) rfl ?_
      refine Tl_end ?_
      refine At_then ?_
      exact Tc_ret1 (fun _ _ h => h) rfl rfl (by unfold isD; rw [if_pos h0]; simp [*])
  · skip
    refine Tl_q (JO_q rfl rfl (Jq_eql rfl rfl rfl (b := false) (eF (by omega)))) rfl ?_
    refine Tl_end ?_
    refine At_then ?_
    refine Tc_f rfl ?_
    refine Tc_skipA ?_
    refine At_then ?_
    refine Tc_seq ?_
    have hg : l.getD 0 0 = l[0] := getD_of (by omega)
    have hsl0 := hs.get 0 (by omega)
    refine Tc_region ?_
    refine Tl_q (JO_q rfl rfl (Jq_fieldAddr rfl rfl fo29_1 rfl)) rfl ?_
    refine Tl_q (JO_q rfl rfl (Jq_load rfl rfl rfl (by decide) ty23 rfl)) rfl ?_
    refine Tl_e (JO_e rfl rfl (Je_call rfl fn46 rfl (rvalid_spec l))) rfl rfl ?_
    refine Tl_q (JO_q rfl rfl (Jq_move rfl rfl)) rfl ?_
    refine Tl_two (fun hb18 => ?_) (fun hb18 => ?_)
    · skip
      refine Tl_q (JO_skip rfl rfl rfl) rfl ?_
      refine Tl_q (JO_skip rfl rfl rfl) rfl ?_
      refine Tl_q (JO_skip rfl rfl rfl) rfl ?_
      refine Tl_q (JO_skip rfl rfl rfl) rfl ?_
      refine Tl_q (JO_skip rfl rfl rfl) rfl ?_
      refine Tl_q (JO_skip rfl rfl rfl) rfl ?_
      refine Tl_q (JO_q rfl rfl (Jq_pick_f rfl rfl rfl)) rfl ?_
      refine Tl_q (JO_q rfl rfl (Jq_move rfl rfl)) rfl ?_
      refine Tl_q (JO_skip rfl rfl rfl) rfl ?_
      refine Tl_q (JO_skip rfl rfl rfl) rfl ?_
      refine Tl_q (JO_skip rfl rfl rfl) rfl ?_
      refine Tl_q (JO_q rfl rfl (Jq_pick_f rfl rfl rfl)) rfl ?_
      refine Tl_q (JO_q rfl rfl (Jq_move rfl rfl)) rfl ?_
      refine Tl_q (JO_skip rfl rfl rfl) rfl ?_
      refine Tl_q (JO_skip rfl rfl rfl) rfl ?_
      refine Tl_q (JO_skip rfl rfl rfl) rfl ?_
      refine Tl_q (JO_q rfl rfl (Jq_pick_f rfl rfl rfl)) rfl ?_
      refine Tl_q (JO_q rfl rfl (Jq_assign rfl rfl)) rfl ?_
      refine Tl_end ?_
      refine At_then ?_
      exact Tc_ret1 (fun _ _ h => h) rfl rfl (by unfold isD; rw [if_neg h0, hg]; simp [*])
    · skip
      refine Tl_q (JO_qg rfl rfl rfl rfl (Jq_fieldAddr rfl rfl fo29_1 rfl)) rfl ?_
      refine Tl_q (JO_qg rfl rfl rfl rfl (Jq_load rfl rfl rfl (by decide) ty23 rfl)) rfl ?_
      refine Tl_q (JO_qg rfl rfl rfl rfl (Jq_index1 rfl rfl rfl un23 ty46 (by omega) (by omega) (get_u32i 0 (by omega) rfl))) rfl ?_
      refine Tl_q (JO_qg rfl rfl rfl rfl (Jq_load_ref rfl rfl ty46)) rfl ?_
      refine Tl_q (JO_qg rfl rfl rfl rfl (Jq_and rfl rfl rfl (r := ((l[0]'(by omega) % 2 : Nat) : Int)) (and_one hsl0))) rfl ?_
      by_cases h2 : l[0]'(by omega) % 2 = 1
      · skip
        refine Tl_q (JO_qg rfl rfl rfl rfl (Jq_eql rfl rfl rfl (b := true) (eT (by omega)))) rfl ?_
        have hm := decide_eq_true h2
        refine Tl_q (JO_q rfl rfl (Jq_pick_t rfl rfl rfl)) rfl ?_
        refine Tl_q (JO_q rfl rfl (Jq_move rfl rfl)) rfl ?_
        refine Tl_q (JO_qg rfl rfl rfl rfl (Jq_fieldAddr rfl rfl fo29_2 rfl)) rfl ?_
        refine Tl_q (JO_qg rfl rfl rfl rfl (Jq_load rfl rfl rfl (by decide) ty3 rfl)) rfl ?_
        refine Tl_q (JO_qg rfl rfl rfl rfl (Jq_geq rfl rfl rfl (b := _) (rfl))) rfl ?_
        refine Tl_q (JO_q rfl rfl (Jq_pick_t rfl rfl rfl)) rfl ?_
        refine Tl_q (JO_q rfl rfl (Jq_move rfl rfl)) rfl ?_
        refine Tl_two (fun hb31 => ?_) (fun hb31 => ?_)
        · skip
          refine Tl_q (JO_skip rfl rfl rfl) rfl ?_
          refine Tl_q (JO_skip rfl rfl rfl) rfl ?_
          refine Tl_q (JO_skip rfl rfl rfl) rfl ?_
          refine Tl_q (JO_q rfl rfl (Jq_pick_f rfl rfl rfl)) rfl ?_
          refine Tl_q (JO_q rfl rfl (Jq_assign rfl rfl)) rfl ?_
          refine Tl_end ?_
          refine At_then ?_
          exact Tc_ret1 (fun _ _ h => h) rfl rfl (by unfold isD; rw [if_neg h0, hg]; simp [*])
        · skip
          refine Tl_q (JO_qg rfl rfl rfl rfl (Jq_fieldAddr rfl rfl fo29_2 rfl)) rfl ?_
          refine Tl_q (JO_qg rfl rfl rfl rfl (Jq_load rfl rfl rfl (by decide) ty3 rfl)) rfl ?_
          refine Tl_q (JO_qg rfl rfl rfl rfl (Jq_leq rfl rfl rfl (b := _) (rfl))) rfl ?_
          refine Tl_q (JO_q rfl rfl (Jq_pick_t rfl rfl rfl)) rfl ?_
          refine Tl_q (JO_q rfl rfl (Jq_assign rfl rfl)) rfl ?_
          refine Tl_end ?_
          refine At_then ?_
          exact Tc_ret1 (fun _ _ h => h) rfl rfl (by unfold isD; rw [if_neg h0, hg]; simp [*])
      · skip
        refine Tl_q (JO_qg rfl rfl rfl rfl (Jq_eql rfl rfl rfl (b := false) (eF (by omega)))) rfl ?_
        have hm := decide_eq_false h2
        refine Tl_q (JO_q rfl rfl (Jq_pick_t rfl rfl rfl)) rfl ?_
        refine Tl_q (JO_q rfl rfl (Jq_move rfl rfl)) rfl ?_
        refine Tl_q (JO_skip rfl rfl rfl) rfl ?_
        refine Tl_q (JO_skip rfl rfl rfl) rfl ?_
        refine Tl_q (JO_skip rfl rfl rfl) rfl ?_
        refine Tl_q (JO_q rfl rfl (Jq_pick_f rfl rfl rfl)) rfl ?_
        refine Tl_q (JO_q rfl rfl (Jq_move rfl rfl)) rfl ?_
        refine Tl_q (JO_skip rfl rfl rfl) rfl ?_
        refine Tl_q (JO_skip rfl rfl rfl) rfl ?_
        refine Tl_q (JO_skip rfl rfl rfl) rfl ?_
        refine Tl_q (JO_q rfl rfl (Jq_pick_f rfl rfl rfl)) rfl ?_
        refine Tl_q (JO_q rfl rfl (Jq_assign rfl rfl)) rfl ?_
        refine Tl_end ?_
        refine At_then ?_
        exact Tc_ret1 (fun _ _ h => h) rfl rfl (by unfold isD; rw [if_neg h0, hg]; simp [*])

end Go.Proofs.YtpabkdpijcbkgaaDoor
