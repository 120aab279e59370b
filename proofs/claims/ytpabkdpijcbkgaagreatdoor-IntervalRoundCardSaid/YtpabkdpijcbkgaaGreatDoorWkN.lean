/- Walks: dyadic numbers and their reference, Exact and Rat. -/
import Derived.Test.YtpabkdpijcbkgaaGreatDoorWkM
import Derived.Test.YtpabkdpijcbkgaaGreatDoorDyQ
import Derived.Test.YtpabkdpijcbkgaaGreatDoorFacts
set_option linter.unusedSimpArgs false
set_option linter.unusedVariables false
namespace Go.Proofs.YtpabkdpijcbkgaaGreatDoor
open Go Go.RowKit Rc


theorem zeros_w (n : Nat) (h : n ≠ 0) (hl : (limbs n).length ≤ 10000000000000) : Ctr Tryz.prog 87 [V.one (natL (limbs n))] (R.one (V.one (Leaf.val (.int .i64 ((tz n : Nat) : Int))))) := by
  have h1 := zeros_spec (limbs n) (small_limbs _) (by rw [val_limbs]; exact h) hl
  rwa [val_limbs] at h1

theorem rShlZ (l : List Nat) (k : Int) (h0 : 0 ≤ k) (hk : k ≤ 1048576) (hs : Small l) (hl : l.length ≤ 9000000000000) (m : Nat) (hm : val l = m) : Ctr Tryz.prog 40 [V.one (natL l), V.one (Leaf.val (.int .i64 k))] (R.tup [V.one (natL (limbs (m * 2 ^ k.toNat))), V.one (Leaf.val (.int .i64 0))]) := by
  obtain ⟨n, rfl⟩ := Int.eq_ofNat_of_zero_le h0
  exact rShl_spec l n hs (by omega) hl m hm

theorem rbits_w (a : List Nat) (hsa : Small a) (hla : a.length ≤ 10000000000000) (m : Nat) (hm : val a = m) : Ctr Tryz.prog 92 [V.one (natL a)] (R.one (V.one (Leaf.val (.int .i64 ((bl m : Nat) : Int))))) := by
  subst hm
  exact rbits_spec a hsa hla

set_option maxRecDepth 10000 in
theorem qnum (x : Qr) (r : Rat) (hr : x.q = r) (hfx : Fit 1000000000000 x) : Ctr Tryz.prog 51 [qV x] (R.one (zV (zOf r.num))) := by
  refine Ctr.of_body Tryz.func51 rfl Tryz.ntmps51 (Nat.le_of_ble_eq_true rfl) (fun w0 A0 => ?_)
  haveI ir : Br r 1000000000000 := Br.fitq hr hfx
  refine Tc_seq ?_
  refine Tc_region ?_
  refine Tl_e (JO_e rfl rfl (Je_box (n := 0) rfl rfl rfl)) rfl rfl ?_
  refine Tl_e (JO_e rfl rfl (Je_alloc (n := 1) rfl tz65 rfl)) rfl rfl ?_
  refine Tl_end ?_
  refine At_then ?_
  refine Tc_seq ?_
  refine Tc_region ?_
  refine Tl_q (JO_q rfl rfl (Jq_load_agg rfl rfl rfl (by decide) ty25 (by decide) (Nat.le_of_ble_eq_true rfl) rfl)) rfl ?_
  refine Tl_e (JO_e rfl rfl (Je_call rfl fn36 rfl (qcanon x (r) hr (hfx.mono (by omega))))) rfl rfl ?_
  refine Tl_e (JO_e rfl rfl (Je_alloc (n := 2) rfl tz25 rfl)) rfl rfl ?_
  refine Tl_e (JO_e rfl rfl (Je_store rfl rfl rfl rfl ty25 rfl (by decide) (Nat.le_of_ble_eq_true rfl) rfl)) rfl rfl ?_
  refine Tl_end ?_
  refine At_then ?_
  refine Tc_seq ?_
  refine Tc_region ?_
  refine Tl_q (JO_q rfl rfl (Jq_fieldAddr rfl rfl fo25_0 rfl)) rfl ?_
  refine Tl_q (JO_q rfl rfl (Jq_load rfl rfl rfl (by decide) ty4 rfl)) rfl ?_
  refine Tl_q (JO_q rfl rfl (Jq_fieldAddr rfl rfl fo25_1 rfl)) rfl ?_
  refine Tl_q (JO_q rfl rfl (Jq_load rfl rfl rfl (by decide) ty23 rfl)) rfl ?_
  refine Tl_q (JO_q rfl rfl (Jq_build rfl tz65 rfl pl65 rfl)) rfl ?_
  refine Tl_e (JO_e rfl rfl (Je_store rfl rfl rfl rfl ty65 rfl (by decide) (Nat.le_of_ble_eq_true rfl) rfl)) rfl rfl ?_
  refine Tl_end ?_
  refine At_then ?_
  exact Tc_ret1 (fun _ _ h => h) rfl (⟨_, _, rfl, rfl, .inl ⟨ty65, Nat.le_of_ble_eq_true rfl, rfl⟩⟩) rfl

set_option maxRecDepth 10000 in
theorem qden (x : Qr) (r : Rat) (hr : x.q = r) (hfx : Fit 1000000000000 x) : Ctr Tryz.prog 52 [qV x] (R.one (V.one (natL (limbs r.den)))) := by
  refine Ctr.of_body Tryz.func52 rfl Tryz.ntmps52 (Nat.le_of_ble_eq_true rfl) (fun w0 A0 => ?_)
  haveI ir : Br r 1000000000000 := Br.fitq hr hfx
  refine Tc_seq ?_
  refine Tc_region ?_
  refine Tl_e (JO_e rfl rfl (Je_box (n := 0) rfl rfl rfl)) rfl rfl ?_
  refine Tl_q (JO_q rfl rfl (Jq_assign_nil rfl)) rfl ?_
  refine Tl_end ?_
  refine At_then ?_
  refine Tc_seq ?_
  refine Tc_region ?_
  refine Tl_q (JO_q rfl rfl (Jq_load_agg rfl rfl rfl (by decide) ty25 (by decide) (Nat.le_of_ble_eq_true rfl) rfl)) rfl ?_
  refine Tl_e (JO_e rfl rfl (Je_call rfl fn36 rfl (qcanon x (r) hr (hfx.mono (by omega))))) rfl rfl ?_
  refine Tl_e (JO_e rfl rfl (Je_call rfl fn48 rfl (qunder (qOf (r)) (Br.use (by omega))))) rfl rfl ?_
  refine Tl_e (JO_e rfl rfl (Je_call rfl fn73 rfl (make_w (dl (qOf (r)).d) (small_dl (qOf (r)).hd) (len_dl (Br.use (r := (r)) (Nat.le_refl _)).d (by omega)) (dn (val (qOf (r)).d)) (val_dl _)))) rfl rfl ?_
  refine Tl_q (JO_q rfl rfl (Jq_assign rfl rfl)) rfl ?_
  refine Tl_end ?_
  refine At_then ?_
  exact Tc_ret1 (fun _ _ h => h) rfl rfl (congrArg (fun n => R.one (V.one (natL (limbs n)))) (dn_qOf r))

set_option maxRecDepth 10000 in
theorem rqden (x : Qr) (r : Rat) (hr : x.q = r) (hfx : Fit 1000000000000 x) : Ctr Tryz.prog 61 [qV x] (R.one (V.one (natL (limbs r.den)))) := by
  refine Ctr.of_body Tryz.func61 rfl Tryz.ntmps61 (Nat.le_of_ble_eq_true rfl) (fun w0 A0 => ?_)
  haveI ir : Br r 1000000000000 := Br.fitq hr hfx
  refine Tc_seq ?_
  refine Tc_region ?_
  refine Tl_e (JO_e rfl rfl (Je_box (n := 0) rfl rfl rfl)) rfl rfl ?_
  refine Tl_q (JO_q rfl rfl (Jq_assign_nil rfl)) rfl ?_
  refine Tl_end ?_
  refine At_then ?_
  refine Tc_seq ?_
  refine Tc_region ?_
  refine Tl_q (JO_q rfl rfl (Jq_load_agg rfl rfl rfl (by decide) ty25 (by decide) (Nat.le_of_ble_eq_true rfl) rfl)) rfl ?_
  refine Tl_e (JO_e rfl rfl (Je_call rfl fn41 rfl (rqcanon x (r) hr (hfx.mono (by omega))))) rfl rfl ?_
  refine Tl_q (JO_q rfl rfl (Jq_fieldT rfl rfl ft25_2 ty23 rfl)) rfl ?_
  refine Tl_e (JO_e rfl rfl (Je_call rfl fn68 rfl (rqone (limbs (cden r)) (small_limbs _) (Br.use (r := r) (by omega)).d))) rfl rfl ?_
  refine Tl_q (JO_q rfl rfl (Jq_assign rfl rfl)) rfl ?_
  refine Tl_end ?_
  refine At_then ?_
  exact Tc_ret1 (fun _ _ h => h) rfl rfl (congrArg (fun n => R.one (V.one (natL (limbs n)))) (dn_qOf r))

set_option maxRecDepth 10000 in
theorem dnormal (s : Bool) (l : List Nat) (e : Int) (hs : Small l) (hl : l.length ≤ 100000000000) (he1 : -1000000000000000 ≤ e) (he2 : e ≤ 1000000000000000) (n : Nat) (hn : val l = n) : Ctr Tryz.prog 57 [V.one (Leaf.val (.bool s)), V.one (natL l), V.one (Leaf.val (.int .i64 e))] (R.tup [dV (nrm s n e), V.one (Leaf.val (.bool (nok n e)))]) := by
  refine Ctr.of_body Tryz.func57 rfl Tryz.ntmps57 (Nat.le_of_ble_eq_true rfl) (fun w0 A0 => ?_)
  haveI i0 : Bn n 100000000000 := by subst hn; exact Bn.val hs hl
  have hb := bl_le_len (Bn.use (n := n) (Nat.le_refl _))
  have ht := tz_le_len (Bn.use (n := n) (Nat.le_refl _))
  refine Tc_seq ?_
  refine Tc_region ?_
  refine Tl_e (JO_e rfl rfl (Je_alloc (n := 0) rfl tz42 rfl)) rfl rfl ?_
  refine Tl_q (JO_q rfl rfl (Jq_assign rfl rfl)) rfl ?_
  refine Tl_end ?_
  refine At_then ?_
  refine Tc_seq ?_
  refine Tc_region ?_
  refine Tl_q (JO_q rfl rfl (Jq_move rfl rfl)) rfl ?_
  refine Tl_e (JO_e rfl rfl (Je_call rfl fn73 rfl (make_w l hs (Nat.le_trans hl (by omega)) (n) hn))) rfl rfl ?_
  refine Tl_q (JO_q rfl rfl (Jq_assign rfl rfl)) rfl ?_
  refine Tl_end ?_
  refine At_then ?_
  refine Tc_seq ?_
  refine Tc_seq ?_
  refine Tc_region ?_
  refine Tl_q (JO_q rfl rfl (Jq_move rfl rfl)) rfl ?_
  refine Tl_q (JO_q rfl rfl (Jq_len rfl rfl un23)) rfl ?_
  by_cases hn0 : n = 0
  · skip
    refine Tl_q (JO_q rfl rfl (Jq_eql rfl rfl rfl (b := true) (eT (by rw [hn0, limbs_zero]; rfl)))) rfl ?_
    refine Tl_end ?_
    refine At_then ?_
    refine Tc_t rfl ?_
    refine Tc_seq ?_
    refine Tc_region ?_
    refine Tl_q (JO_q rfl rfl (Jq_build rfl tz42 rfl pl42 rfl)) rfl ?_
    refine Tl_e (JO_e rfl rfl (Je_store rfl rfl rfl rfl ty42 rfl (by decide) (Nat.le_of_ble_eq_true rfl) rfl)) rfl rfl ?_
    refine Tl_q (JO_q rfl rfl (Jq_assign rfl rfl)) rfl ?_
    refine Tl_end ?_
    refine At_then ?_
    exact Tc_ret2 (fun _ _ h => h) rfl (⟨_, _, rfl, rfl, .inl ⟨ty42, Nat.le_of_ble_eq_true rfl, rfl⟩⟩) rfl (by rw [hn0, nrm_zero, nok_zero, dV_zero]; rfl)
  · skip
    refine Tl_q (JO_q rfl rfl (Jq_eql rfl rfl rfl (b := false) (eF (by have := limbs_len_pos.2 hn0; omega)))) rfl ?_
    refine Tl_end ?_
    refine At_then ?_
    refine Tc_f rfl ?_
    refine Tc_skipA ?_
    refine At_then ?_
    refine Tc_seq ?_
    refine Tc_region ?_
    refine Tl_q (JO_q rfl rfl (Jq_move rfl rfl)) rfl ?_
    refine Tl_e (JO_e rfl rfl (Je_call rfl fn87 rfl (zeros_w n hn0 (Bn.use (by omega))))) rfl rfl ?_
    refine Tl_q (JO_q rfl rfl (Jq_assign rfl rfl)) rfl ?_
    refine Tl_end ?_
    refine At_then ?_
    refine Tc_seq ?_
    refine Tc_seq ?_
    refine Tc_region ?_
    refine Tl_q (JO_q rfl rfl (Jq_move rfl rfl)) rfl ?_
    refine Tl_q (JO_q rfl rfl (Jq_move rfl rfl)) rfl ?_
    refine Tl_q (JO_q rfl rfl (Jq_add rfl rfl rfl (r := e + (tz n : Int)) (w64 rfl (by omega) (by omega)))) rfl ?_
    refine Tl_q (JO_q rfl rfl (Jq_assign rfl rfl)) rfl ?_
    refine Tl_end ?_
    refine At_then ?_
    refine Tc_seq ?_
    refine Tc_region ?_
    refine Tl_q (JO_q rfl rfl (Jq_move rfl rfl)) rfl ?_
    by_cases h1 : e + (tz n : Int) < -1048576
    · skip
      refine Tl_q (JO_q rfl rfl (Jq_lss rfl rfl rfl (b := true) (dT (by omega)))) rfl ?_
      refine Tl_q (JO_q rfl rfl (Jq_move rfl rfl)) rfl ?_
      refine Tl_q (JO_skip rfl rfl rfl) rfl ?_
      refine Tl_q (JO_skip rfl rfl rfl) rfl ?_
      refine Tl_q (JO_q rfl rfl (Jq_pick_t rfl rfl rfl)) rfl ?_
      refine Tl_end ?_
      refine At_then ?_
      refine Tc_t rfl ?_
      refine Tc_seq ?_
      refine Tc_region ?_
      refine Tl_q (JO_q rfl rfl (Jq_build rfl tz42 rfl pl42 rfl)) rfl ?_
      refine Tl_e (JO_e rfl rfl (Je_store rfl rfl rfl rfl ty42 rfl (by decide) (Nat.le_of_ble_eq_true rfl) rfl)) rfl rfl ?_
      refine Tl_q (JO_q rfl rfl (Jq_assign rfl rfl)) rfl ?_
      refine Tl_end ?_
      refine At_then ?_
      exact Tc_ret2 (fun _ _ h => h) rfl (⟨_, _, rfl, rfl, .inl ⟨ty42, Nat.le_of_ble_eq_true rfl, rfl⟩⟩) rfl (by rw [nrm_out hn0 (.inl h1), nok_out hn0 (.inl h1), dV_zero]; rfl)
    · skip
      refine Tl_q (JO_q rfl rfl (Jq_lss rfl rfl rfl (b := false) (dF (by omega)))) rfl ?_
      refine Tl_q (JO_q rfl rfl (Jq_move rfl rfl)) rfl ?_
      refine Tl_q (JO_qg rfl rfl rfl rfl (Jq_move rfl rfl)) rfl ?_
      by_cases h2 : 1048576 < e + (tz n : Int)
      · skip
        refine Tl_q (JO_qg rfl rfl rfl rfl (Jq_gtr rfl rfl rfl (b := true) (dT (by omega)))) rfl ?_
        refine Tl_q (JO_q rfl rfl (Jq_pick_f rfl rfl rfl)) rfl ?_
        refine Tl_end ?_
        refine At_then ?_
        refine Tc_t rfl ?_
        refine Tc_seq ?_
        refine Tc_region ?_
        refine Tl_q (JO_q rfl rfl (Jq_build rfl tz42 rfl pl42 rfl)) rfl ?_
        refine Tl_e (JO_e rfl rfl (Je_store rfl rfl rfl rfl ty42 rfl (by decide) (Nat.le_of_ble_eq_true rfl) rfl)) rfl rfl ?_
        refine Tl_q (JO_q rfl rfl (Jq_assign rfl rfl)) rfl ?_
        refine Tl_end ?_
        refine At_then ?_
        exact Tc_ret2 (fun _ _ h => h) rfl (⟨_, _, rfl, rfl, .inl ⟨ty42, Nat.le_of_ble_eq_true rfl, rfl⟩⟩) rfl (by rw [nrm_out hn0 (.inr h2), nok_out hn0 (.inr h2), dV_zero]; rfl)
      · skip
        refine Tl_q (JO_qg rfl rfl rfl rfl (Jq_gtr rfl rfl rfl (b := false) (dF (by omega)))) rfl ?_
        refine Tl_q (JO_q rfl rfl (Jq_pick_f rfl rfl rfl)) rfl ?_
        refine Tl_end ?_
        refine At_then ?_
        refine Tc_f rfl ?_
        refine Tc_skipA ?_
        refine At_then ?_
        refine Tc_seq ?_
        refine Tc_region ?_
        refine Tl_q (JO_q rfl rfl (Jq_move rfl rfl)) rfl ?_
        refine Tl_q (JO_q rfl rfl (Jq_move rfl rfl)) rfl ?_
        refine Tl_q (JO_q rfl rfl (Jq_move rfl rfl)) rfl ?_
        refine Tl_e (JO_e rfl rfl (Je_call rfl fn88 rfl (dshr_spec n (tz n : Int) (by omega) (Bn.use (by omega))))) rfl rfl ?_
        refine Tl_q (JO_q rfl rfl (Jq_move rfl rfl)) rfl ?_
        refine Tl_q (JO_q rfl rfl (Jq_build rfl tz42 rfl pl42 rfl)) rfl ?_
        refine Tl_e (JO_e rfl rfl (Je_store rfl rfl rfl rfl ty42 rfl (by decide) (Nat.le_of_ble_eq_true rfl) rfl)) rfl rfl ?_
        refine Tl_q (JO_q rfl rfl (Jq_assign rfl rfl)) rfl ?_
        refine Tl_end ?_
        refine At_then ?_
        exact Tc_ret2 (fun _ _ h => h) rfl (⟨_, _, rfl, rfl, .inl ⟨ty42, Nat.le_of_ble_eq_true rfl, rfl⟩⟩) rfl (by rw [nrm_in hn0 (by omega) (by omega), nok_in hn0 (by omega) (by omega)]; rfl)

set_option maxRecDepth 10000 in
theorem dcanon (s : Bool) (l : List Nat) (e : Int) (hs : Small l) (hl : l.length ≤ 100000000000) (he1 : -1000000000000000 ≤ e) (he2 : e ≤ 1000000000000000) (n : Nat) (hn : val l = n) : Ctr Tryz.prog 65 [V.one (Leaf.val (.bool s)), V.one (natL l), V.one (Leaf.val (.int .i64 e))] (R.tup [dV (nrm s n e), V.one (Leaf.val (.bool (nok n e)))]) := by
  refine Ctr.of_body Tryz.func65 rfl Tryz.ntmps65 (Nat.le_of_ble_eq_true rfl) (fun w0 A0 => ?_)
  haveI i0 : Bn n 100000000000 := by subst hn; exact Bn.val hs hl
  have hb := bl_le_len (Bn.use (n := n) (Nat.le_refl _))
  have ht := tz_le_len (Bn.use (n := n) (Nat.le_refl _))
  refine Tc_seq ?_
  refine Tc_region ?_
  refine Tl_e (JO_e rfl rfl (Je_alloc (n := 0) rfl tz42 rfl)) rfl rfl ?_
  refine Tl_q (JO_q rfl rfl (Jq_assign rfl rfl)) rfl ?_
  refine Tl_end ?_
  refine At_then ?_
  refine Tc_seq ?_
  refine Tc_region ?_
  refine Tl_q (JO_q rfl rfl (Jq_move rfl rfl)) rfl ?_
  refine Tl_e (JO_e rfl rfl (Je_call rfl fn91 rfl (rmake_w l hs (Nat.le_trans hl (by omega)) (n) hn))) rfl rfl ?_
  refine Tl_q (JO_q rfl rfl (Jq_assign rfl rfl)) rfl ?_
  refine Tl_end ?_
  refine At_then ?_
  refine Tc_seq ?_
  refine Tc_seq ?_
  refine Tc_region ?_
  refine Tl_q (JO_q rfl rfl (Jq_move rfl rfl)) rfl ?_
  refine Tl_q (JO_q rfl rfl (Jq_len rfl rfl un23)) rfl ?_
  by_cases hn0 : n = 0
  · skip
    refine Tl_q (JO_q rfl rfl (Jq_eql rfl rfl rfl (b := true) (eT (by rw [hn0, limbs_zero]; rfl)))) rfl ?_
    refine Tl_end ?_
    refine At_then ?_
    refine Tc_t rfl ?_
    refine Tc_seq ?_
    refine Tc_region ?_
    refine Tl_q (JO_q rfl rfl (Jq_build rfl tz42 rfl pl42 rfl)) rfl ?_
    refine Tl_e (JO_e rfl rfl (Je_store rfl rfl rfl rfl ty42 rfl (by decide) (Nat.le_of_ble_eq_true rfl) rfl)) rfl rfl ?_
    refine Tl_q (JO_q rfl rfl (Jq_assign rfl rfl)) rfl ?_
    refine Tl_end ?_
    refine At_then ?_
    exact Tc_ret2 (fun _ _ h => h) rfl (⟨_, _, rfl, rfl, .inl ⟨ty42, Nat.le_of_ble_eq_true rfl, rfl⟩⟩) rfl (by rw [hn0, nrm_zero, nok_zero, dV_zero]; rfl)
  · skip
    refine Tl_q (JO_q rfl rfl (Jq_eql rfl rfl rfl (b := false) (eF (by have := limbs_len_pos.2 hn0; omega)))) rfl ?_
    refine Tl_end ?_
    refine At_then ?_
    refine Tc_f rfl ?_
    refine Tc_skipA ?_
    refine At_then ?_
    refine Tc_seq ?_
    refine Tc_block ?_
    refine Tc_loopR (fun m Γ H => ∃ (x : Nat) (f : Int), x = m ∧ Γ = [(0, some (D.bool s)), (1, some (D.v (V.one (natL (limbs x))))), (2, some (D.int f)), (6, some (D.ptr 0 0))] ∧ H = [some ⟨42, [Leaf.val (.bool false), nilL, Leaf.val (.int .i64 0)], none, none⟩] ∧ x ≠ 0 ∧ (limbs x).length ≤ 100000000000 ∧ f + bl x = e + bl n ∧ nrm s x f = nrm s n e ∧ nok x f = nok n e) ⟨n, e, rfl, rfl, rfl, hn0, Bn.use (Nat.le_refl _), rfl, rfl, rfl⟩ ⟨rfl, rfl, rfl, rfl, trivial⟩ ?_
    rintro m Γ H ⟨x, f, rfl, rfl, rfl, hx0, hxl, hf, hnr, hok⟩
    have hxb := bl_le_len hxl; have hxp := limbs_len_pos.2 hx0
    refine Tc_seq ?_
    refine Tc_seq ?_
    refine Tc_region ?_
    refine Tl_q (JO_q rfl rfl (Jq_move rfl rfl)) rfl ?_
    refine Tl_q (JO_q rfl rfl (Jq_index1 rfl rfl rfl un23 ty62 (by omega) (by omega) (get_limb0 hx0))) rfl ?_
    refine Tl_q (JO_q rfl rfl (Jq_load_ref rfl rfl ty62)) rfl ?_
    refine Tl_q (JO_q rfl rfl (Jq_and rfl rfl rfl (r := ((x % 4294967296 % 2 : Nat) : Int)) (and_one (Nat.mod_lt _ (by decide))))) rfl ?_
    by_cases h2 : x % 2 = 0
    · skip
      refine Tl_q (JO_q rfl rfl (Jq_eql rfl rfl rfl (b := true) (eT (by omega)))) rfl ?_
      refine Tl_end ?_
      refine At_then ?_
      refine Tc_t rfl ?_
      refine Tc_skipA ?_
      refine At_then ?_
      refine Tc_block ?_
      refine Tc_seq ?_
      refine Tc_region ?_
      refine Tl_q (JO_q rfl rfl (Jq_move rfl rfl)) rfl ?_
      refine Tl_e (JO_e rfl rfl (Je_call rfl fn95 rfl (rShr_spec (limbs x) 1 (small_limbs _) (by decide) (by omega) x (val_limbs _)))) rfl rfl ?_
      refine Tl_q (JO_q rfl rfl (Jq_move rfl rfl)) rfl ?_
      refine Tl_q (JO_q rfl rfl (Jq_extract rfl rfl rfl)) rfl ?_
      refine Tl_q (JO_q rfl rfl (Jq_extract rfl rfl rfl)) rfl ?_
      refine Tl_q (JO_q rfl rfl (Jq_assign rfl rfl)) rfl ?_
      refine Tl_end ?_
      refine At_then ?_
      refine Tc_region ?_
      refine Tl_q (JO_q rfl rfl (Jq_move rfl rfl)) rfl ?_
      refine Tl_q (JO_q rfl rfl (Jq_add rfl rfl rfl (r := f + 1) (w64 (by omega) (by omega) (by omega)))) rfl ?_
      refine Tl_q (JO_q rfl rfl (Jq_assign rfl rfl)) rfl ?_
      refine Tl_end ?_
      refine At_block ?_
      exact At_next (m' := x / 2 ^ 1) (by omega) ⟨x / 2 ^ 1, f + 1, rfl, rfl, rfl, by omega, Nat.le_trans (limbs_length_mono (Nat.div_le_self _ _)) hxl, by have := bl_half (x := x) (by omega); rw [Nat.pow_one]; omega, (nrm_even hx0 h2).1.trans hnr, (nrm_even (s := s) hx0 h2).2.trans hok⟩ ⟨rfl, rfl, rfl, rfl, trivial⟩
    · skip
      refine Tl_q (JO_q rfl rfl (Jq_eql rfl rfl rfl (b := false) (eF (by omega)))) rfl ?_
      refine Tl_end ?_
      refine At_then ?_
      refine Tc_f rfl ?_
      refine Tc_exitA ?_
      refine At_then_exit ?_
      refine At_then_exit ?_
      refine At_block_exit ?_
      refine At_then ?_
      refine Tc_seq ?_
      refine Tc_seq ?_
      refine Tc_region ?_
      refine Tl_q (JO_q rfl rfl (Jq_move rfl rfl)) rfl ?_
      by_cases h3 : f < -1048576
      · skip
        refine Tl_q (JO_q rfl rfl (Jq_lss rfl rfl rfl (b := true) (dT (by omega)))) rfl ?_
        refine Tl_q (JO_q rfl rfl (Jq_move rfl rfl)) rfl ?_
        refine Tl_q (JO_skip rfl rfl rfl) rfl ?_
        refine Tl_q (JO_skip rfl rfl rfl) rfl ?_
        refine Tl_q (JO_q rfl rfl (Jq_pick_t rfl rfl rfl)) rfl ?_
        refine Tl_end ?_
        refine At_then ?_
        refine Tc_t rfl ?_
        refine Tc_seq ?_
        refine Tc_region ?_
        refine Tl_q (JO_q rfl rfl (Jq_build rfl tz42 rfl pl42 rfl)) rfl ?_
        refine Tl_e (JO_e rfl rfl (Je_store rfl rfl rfl rfl ty42 rfl (by decide) (Nat.le_of_ble_eq_true rfl) rfl)) rfl rfl ?_
        refine Tl_q (JO_q rfl rfl (Jq_assign rfl rfl)) rfl ?_
        refine Tl_end ?_
        refine At_then ?_
        exact Tc_ret2 (fun _ _ h => h) rfl (⟨_, _, rfl, rfl, .inl ⟨ty42, Nat.le_of_ble_eq_true rfl, rfl⟩⟩) rfl (by have h := nrm_odd_out (s := s) (n := x) (by omega) (.inl h3); rw [← hnr, ← hok, h.1, h.2, dV_zero]; rfl)
      · skip
        refine Tl_q (JO_q rfl rfl (Jq_lss rfl rfl rfl (b := false) (dF (by omega)))) rfl ?_
        refine Tl_q (JO_q rfl rfl (Jq_move rfl rfl)) rfl ?_
        refine Tl_q (JO_qg rfl rfl rfl rfl (Jq_move rfl rfl)) rfl ?_
        by_cases h4 : 1048576 < f
        · skip
          refine Tl_q (JO_qg rfl rfl rfl rfl (Jq_gtr rfl rfl rfl (b := true) (dT (by omega)))) rfl ?_
          refine Tl_q (JO_q rfl rfl (Jq_pick_f rfl rfl rfl)) rfl ?_
          refine Tl_end ?_
          refine At_then ?_
          refine Tc_t rfl ?_
          refine Tc_seq ?_
          refine Tc_region ?_
          refine Tl_q (JO_q rfl rfl (Jq_build rfl tz42 rfl pl42 rfl)) rfl ?_
          refine Tl_e (JO_e rfl rfl (Je_store rfl rfl rfl rfl ty42 rfl (by decide) (Nat.le_of_ble_eq_true rfl) rfl)) rfl rfl ?_
          refine Tl_q (JO_q rfl rfl (Jq_assign rfl rfl)) rfl ?_
          refine Tl_end ?_
          refine At_then ?_
          exact Tc_ret2 (fun _ _ h => h) rfl (⟨_, _, rfl, rfl, .inl ⟨ty42, Nat.le_of_ble_eq_true rfl, rfl⟩⟩) rfl (by have h := nrm_odd_out (s := s) (n := x) (by omega) (.inr h4); rw [← hnr, ← hok, h.1, h.2, dV_zero]; rfl)
        · skip
          refine Tl_q (JO_qg rfl rfl rfl rfl (Jq_gtr rfl rfl rfl (b := false) (dF (by omega)))) rfl ?_
          refine Tl_q (JO_q rfl rfl (Jq_pick_f rfl rfl rfl)) rfl ?_
          refine Tl_end ?_
          refine At_then ?_
          refine Tc_f rfl ?_
          refine Tc_skipA ?_
          refine At_then ?_
          refine Tc_seq ?_
          refine Tc_region ?_
          refine Tl_q (JO_q rfl rfl (Jq_move rfl rfl)) rfl ?_
          refine Tl_q (JO_q rfl rfl (Jq_move rfl rfl)) rfl ?_
          refine Tl_q (JO_q rfl rfl (Jq_move rfl rfl)) rfl ?_
          refine Tl_q (JO_q rfl rfl (Jq_build rfl tz42 rfl pl42 rfl)) rfl ?_
          refine Tl_e (JO_e rfl rfl (Je_store rfl rfl rfl rfl ty42 rfl (by decide) (Nat.le_of_ble_eq_true rfl) rfl)) rfl rfl ?_
          refine Tl_q (JO_q rfl rfl (Jq_assign rfl rfl)) rfl ?_
          refine Tl_end ?_
          refine At_then ?_
          exact Tc_ret2 (fun _ _ h => h) rfl (⟨_, _, rfl, rfl, .inl ⟨ty42, Nat.le_of_ble_eq_true rfl, rfl⟩⟩) rfl (by have h := nrm_odd_in (s := s) (n := x) (e := f) (by omega) (by omega) (by omega); rw [← hnr, ← hok, h.1, h.2]; rfl)

set_option maxRecDepth 10000 in
theorem drat (d : Dy) (hd : Dfit 1000000000 d) : Ctr Tryz.prog 19 [dV d] (R.one (qV (qOf (dq d)))) := by
  refine Ctr.of_body Tryz.func19 rfl Tryz.ntmps19 (Nat.le_of_ble_eq_true rfl) (fun w0 A0 => ?_)
  haveI id : Bd d 1000000000 := ⟨hd⟩
  have hlo := hd.lo; have hhi := hd.hi
  refine Tc_seq ?_
  refine Tc_region ?_
  refine Tl_e (JO_e rfl rfl (Je_box (n := 0) rfl rfl rfl)) rfl rfl ?_
  refine Tl_e (JO_e rfl rfl (Je_alloc (n := 1) rfl tz25 rfl)) rfl rfl ?_
  refine Tl_end ?_
  refine At_then ?_
  refine Tc_seq ?_
  refine Tc_seq ?_
  refine Tc_region ?_
  refine Tl_q (JO_q rfl rfl (Jq_fieldAddr rfl rfl fo42_2 rfl)) rfl ?_
  refine Tl_q (JO_q rfl rfl (Jq_load rfl rfl rfl (by decide) ty3 rfl)) rfl ?_
  by_cases h1 : 0 ≤ d.exp
  · skip
    refine Tl_q (JO_q rfl rfl (Jq_geq rfl rfl rfl (b := true) (dT (by omega)))) rfl ?_
    refine Tl_end ?_
    refine At_then ?_
    refine Tc_t rfl ?_
    refine Tc_seq ?_
    haveI i1 : Bn (d.mag * 2 ^ d.exp.toNat) (1000000000 + 32769) := Bn.shift 32769 inferInstance (by omega)
    refine Tc_drawK 0 [none, none, none, none, none, none, none, none, none, some 1] [1] follows (by kernel_rfl) ?_
    refine DK_q (JO_q rfl rfl (Jq_fieldAddr rfl rfl fo42_0 rfl)) ?_
    refine DK_q (JO_q rfl rfl (Jq_load rfl rfl rfl (by decide) ty4 rfl)) ?_
    refine DK_q (JO_q rfl rfl (Jq_fieldAddr rfl rfl fo42_1 rfl)) ?_
    refine DK_q (JO_q rfl rfl (Jq_load rfl rfl rfl (by decide) ty23 rfl)) ?_
    refine DK_q (JO_q rfl rfl (Jq_fieldAddr rfl rfl fo42_2 rfl)) ?_
    refine DK_q (JO_q rfl rfl (Jq_load rfl rfl rfl (by decide) ty3 rfl)) ?_
    refine DK_c rfl rfl (Jd_call rfl fn37 rfl (dshl_spec d.mag d.exp (by omega) (Bn.use (by omega)))) ?_
    refine DK_q (JO_q rfl rfl (Jq_build rfl tz25 rfl pl25 rfl)) ?_
    refine DK_c rfl rfl (Jd_call rfl fn36 rfl (qcanon (Qr.mk d.neg (limbs (d.mag * 2 ^ d.exp.toNat)) [] (small_limbs _) Small.nil) (rq d.neg (d.mag * 2 ^ d.exp.toNat) (0)) (qr_eq (val_limbs _) rfl) (Fit.mk (Bn.use (by omega)) (Nat.zero_le _)))) ?_
    refine DK_s 1 rfl rfl rfl (Jd_store rfl rfl rfl rfl ty25 rfl (by decide) (Nat.le_of_ble_eq_true rfl) rfl) ?_
    refine DK_nil ?_
    refine At_then ?_
    exact Tc_ret1 (fun _ _ h => h) rfl (⟨_, _, rfl, rfl, .inl ⟨ty25, Nat.le_of_ble_eq_true rfl, rfl⟩⟩) (by unfold dq; rw [if_pos h1]; rfl)
  · skip
    refine Tl_q (JO_q rfl rfl (Jq_geq rfl rfl rfl (b := false) (dF (by omega)))) rfl ?_
    refine Tl_end ?_
    refine At_then ?_
    refine Tc_f rfl ?_
    refine Tc_skipA ?_
    refine At_then ?_
    refine Tc_seq ?_
    haveI i2 : Bn (1 * 2 ^ (-d.exp).toNat) (1 + 32769) := Bn.shift 32769 ⟨by rw [limbs_one]; exact Nat.le_refl _⟩ (by omega)
    refine Tc_drawK 0 [none, none, none, none, none, none, none, none, none, none, none, some 1] [1] follows (by kernel_rfl) ?_
    refine DK_q (JO_q rfl rfl (Jq_fieldAddr rfl rfl fo42_0 rfl)) ?_
    refine DK_q (JO_q rfl rfl (Jq_load rfl rfl rfl (by decide) ty4 rfl)) ?_
    refine DK_q (JO_q rfl rfl (Jq_fieldAddr rfl rfl fo42_1 rfl)) ?_
    refine DK_q (JO_q rfl rfl (Jq_load rfl rfl rfl (by decide) ty23 rfl)) ?_
    refine DK_c rfl rfl (Jd_call rfl fn38 rfl (of_spec 1 (by decide))) ?_
    refine DK_q (JO_q rfl rfl (Jq_fieldAddr rfl rfl fo42_2 rfl)) ?_
    refine DK_q (JO_q rfl rfl (Jq_load rfl rfl rfl (by decide) ty3 rfl)) ?_
    refine DK_q (JO_q rfl rfl (Jq_neg rfl rfl (r := -d.exp) (w64 (by omega) (by omega) (by omega)))) ?_
    refine DK_c rfl rfl (Jd_call rfl fn37 rfl (dshl_spec 1 (-d.exp) (by omega) (Bn.use (by omega)))) ?_
    refine DK_q (JO_q rfl rfl (Jq_build rfl tz25 rfl pl25 rfl)) ?_
    refine DK_c rfl rfl (Jd_call rfl fn36 rfl (qcanon (Qr.mk d.neg (limbs (d.mag)) (limbs (1 * 2 ^ (-d.exp).toNat)) (small_limbs _) (small_limbs _)) (rq d.neg (d.mag) (1 * 2 ^ (-d.exp).toNat)) (qr_eq (val_limbs _) (val_limbs _)) (Fit.mk (Bn.use (by omega)) (Bn.use (by omega))))) ?_
    refine DK_s 1 rfl rfl rfl (Jd_store rfl rfl rfl rfl ty25 rfl (by decide) (Nat.le_of_ble_eq_true rfl) rfl) ?_
    refine DK_nil ?_
    refine At_then ?_
    exact Tc_ret1 (fun _ _ h => h) rfl (⟨_, _, rfl, rfl, .inl ⟨ty25, Nat.le_of_ble_eq_true rfl, rfl⟩⟩) (by unfold dq; rw [if_neg h1, Nat.one_mul]; rfl)

set_option maxRecDepth 10000 in
theorem rdrat (d : Dy) (hd : Dfit 1000000000 d) : Ctr Tryz.prog 22 [dV d] (R.one (qV (qOf (dq d)))) := by
  refine Ctr.of_body Tryz.func22 rfl Tryz.ntmps22 (Nat.le_of_ble_eq_true rfl) (fun w0 A0 => ?_)
  haveI id : Bd d 1000000000 := ⟨hd⟩
  have hlo := hd.lo; have hhi := hd.hi
  refine Tc_seq ?_
  refine Tc_region ?_
  refine Tl_e (JO_e rfl rfl (Je_box (n := 0) rfl rfl rfl)) rfl rfl ?_
  refine Tl_e (JO_e rfl rfl (Je_alloc (n := 1) rfl tz25 rfl)) rfl rfl ?_
  refine Tl_end ?_
  refine At_then ?_
  refine Tc_seq ?_
  refine Tc_seq ?_
  refine Tc_region ?_
  refine Tl_q (JO_q rfl rfl (Jq_fieldAddr rfl rfl fo42_2 rfl)) rfl ?_
  refine Tl_q (JO_q rfl rfl (Jq_load rfl rfl rfl (by decide) ty3 rfl)) rfl ?_
  by_cases h0 : d.exp < 0
  · skip
    refine Tl_q (JO_q rfl rfl (Jq_lss rfl rfl rfl (b := true) (dT (by omega)))) rfl ?_
    refine Tl_end ?_
    refine At_then ?_
    refine Tc_t rfl ?_
    refine Tc_seq ?_
    haveI i2 : Bn (1 * 2 ^ (-d.exp).toNat) (1 + 32769) := Bn.shift 32769 ⟨by rw [limbs_one]; exact Nat.le_refl _⟩ (by omega)
    refine Tc_region ?_
    refine Tl_e (JO_e rfl rfl (Je_buildSlice rfl un23 ty62 tz62 rfl (by decide) (by decide) rfl (by decide) rfl)) rfl rfl ?_
    refine Tl_q (JO_q rfl rfl (Jq_fieldAddr rfl rfl fo42_2 rfl)) rfl ?_
    refine Tl_q (JO_q rfl rfl (Jq_load rfl rfl rfl (by decide) ty3 rfl)) rfl ?_
    refine Tl_q (JO_q rfl rfl (Jq_neg rfl rfl (r := -d.exp) (w64 (by omega) (by omega) (by omega)))) rfl ?_
    refine Tl_e (JO_e rfl rfl (Je_call rfl fn40 rfl (rShlZ [1] (-d.exp) (by omega) (by omega) (Small.cons (by decide) Small.nil) (by simp) 1 rfl))) rfl rfl ?_
    refine Tl_q (JO_q rfl rfl (Jq_move rfl rfl)) rfl ?_
    refine Tl_q (JO_q rfl rfl (Jq_extract rfl rfl rfl)) rfl ?_
    refine Tl_q (JO_q rfl rfl (Jq_extract rfl rfl rfl)) rfl ?_
    refine Tl_q (JO_q rfl rfl (Jq_assign rfl rfl)) rfl ?_
    refine Tl_q (JO_q rfl rfl (Jq_assign rfl rfl)) rfl ?_
    refine Tl_end ?_
    refine At_then ?_
    refine Tc_seq ?_
    refine Tc_region ?_
    refine Tl_q (JO_q rfl rfl (Jq_fieldAddr rfl rfl fo42_0 rfl)) rfl ?_
    refine Tl_q (JO_q rfl rfl (Jq_load rfl rfl rfl (by decide) ty4 rfl)) rfl ?_
    refine Tl_q (JO_q rfl rfl (Jq_fieldAddr rfl rfl fo42_1 rfl)) rfl ?_
    refine Tl_q (JO_q rfl rfl (Jq_load rfl rfl rfl (by decide) ty23 rfl)) rfl ?_
    refine Tl_q (JO_q rfl rfl (Jq_move rfl rfl)) rfl ?_
    refine Tl_q (JO_q rfl rfl (Jq_build rfl tz25 rfl pl25 rfl)) rfl ?_
    refine Tl_e (JO_e rfl rfl (Je_call rfl fn41 rfl (rqcanon (Qr.mk d.neg (limbs (d.mag)) (limbs (1 * 2 ^ (-d.exp).toNat)) (small_limbs _) (small_limbs _)) (rq d.neg (d.mag) (1 * 2 ^ (-d.exp).toNat)) (qr_eq (val_limbs _) (val_limbs _)) (Fit.mk (Bn.use (by omega)) (Bn.use (by omega)))))) rfl rfl ?_
    refine Tl_e (JO_e rfl rfl (Je_store rfl rfl rfl rfl ty25 rfl (by decide) (Nat.le_of_ble_eq_true rfl) rfl)) rfl rfl ?_
    refine Tl_end ?_
    refine At_then ?_
    have h1 : ¬ 0 ≤ d.exp := by omega
    exact Tc_ret1 (fun _ _ h => h) rfl (⟨_, _, rfl, rfl, .inl ⟨ty25, Nat.le_of_ble_eq_true rfl, rfl⟩⟩) (by unfold dq; rw [if_neg h1, Nat.one_mul]; rfl)
  · skip
    refine Tl_q (JO_q rfl rfl (Jq_lss rfl rfl rfl (b := false) (dF (by omega)))) rfl ?_
    refine Tl_end ?_
    refine At_then ?_
    refine Tc_f rfl ?_
    refine Tc_skipA ?_
    refine At_then ?_
    refine Tc_seq ?_
    haveI i1 : Bn (d.mag * 2 ^ d.exp.toNat) (1000000000 + 32769) := Bn.shift 32769 inferInstance (by omega)
    refine Tc_region ?_
    refine Tl_q (JO_q rfl rfl (Jq_fieldAddr rfl rfl fo42_1 rfl)) rfl ?_
    refine Tl_q (JO_q rfl rfl (Jq_load rfl rfl rfl (by decide) ty23 rfl)) rfl ?_
    refine Tl_q (JO_q rfl rfl (Jq_fieldAddr rfl rfl fo42_2 rfl)) rfl ?_
    refine Tl_q (JO_q rfl rfl (Jq_load rfl rfl rfl (by decide) ty3 rfl)) rfl ?_
    refine Tl_e (JO_e rfl rfl (Je_call rfl fn40 rfl (rShlZ (limbs d.mag) d.exp (by omega) (by omega) (small_limbs _) (Bn.use (by omega)) d.mag (val_limbs _)))) rfl rfl ?_
    refine Tl_q (JO_q rfl rfl (Jq_move rfl rfl)) rfl ?_
    refine Tl_q (JO_q rfl rfl (Jq_extract rfl rfl rfl)) rfl ?_
    refine Tl_q (JO_q rfl rfl (Jq_extract rfl rfl rfl)) rfl ?_
    refine Tl_q (JO_q rfl rfl (Jq_assign rfl rfl)) rfl ?_
    refine Tl_q (JO_q rfl rfl (Jq_assign rfl rfl)) rfl ?_
    refine Tl_end ?_
    refine At_then ?_
    refine Tc_seq ?_
    refine Tc_region ?_
    refine Tl_q (JO_q rfl rfl (Jq_fieldAddr rfl rfl fo42_0 rfl)) rfl ?_
    refine Tl_q (JO_q rfl rfl (Jq_load rfl rfl rfl (by decide) ty4 rfl)) rfl ?_
    refine Tl_q (JO_q rfl rfl (Jq_move rfl rfl)) rfl ?_
    refine Tl_q (JO_q rfl rfl (Jq_build rfl tz25 rfl pl25 rfl)) rfl ?_
    refine Tl_e (JO_e rfl rfl (Je_call rfl fn41 rfl (rqcanon (Qr.mk d.neg (limbs (d.mag * 2 ^ d.exp.toNat)) [] (small_limbs _) Small.nil) (rq d.neg (d.mag * 2 ^ d.exp.toNat) (0)) (qr_eq (val_limbs _) rfl) (Fit.mk (Bn.use (by omega)) (Nat.zero_le _))))) rfl rfl ?_
    refine Tl_e (JO_e rfl rfl (Je_store rfl rfl rfl rfl ty25 rfl (by decide) (Nat.le_of_ble_eq_true rfl) rfl)) rfl rfl ?_
    refine Tl_end ?_
    refine At_then ?_
    have h1 : 0 ≤ d.exp := by omega
    exact Tc_ret1 (fun _ _ h => h) rfl (⟨_, _, rfl, rfl, .inl ⟨ty25, Nat.le_of_ble_eq_true rfl, rfl⟩⟩) (by unfold dq; rw [if_pos h1]; rfl)

end Go.Proofs.YtpabkdpijcbkgaaGreatDoor
