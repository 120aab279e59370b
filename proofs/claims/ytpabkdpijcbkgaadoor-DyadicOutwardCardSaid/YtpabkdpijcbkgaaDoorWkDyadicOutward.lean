/- Walk: a law of chapter 5. -/
import Derived.Test.YtpabkdpijcbkgaaDoorWkP
import Derived.Test.YtpabkdpijcbkgaaDoorDyO
import Derived.Test.YtpabkdpijcbkgaaDoorFacts
set_option linter.unusedSimpArgs false
set_option linter.unusedVariables false
namespace Go.Proofs.YtpabkdpijcbkgaaDoor
open Go Go.RowKit Rc


set_option maxRecDepth 10000 in
set_option maxHeartbeats 2000000 in
theorem law_out (x : Qr) (n : Nat) (hn : n < 256) : Ctr Tryd.prog 4 [qV x, V.one (Leaf.val (.int .u8 ((n : Nat) : Int)))] (R.one (V.one (Leaf.val (.bool (true))))) := by
  refine Ctr.of_body Tryd.func4 rfl Tryd.ntmps4 (Nat.le_of_ble_eq_true rfl) (fun w0 A0 => ?_)
  refine Tc_seq ?_
  refine Tc_region ?_
  refine Tl_e (JO_e rfl rfl (Je_box (n := 0) rfl rfl rfl)) rfl rfl ?_
  refine Tl_q (JO_q rfl rfl (Jq_assign rfl rfl)) rfl ?_
  refine Tl_end ?_
  refine At_then ?_
  refine Tc_seq ?_
  refine Tc_seq ?_
  refine Tc_region ?_
  refine Tl_e (JO_e rfl rfl (Je_call rfl fn10 rfl (l5awake))) rfl rfl ?_
  refine Tl_q (JO_q rfl rfl (Jq_not rfl rfl (c := false) rfl)) rfl ?_
  refine Tl_end ?_
  refine At_then ?_
  refine Tc_f rfl ?_
  refine Tc_skipA ?_
  refine At_then ?_
  refine Tc_seq ?_
  refine Tc_region ?_
  refine Tl_q (JO_q rfl rfl (Jq_move rfl rfl)) rfl ?_
  refine Tl_q (JO_q rfl rfl (Jq_rem rfl rfl rfl (by decide) (r := ((n % 100 : Nat) : Int)) (tmodN _ _))) rfl ?_
  refine Tl_q (JO_q rfl rfl (Jq_convert rfl rfl un3 us5 (r := ((n % 100 : Nat) : Int)) (w64 (by omega) (by omega) (by omega)))) rfl ?_
  refine Tl_q (JO_q rfl rfl (Jq_add rfl rfl rfl (r := ((n % 100 + 1 : Nat) : Int)) (w64 (by omega) (by omega) (by omega)))) rfl ?_
  refine Tl_q (JO_q rfl rfl (Jq_assign rfl rfl)) rfl ?_
  refine Tl_end ?_
  refine At_then ?_
  refine Tc_seq ?_
  refine Tc_seq ?_
  refine Tc_norm [(2, some (D.ptr 0 0)), (5, some (D.val (.int .i64 ((n % 100 + 1 : Nat) : Int))))] [some ⟨25, [Leaf.val (.bool x.neg), natL x.n, natL x.d], none, none⟩] ⟨rfl, rfl, trivial⟩ rfl ?_
  refine Tc_region ?_
  refine Tl_q (JO_q rfl rfl (Jq_load_agg rfl rfl rfl (by decide) ty25 (by decide) (Nat.le_of_ble_eq_true rfl) rfl)) rfl ?_
  refine Tl_e (JO_e rfl rfl (Je_call rfl fn11 rfl (l5few x))) rfl rfl ?_
  refine Tl_q (JO_q rfl rfl (Jq_not rfl rfl (c := _) rfl)) rfl ?_
  refine Tl_end ?_
  refine At_then ?_
  refine Tc_cond rfl (fun hc26 => ?_) (fun hc26 => ?_)
  · skip
    refine Tc_seq ?_
    refine Tc_region ?_
    refine Tl_q (JO_q rfl rfl (Jq_assign rfl rfl)) rfl ?_
    refine Tl_end ?_
    refine At_then ?_
    exact Tc_ret1 (fun _ _ h => h) rfl rfl rfl
  · skip
    refine Tc_skipA ?_
    refine At_then ?_
    refine Tc_seq ?_
    have hfx : Fit 3 x := few_of hc26
    have irx : Br x.q 4 := (Br.q hfx).mono (by decide)
    haveI ibx : Br x.q 100 := irx.mono (by decide)
    have hd := dn_spec irx (p := n % 100 + 1) (by omega) (by omega)
    have hu := up_spec irx (p := n % 100 + 1) (by omega) (by omega)
    have hre := rep_ex irx (p := n % 100 + 1) (by omega) (by omega)
    have hri := rep_iff irx (p := n % 100 + 1) (by omega) (by omega)
    refine Tc_region ?_
    refine Tl_q (JO_q rfl rfl (Jq_load_agg rfl rfl rfl (by decide) ty25 (by decide) (Nat.le_of_ble_eq_true rfl) rfl)) rfl ?_
    refine Tl_q (JO_q rfl rfl (Jq_move rfl rfl)) rfl ?_
    refine Tl_e (JO_e rfl rfl (Je_call rfl fn12 rfl (ddown x (x.q) rfl (hfx.mono (by omega)) ((n % 100 + 1 : Nat) : Int)))) rfl rfl ?_
    refine Tl_q (JO_q rfl rfl (Jq_move rfl rfl)) rfl ?_
    refine Tl_q (JO_q rfl rfl (Jq_extract rfl rfl rfl)) rfl ?_
    refine Tl_q (JO_q rfl rfl (Jq_extract rfl rfl rfl)) rfl ?_
    refine Tl_e (JO_e rfl rfl (Je_alloc (n := 1) rfl tz29 rfl)) rfl rfl ?_
    refine Tl_e (JO_e rfl rfl (Je_store rfl rfl rfl rfl ty29 rfl (by decide) (Nat.le_of_ble_eq_true rfl) rfl)) rfl rfl ?_
    refine Tl_q (JO_q rfl rfl (Jq_assign rfl rfl)) rfl ?_
    refine Tl_end ?_
    refine At_then ?_
    refine Tc_seq ?_
    refine Tc_norm [(2, some (D.ptr 0 0)), (5, some (D.val (.int .i64 ((n % 100 + 1 : Nat) : Int)))), (6, some (D.ptr 1 0)), (7, some (D.val (.int .i64 (rndE ((n % 100 + 1 : Nat) : Int)))))] [some ⟨25, [Leaf.val (.bool x.neg), natL x.n, natL x.d], none, none⟩, some ⟨29, [Leaf.val (.bool ((rndD x.q ((n % 100 + 1 : Nat) : Int) (decide (sg x.q < 0))).neg)), natL (limbs ((rndD x.q ((n % 100 + 1 : Nat) : Int) (decide (sg x.q < 0))).mag)), Leaf.val (.int .i64 ((rndD x.q ((n % 100 + 1 : Nat) : Int) (decide (sg x.q < 0))).exp))], none, none⟩] ⟨rfl, rfl, rfl, rfl, trivial⟩ rfl ?_
    refine Tc_region ?_
    refine Tl_q (JO_q rfl rfl (Jq_load_agg rfl rfl rfl (by decide) ty25 (by decide) (Nat.le_of_ble_eq_true rfl) rfl)) rfl ?_
    refine Tl_q (JO_q rfl rfl (Jq_move rfl rfl)) rfl ?_
    refine Tl_e (JO_e rfl rfl (Je_call rfl fn13 rfl (dup x (x.q) rfl (hfx.mono (by omega)) ((n % 100 + 1 : Nat) : Int)))) rfl rfl ?_
    refine Tl_q (JO_q rfl rfl (Jq_move rfl rfl)) rfl ?_
    refine Tl_q (JO_q rfl rfl (Jq_extract rfl rfl rfl)) rfl ?_
    refine Tl_q (JO_q rfl rfl (Jq_extract rfl rfl rfl)) rfl ?_
    refine Tl_e (JO_e rfl rfl (Je_alloc (n := 2) rfl tz29 rfl)) rfl rfl ?_
    refine Tl_e (JO_e rfl rfl (Je_store rfl rfl rfl rfl ty29 rfl (by decide) (Nat.le_of_ble_eq_true rfl) rfl)) rfl rfl ?_
    refine Tl_q (JO_q rfl rfl (Jq_assign rfl rfl)) rfl ?_
    refine Tl_end ?_
    refine At_then ?_
    refine Tc_seq ?_
    refine Tc_seq ?_
    refine Tc_norm [(2, some (D.ptr 0 0)), (5, some (D.val (.int .i64 ((n % 100 + 1 : Nat) : Int)))), (6, some (D.ptr 1 0)), (7, some (D.val (.int .i64 (rndE ((n % 100 + 1 : Nat) : Int))))), (8, some (D.ptr 2 0)), (9, some (D.val (.int .i64 (rndE ((n % 100 + 1 : Nat) : Int)))))] [some ⟨25, [Leaf.val (.bool x.neg), natL x.n, natL x.d], none, none⟩, some ⟨29, [Leaf.val (.bool ((rndD x.q ((n % 100 + 1 : Nat) : Int) (decide (sg x.q < 0))).neg)), natL (limbs ((rndD x.q ((n % 100 + 1 : Nat) : Int) (decide (sg x.q < 0))).mag)), Leaf.val (.int .i64 ((rndD x.q ((n % 100 + 1 : Nat) : Int) (decide (sg x.q < 0))).exp))], none, none⟩, some ⟨29, [Leaf.val (.bool ((rndD x.q ((n % 100 + 1 : Nat) : Int) (decide (0 < sg x.q))).neg)), natL (limbs ((rndD x.q ((n % 100 + 1 : Nat) : Int) (decide (0 < sg x.q))).mag)), Leaf.val (.int .i64 ((rndD x.q ((n % 100 + 1 : Nat) : Int) (decide (0 < sg x.q))).exp))], none, none⟩] ⟨rfl, rfl, rfl, rfl, rfl, rfl, trivial⟩ rfl ?_
    refine Tc_region ?_
    refine Tl_q (JO_q rfl rfl (Jq_move rfl rfl)) rfl ?_
    refine Tl_q (JO_q rfl rfl (Jq_neq rfl rfl rfl (b := _) (rfl))) rfl ?_
    refine Tl_is false (by rw [rndE_of (by omega) (by omega)]; rfl) ?_
    refine Tl_q (JO_q rfl rfl (Jq_move rfl rfl)) rfl ?_
    refine Tl_q (JO_qg rfl rfl rfl rfl (Jq_move rfl rfl)) rfl ?_
    refine Tl_q (JO_qg rfl rfl rfl rfl (Jq_neq rfl rfl rfl (b := _) (rfl))) rfl ?_
    refine Tl_is false (by rw [rndE_of (by omega) (by omega)]; rfl) ?_
    refine Tl_q (JO_q rfl rfl (Jq_pick_f rfl rfl rfl)) rfl ?_
    refine Tl_q (JO_q rfl rfl (Jq_move rfl rfl)) rfl ?_
    refine Tl_q (JO_qg rfl rfl rfl rfl (Jq_load_agg rfl rfl rfl (by decide) ty29 (by decide) (Nat.le_of_ble_eq_true rfl) rfl)) rfl ?_
    refine Tl_e (JO_eg rfl rfl rfl rfl (Je_call rfl fn19 rfl (rdvalid ((rndD x.q ((n % 100 + 1 : Nat) : Int) (decide (sg x.q < 0))).neg) (limbs ((rndD x.q ((n % 100 + 1 : Nat) : Int) (decide (sg x.q < 0))).mag)) ((rndD x.q ((n % 100 + 1 : Nat) : Int) (decide (sg x.q < 0))).exp) (small_limbs _)))) rfl rfl ?_
    refine Tl_is true (isD_rndD _ _ _) ?_
    refine Tl_q (JO_qg rfl rfl rfl rfl (Jq_not rfl rfl (c := false) rfl)) rfl ?_
    refine Tl_q (JO_q rfl rfl (Jq_pick_f rfl rfl rfl)) rfl ?_
    refine Tl_q (JO_q rfl rfl (Jq_move rfl rfl)) rfl ?_
    refine Tl_q (JO_qg rfl rfl rfl rfl (Jq_load_agg rfl rfl rfl (by decide) ty29 (by decide) (Nat.le_of_ble_eq_true rfl) rfl)) rfl ?_
    refine Tl_e (JO_eg rfl rfl rfl rfl (Je_call rfl fn19 rfl (rdvalid ((rndD x.q ((n % 100 + 1 : Nat) : Int) (decide (0 < sg x.q))).neg) (limbs ((rndD x.q ((n % 100 + 1 : Nat) : Int) (decide (0 < sg x.q))).mag)) ((rndD x.q ((n % 100 + 1 : Nat) : Int) (decide (0 < sg x.q))).exp) (small_limbs _)))) rfl rfl ?_
    refine Tl_is true (isD_rndD _ _ _) ?_
    refine Tl_q (JO_qg rfl rfl rfl rfl (Jq_not rfl rfl (c := false) rfl)) rfl ?_
    refine Tl_q (JO_q rfl rfl (Jq_pick_f rfl rfl rfl)) rfl ?_
    refine Tl_q (JO_q rfl rfl (Jq_move rfl rfl)) rfl ?_
    refine Tl_q (JO_qg rfl rfl rfl rfl (Jq_fieldAddr rfl rfl fo29_1 rfl)) rfl ?_
    refine Tl_q (JO_qg rfl rfl rfl rfl (Jq_load rfl rfl rfl (by decide) ty23 rfl)) rfl ?_
    refine Tl_e (JO_eg rfl rfl rfl rfl (Je_call rfl fn20 rfl (rbits_w (limbs ((rndD x.q ((n % 100 + 1 : Nat) : Int) (decide (sg x.q < 0))).mag)) (small_limbs _) (Bn.use (by omega)) ((rndD x.q ((n % 100 + 1 : Nat) : Int) (decide (sg x.q < 0))).mag) (val_limbs _)))) rfl rfl ?_
    refine Tl_q (JO_qg rfl rfl rfl rfl (Jq_move rfl rfl)) rfl ?_
    refine Tl_q (JO_qg rfl rfl rfl rfl (Jq_gtr rfl rfl rfl (b := _) (rfl))) rfl ?_
    refine Tl_is false (dF (by have := rndD_bl irx (p := n % 100 + 1) (by omega) (by omega) (decide (sg x.q < 0)); omega)) ?_
    refine Tl_q (JO_q rfl rfl (Jq_pick_f rfl rfl rfl)) rfl ?_
    refine Tl_q (JO_q rfl rfl (Jq_move rfl rfl)) rfl ?_
    refine Tl_q (JO_qg rfl rfl rfl rfl (Jq_fieldAddr rfl rfl fo29_1 rfl)) rfl ?_
    refine Tl_q (JO_qg rfl rfl rfl rfl (Jq_load rfl rfl rfl (by decide) ty23 rfl)) rfl ?_
    refine Tl_e (JO_eg rfl rfl rfl rfl (Je_call rfl fn20 rfl (rbits_w (limbs ((rndD x.q ((n % 100 + 1 : Nat) : Int) (decide (0 < sg x.q))).mag)) (small_limbs _) (Bn.use (by omega)) ((rndD x.q ((n % 100 + 1 : Nat) : Int) (decide (0 < sg x.q))).mag) (val_limbs _)))) rfl rfl ?_
    refine Tl_q (JO_qg rfl rfl rfl rfl (Jq_move rfl rfl)) rfl ?_
    refine Tl_q (JO_qg rfl rfl rfl rfl (Jq_gtr rfl rfl rfl (b := _) (rfl))) rfl ?_
    refine Tl_is false (dF (by have := rndD_bl irx (p := n % 100 + 1) (by omega) (by omega) (decide (0 < sg x.q)); omega)) ?_
    refine Tl_q (JO_q rfl rfl (Jq_pick_f rfl rfl rfl)) rfl ?_
    refine Tl_end ?_
    refine At_then ?_
    refine Tc_f rfl ?_
    refine Tc_skipA ?_
    refine At_then ?_
    refine Tc_seq ?_
    refine Tc_norm [(2, some (D.ptr 0 0)), (5, some (D.val (.int .i64 ((n % 100 + 1 : Nat) : Int)))), (6, some (D.ptr 1 0)), (8, some (D.ptr 2 0))] [some ⟨25, [Leaf.val (.bool x.neg), natL x.n, natL x.d], none, none⟩, some ⟨29, [Leaf.val (.bool ((rndD x.q ((n % 100 + 1 : Nat) : Int) (decide (sg x.q < 0))).neg)), natL (limbs ((rndD x.q ((n % 100 + 1 : Nat) : Int) (decide (sg x.q < 0))).mag)), Leaf.val (.int .i64 ((rndD x.q ((n % 100 + 1 : Nat) : Int) (decide (sg x.q < 0))).exp))], none, none⟩, some ⟨29, [Leaf.val (.bool ((rndD x.q ((n % 100 + 1 : Nat) : Int) (decide (0 < sg x.q))).neg)), natL (limbs ((rndD x.q ((n % 100 + 1 : Nat) : Int) (decide (0 < sg x.q))).mag)), Leaf.val (.int .i64 ((rndD x.q ((n % 100 + 1 : Nat) : Int) (decide (0 < sg x.q))).exp))], none, none⟩] ⟨rfl, rfl, rfl, rfl, trivial⟩ rfl ?_
    refine Tc_drawK 2 [none, none, none, none, some 3, some 4, some 3, some 4] [3, 4] follows (by kernel_rfl) ?_
    refine DK_q (JO_q rfl rfl (Jq_load_agg rfl rfl rfl (by decide) ty29 (by decide) (Nat.le_of_ble_eq_true rfl) rfl)) ?_
    refine DK_c rfl rfl (Jd_call rfl fn21 rfl (rdrat (rndD x.q ((n % 100 + 1 : Nat) : Int) (decide (sg x.q < 0))) (Bd.use (by omega)))) ?_
    refine DK_q (JO_q rfl rfl (Jq_load_agg rfl rfl rfl (by decide) ty29 (by decide) (Nat.le_of_ble_eq_true rfl) rfl)) ?_
    refine DK_c rfl rfl (Jd_call rfl fn21 rfl (rdrat (rndD x.q ((n % 100 + 1 : Nat) : Int) (decide (0 < sg x.q))) (Bd.use (by omega)))) ?_
    refine DK_s 3 rfl rfl rfl (Jd_alloc (i := 3) rfl tz25 rfl) ?_
    refine DK_s 4 rfl rfl rfl (Jd_alloc (i := 4) rfl tz25 rfl) ?_
    refine DK_s 3 rfl rfl rfl (Jd_store rfl rfl rfl rfl ty25 rfl (by decide) (Nat.le_of_ble_eq_true rfl) rfl) ?_
    refine DK_s 4 rfl rfl rfl (Jd_store rfl rfl rfl rfl ty25 rfl (by decide) (Nat.le_of_ble_eq_true rfl) rfl) ?_
    refine DK_nil ?_
    refine At_then ?_
    refine Tc_seq ?_
    refine Tc_seq ?_
    refine Tc_free 1 ?_
    refine Tc_free 2 ?_
    refine Tc_norm [(2, some (D.ptr 0 0)), (5, some (D.val (.int .i64 ((n % 100 + 1 : Nat) : Int)))), (10, some (D.ptr 3 0)), (11, some (D.ptr 4 0))] [some ⟨25, [Leaf.val (.bool x.neg), natL x.n, natL x.d], none, none⟩, none, none, some ⟨25, [Leaf.val (.bool (cneg (dq (rndD x.q ((n % 100 + 1 : Nat) : Int) (decide (sg x.q < 0)))))), natL (limbs (cnum (dq (rndD x.q ((n % 100 + 1 : Nat) : Int) (decide (sg x.q < 0)))))), natL (limbs (cden (dq (rndD x.q ((n % 100 + 1 : Nat) : Int) (decide (sg x.q < 0))))))], none, none⟩, some ⟨25, [Leaf.val (.bool (cneg (dq (rndD x.q ((n % 100 + 1 : Nat) : Int) (decide (0 < sg x.q)))))), natL (limbs (cnum (dq (rndD x.q ((n % 100 + 1 : Nat) : Int) (decide (0 < sg x.q)))))), natL (limbs (cden (dq (rndD x.q ((n % 100 + 1 : Nat) : Int) (decide (0 < sg x.q))))))], none, none⟩] ⟨rfl, rfl, rfl, rfl, trivial⟩ rfl ?_
    refine Tc_region ?_
    refine Tl_q (JO_q rfl rfl (Jq_load_agg rfl rfl rfl (by decide) ty25 (by decide) (Nat.le_of_ble_eq_true rfl) rfl)) rfl ?_
    refine Tl_q (JO_q rfl rfl (Jq_load_agg rfl rfl rfl (by decide) ty25 (by decide) (Nat.le_of_ble_eq_true rfl) rfl)) rfl ?_
    refine Tl_e (JO_e rfl rfl (Je_call rfl fn22 rfl (rqcmp (qOf (dq (rndD x.q ((n % 100 + 1 : Nat) : Int) (decide (sg x.q < 0))))) (dq (rndD x.q ((n % 100 + 1 : Nat) : Int) (decide (sg x.q < 0)))) (qOf_q _) (Br.use (by omega)) x (x.q) rfl (hfx.mono (by omega))))) rfl rfl ?_
    refine Tl_q (JO_q rfl rfl (Jq_gtr rfl rfl rfl (b := _) (rfl))) rfl ?_
    refine Tl_is false (dF (Int.not_lt.2 (cmpq_le.2 hd.1))) ?_
    refine Tl_q (JO_q rfl rfl (Jq_move rfl rfl)) rfl ?_
    refine Tl_q (JO_qg rfl rfl rfl rfl (Jq_load_agg rfl rfl rfl (by decide) ty25 (by decide) (Nat.le_of_ble_eq_true rfl) rfl)) rfl ?_
    refine Tl_q (JO_qg rfl rfl rfl rfl (Jq_load_agg rfl rfl rfl (by decide) ty25 (by decide) (Nat.le_of_ble_eq_true rfl) rfl)) rfl ?_
    refine Tl_e (JO_eg rfl rfl rfl rfl (Je_call rfl fn22 rfl (rqcmp x (x.q) rfl (hfx.mono (by omega)) (qOf (dq (rndD x.q ((n % 100 + 1 : Nat) : Int) (decide (0 < sg x.q))))) (dq (rndD x.q ((n % 100 + 1 : Nat) : Int) (decide (0 < sg x.q)))) (qOf_q _) (Br.use (by omega))))) rfl rfl ?_
    refine Tl_q (JO_qg rfl rfl rfl rfl (Jq_gtr rfl rfl rfl (b := _) (rfl))) rfl ?_
    refine Tl_is false (dF (Int.not_lt.2 (cmpq_le.2 hu.1))) ?_
    refine Tl_q (JO_q rfl rfl (Jq_pick_f rfl rfl rfl)) rfl ?_
    refine Tl_end ?_
    refine At_then ?_
    refine Tc_f rfl ?_
    refine Tc_skipA ?_
    refine At_then ?_
    refine Tc_seq ?_
    refine Tc_norm [(2, some (D.ptr 0 0)), (5, some (D.val (.int .i64 ((n % 100 + 1 : Nat) : Int)))), (10, some (D.ptr 3 0)), (11, some (D.ptr 4 0))] [some ⟨25, [Leaf.val (.bool x.neg), natL x.n, natL x.d], none, none⟩, none, none, some ⟨25, [Leaf.val (.bool (cneg (dq (rndD x.q ((n % 100 + 1 : Nat) : Int) (decide (sg x.q < 0)))))), natL (limbs (cnum (dq (rndD x.q ((n % 100 + 1 : Nat) : Int) (decide (sg x.q < 0)))))), natL (limbs (cden (dq (rndD x.q ((n % 100 + 1 : Nat) : Int) (decide (sg x.q < 0))))))], none, none⟩, some ⟨25, [Leaf.val (.bool (cneg (dq (rndD x.q ((n % 100 + 1 : Nat) : Int) (decide (0 < sg x.q)))))), natL (limbs (cnum (dq (rndD x.q ((n % 100 + 1 : Nat) : Int) (decide (0 < sg x.q)))))), natL (limbs (cden (dq (rndD x.q ((n % 100 + 1 : Nat) : Int) (decide (0 < sg x.q))))))], none, none⟩] ⟨rfl, rfl, rfl, rfl, trivial⟩ rfl ?_
    refine Tc_region ?_
    refine Tl_q (JO_q rfl rfl (Jq_load_agg rfl rfl rfl (by decide) ty25 (by decide) (Nat.le_of_ble_eq_true rfl) rfl)) rfl ?_
    refine Tl_e (JO_e rfl rfl (Je_call rfl fn23 rfl (rdexact x (x.q) rfl (hfx.mono (by omega))))) rfl rfl ?_
    refine Tl_q (JO_q rfl rfl (Jq_move rfl rfl)) rfl ?_
    refine Tl_q (JO_q rfl rfl (Jq_extract rfl rfl rfl)) rfl ?_
    refine Tl_q (JO_q rfl rfl (Jq_extract rfl rfl rfl)) rfl ?_
    refine Tl_e (JO_e rfl rfl (Je_alloc (n := 5) rfl tz29 rfl)) rfl rfl ?_
    refine Tl_e (JO_e rfl rfl (Je_store rfl rfl rfl rfl ty29 rfl (by decide) (Nat.le_of_ble_eq_true rfl) rfl)) rfl rfl ?_
    refine Tl_q (JO_q rfl rfl (Jq_assign rfl rfl)) rfl ?_
    refine Tl_end ?_
    refine At_then ?_
    refine Tc_seq ?_
    refine Tc_seq ?_
    by_cases hrp : RepB (n % 100 + 1) x.q
    · skip
      refine Tc_norm [(2, some (D.ptr 0 0)), (5, some (D.val (.int .i64 ((n % 100 + 1 : Nat) : Int)))), (10, some (D.ptr 3 0)), (11, some (D.ptr 4 0)), (12, some (D.ptr 5 0)), (13, some (D.bool (exOk x.q)))] [some ⟨25, [Leaf.val (.bool x.neg), natL x.n, natL x.d], none, none⟩, none, none, some ⟨25, [Leaf.val (.bool (cneg (dq (rndD x.q ((n % 100 + 1 : Nat) : Int) (decide (sg x.q < 0)))))), natL (limbs (cnum (dq (rndD x.q ((n % 100 + 1 : Nat) : Int) (decide (sg x.q < 0)))))), natL (limbs (cden (dq (rndD x.q ((n % 100 + 1 : Nat) : Int) (decide (sg x.q < 0))))))], none, none⟩, some ⟨25, [Leaf.val (.bool (cneg (dq (rndD x.q ((n % 100 + 1 : Nat) : Int) (decide (0 < sg x.q)))))), natL (limbs (cnum (dq (rndD x.q ((n % 100 + 1 : Nat) : Int) (decide (0 < sg x.q)))))), natL (limbs (cden (dq (rndD x.q ((n % 100 + 1 : Nat) : Int) (decide (0 < sg x.q))))))], none, none⟩, some ⟨29, [Leaf.val (.bool ((exD x.q).neg)), natL (limbs ((exD x.q).mag)), Leaf.val (.int .i64 ((exD x.q).exp))], none, none⟩] ⟨rfl, rfl, rfl, rfl, rfl, rfl, trivial⟩ rfl ?_
      refine Tc_drawK 0 [none, none, none, none, none, none, none, none, none, none, none, none, none, none, none, none, none, none, none, none, none, none, none, none] [] follows (by kernel_rfl) ?_
      refine DK_q (JO_q rfl rfl (Jq_load_agg rfl rfl rfl (by decide) ty25 (by decide) (Nat.le_of_ble_eq_true rfl) rfl)) ?_
      refine DK_q (JO_q rfl rfl (Jq_load_agg rfl rfl rfl (by decide) ty25 (by decide) (Nat.le_of_ble_eq_true rfl) rfl)) ?_
      refine DK_c rfl rfl (Jd_call rfl fn22 rfl (rqcmp (qOf (dq (rndD x.q ((n % 100 + 1 : Nat) : Int) (decide (sg x.q < 0))))) (dq (rndD x.q ((n % 100 + 1 : Nat) : Int) (decide (sg x.q < 0)))) (qOf_q _) (Br.use (by omega)) x (x.q) rfl (hfx.mono (by omega)))) ?_
      refine DK_q (JO_q rfl rfl (Jq_eql rfl rfl rfl (b := _) (rfl))) ?_
      refine DK_is true (eT (cmpq_eq.2 (hri.1.2 hrp))) ?_
      refine DK_q (JO_q rfl rfl (Jq_move rfl rfl)) ?_
      refine DK_q (JO_q rfl rfl (Jq_move rfl rfl)) ?_
      refine DK_is true ((hre.1 hrp).1) ?_
      refine DK_q (JO_qg rfl rfl rfl rfl (Jq_fieldAddr rfl rfl fo29_1 rfl)) ?_
      refine DK_q (JO_qg rfl rfl rfl rfl (Jq_load rfl rfl rfl (by decide) ty23 rfl)) ?_
      refine DK_cg rfl rfl rfl rfl (Jd_call rfl fn20 rfl (rbits_w (limbs ((exD x.q).mag)) (small_limbs _) (Bn.use (by omega)) ((exD x.q).mag) (val_limbs _))) ?_
      refine DK_q (JO_qg rfl rfl rfl rfl (Jq_move rfl rfl)) ?_
      refine DK_q (JO_qg rfl rfl rfl rfl (Jq_leq rfl rfl rfl (b := _) (rfl))) ?_
      refine DK_is true (dT (by have := (hre.1 hrp).2; omega)) ?_
      refine DK_q (JO_q rfl rfl (Jq_pick_t rfl rfl rfl)) ?_
      refine DK_q (JO_q rfl rfl (Jq_neq_bool rfl rfl rfl un4 (d := _) (rfl))) ?_
      refine DK_is false (rfl) ?_
      refine DK_q (JO_q rfl rfl (Jq_move rfl rfl)) ?_
      refine DK_q (JO_qg rfl rfl rfl rfl (Jq_load_agg rfl rfl rfl (by decide) ty25 (by decide) (Nat.le_of_ble_eq_true rfl) rfl)) ?_
      refine DK_q (JO_qg rfl rfl rfl rfl (Jq_load_agg rfl rfl rfl (by decide) ty25 (by decide) (Nat.le_of_ble_eq_true rfl) rfl)) ?_
      refine DK_cg rfl rfl rfl rfl (Jd_call rfl fn22 rfl (rqcmp (qOf (dq (rndD x.q ((n % 100 + 1 : Nat) : Int) (decide (sg x.q < 0))))) (dq (rndD x.q ((n % 100 + 1 : Nat) : Int) (decide (sg x.q < 0)))) (qOf_q _) (Br.use (by omega)) x (x.q) rfl (hfx.mono (by omega)))) ?_
      refine DK_q (JO_qg rfl rfl rfl rfl (Jq_eql rfl rfl rfl (b := _) (rfl))) ?_
      refine DK_is true (eT (cmpq_eq.2 (hri.1.2 hrp))) ?_
      refine DK_q (JO_qg rfl rfl rfl rfl (Jq_load_agg rfl rfl rfl (by decide) ty25 (by decide) (Nat.le_of_ble_eq_true rfl) rfl)) ?_
      refine DK_q (JO_qg rfl rfl rfl rfl (Jq_load_agg rfl rfl rfl (by decide) ty25 (by decide) (Nat.le_of_ble_eq_true rfl) rfl)) ?_
      refine DK_cg rfl rfl rfl rfl (Jd_call rfl fn22 rfl (rqcmp (qOf (dq (rndD x.q ((n % 100 + 1 : Nat) : Int) (decide (0 < sg x.q))))) (dq (rndD x.q ((n % 100 + 1 : Nat) : Int) (decide (0 < sg x.q)))) (qOf_q _) (Br.use (by omega)) x (x.q) rfl (hfx.mono (by omega)))) ?_
      refine DK_q (JO_qg rfl rfl rfl rfl (Jq_eql rfl rfl rfl (b := _) (rfl))) ?_
      refine DK_is true (eT (cmpq_eq.2 (hri.2.2 hrp))) ?_
      refine DK_q (JO_qg rfl rfl rfl rfl (Jq_neq_bool rfl rfl rfl un4 (d := _) (rfl))) ?_
      refine DK_is false (rfl) ?_
      refine DK_q (JO_q rfl rfl (Jq_pick_f rfl rfl rfl)) ?_
      refine DK_nil ?_
      refine At_then ?_
      refine Tc_f rfl ?_
      refine Tc_skipA ?_
      refine At_then ?_
      refine Tc_seq ?_
      refine Tc_free 5 ?_
      refine Tc_norm [(2, some (D.ptr 0 0)), (5, some (D.val (.int .i64 ((n % 100 + 1 : Nat) : Int)))), (10, some (D.ptr 3 0)), (11, some (D.ptr 4 0))] [some ⟨25, [Leaf.val (.bool x.neg), natL x.n, natL x.d], none, none⟩, none, none, some ⟨25, [Leaf.val (.bool (cneg (dq (rndD x.q ((n % 100 + 1 : Nat) : Int) (decide (sg x.q < 0)))))), natL (limbs (cnum (dq (rndD x.q ((n % 100 + 1 : Nat) : Int) (decide (sg x.q < 0)))))), natL (limbs (cden (dq (rndD x.q ((n % 100 + 1 : Nat) : Int) (decide (sg x.q < 0))))))], none, none⟩, some ⟨25, [Leaf.val (.bool (cneg (dq (rndD x.q ((n % 100 + 1 : Nat) : Int) (decide (0 < sg x.q)))))), natL (limbs (cnum (dq (rndD x.q ((n % 100 + 1 : Nat) : Int) (decide (0 < sg x.q)))))), natL (limbs (cden (dq (rndD x.q ((n % 100 + 1 : Nat) : Int) (decide (0 < sg x.q))))))], none, none⟩, none] ⟨rfl, rfl, rfl, rfl, trivial⟩ rfl ?_
      refine Tc_region ?_
      refine Tl_q (JO_q rfl rfl (Jq_load_agg rfl rfl rfl (by decide) ty25 (by decide) (Nat.le_of_ble_eq_true rfl) rfl)) rfl ?_
      refine Tl_q (JO_q rfl rfl (Jq_load_agg rfl rfl rfl (by decide) ty25 (by decide) (Nat.le_of_ble_eq_true rfl) rfl)) rfl ?_
      refine Tl_e (JO_e rfl rfl (Je_call rfl fn24 rfl (rqsub (qOf (dq (rndD x.q ((n % 100 + 1 : Nat) : Int) (decide (0 < sg x.q))))) (dq (rndD x.q ((n % 100 + 1 : Nat) : Int) (decide (0 < sg x.q)))) (qOf_q _) (Br.use (by omega)) (qOf (dq (rndD x.q ((n % 100 + 1 : Nat) : Int) (decide (sg x.q < 0))))) (dq (rndD x.q ((n % 100 + 1 : Nat) : Int) (decide (sg x.q < 0)))) (qOf_q _) (Br.use (by omega))))) rfl rfl ?_
      refine Tl_e (JO_e rfl rfl (Je_alloc (n := 6) rfl tz25 rfl)) rfl rfl ?_
      refine Tl_e (JO_e rfl rfl (Je_store rfl rfl rfl rfl ty25 rfl (by decide) (Nat.le_of_ble_eq_true rfl) rfl)) rfl rfl ?_
      refine Tl_end ?_
      refine At_then ?_
      refine Tc_seq ?_
      refine Tc_region ?_
      refine Tl_e (JO_e rfl rfl (Je_buildSlice rfl un23 ty46 tz46 rfl (by decide) (by decide) rfl (by decide) rfl)) rfl rfl ?_
      refine Tl_q (JO_q rfl rfl (Jq_move rfl rfl)) rfl ?_
      refine Tl_q (JO_q rfl rfl (Jq_sub rfl rfl rfl (r := ((n % 100 : Nat) : Int)) (w64 (by omega) (by omega) (by omega)))) rfl ?_
      refine Tl_e (JO_e rfl rfl (Je_call rfl fn25 rfl (rShl_spec [1] (n % 100) (Small.cons (by decide) Small.nil) (by omega) (by simp) 1 rfl))) rfl rfl ?_
      refine Tl_q (JO_q rfl rfl (Jq_move rfl rfl)) rfl ?_
      refine Tl_q (JO_q rfl rfl (Jq_extract rfl rfl rfl)) rfl ?_
      refine Tl_q (JO_q rfl rfl (Jq_extract rfl rfl rfl)) rfl ?_
      refine Tl_q (JO_q rfl rfl (Jq_assign rfl rfl)) rfl ?_
      refine Tl_q (JO_q rfl rfl (Jq_assign rfl rfl)) rfl ?_
      refine Tl_end ?_
      refine At_then ?_
      refine Tc_seq ?_
      haveI ia : Br (rq false (val x.n) (val x.d)) 3 := Br.q (x := Qr.mk false x.n x.d x.hn x.hd) ⟨hfx.n, hfx.d⟩
      haveI i1 : Bn (1 * 2 ^ (n % 100)) 5 := Bn.shift (n := 1) (i := 1) 4 inferInstance (by omega)
      haveI i2 : Br (rq false (1 * 2 ^ (n % 100)) 0) 5 := Br.rqn (i := 5) (j := 0) i1.lt (by simp) (by decide)
      refine Tc_free 3 ?_
      refine Tc_free 4 ?_
      refine Tc_norm [(2, some (D.ptr 0 0)), (14, some (D.ptr 6 0)), (15, some (D.v (V.one (natL (limbs (1 * 2 ^ (n % 100)))))))] [some ⟨25, [Leaf.val (.bool x.neg), natL x.n, natL x.d], none, none⟩, none, none, none, none, none, some ⟨25, [Leaf.val (.bool (cneg ((dq (rndD x.q ((n % 100 + 1 : Nat) : Int) (decide (0 < sg x.q)))) - (dq (rndD x.q ((n % 100 + 1 : Nat) : Int) (decide (sg x.q < 0))))))), natL (limbs (cnum ((dq (rndD x.q ((n % 100 + 1 : Nat) : Int) (decide (0 < sg x.q)))) - (dq (rndD x.q ((n % 100 + 1 : Nat) : Int) (decide (sg x.q < 0))))))), natL (limbs (cden ((dq (rndD x.q ((n % 100 + 1 : Nat) : Int) (decide (0 < sg x.q)))) - (dq (rndD x.q ((n % 100 + 1 : Nat) : Int) (decide (sg x.q < 0)))))))], none, none⟩] ⟨rfl, rfl, rfl, trivial⟩ rfl ?_
      refine Tc_region ?_
      refine Tl_q (JO_q rfl rfl (Jq_fieldAddr rfl rfl fo25_1 rfl)) rfl ?_
      refine Tl_q (JO_q rfl rfl (Jq_load rfl rfl rfl (by decide) ty23 rfl)) rfl ?_
      refine Tl_q (JO_q rfl rfl (Jq_fieldAddr rfl rfl fo25_2 rfl)) rfl ?_
      refine Tl_q (JO_q rfl rfl (Jq_load rfl rfl rfl (by decide) ty23 rfl)) rfl ?_
      refine Tl_q (JO_q rfl rfl (Jq_build rfl tz25 rfl pl25 rfl)) rfl ?_
      refine Tl_e (JO_e rfl rfl (Je_call rfl fn26 rfl (rqcanon (Qr.mk false x.n x.d x.hn x.hd) (rq false (val x.n) (val x.d)) (qr_eq rfl rfl) (Fit.mk (hfx.mono (by omega)).n (hfx.mono (by omega)).d)))) rfl rfl ?_
      refine Tl_e (JO_e rfl rfl (Je_alloc (n := 7) rfl tz25 rfl)) rfl rfl ?_
      refine Tl_e (JO_e rfl rfl (Je_store rfl rfl rfl rfl ty25 rfl (by decide) (Nat.le_of_ble_eq_true rfl) rfl)) rfl rfl ?_
      refine Tl_end ?_
      refine At_then ?_
      refine Tc_seq ?_
      refine Tc_free 0 ?_
      refine Tc_norm [(14, some (D.ptr 6 0)), (15, some (D.v (V.one (natL (limbs (1 * 2 ^ (n % 100))))))), (17, some (D.ptr 7 0))] [none, none, none, none, none, none, some ⟨25, [Leaf.val (.bool (cneg ((dq (rndD x.q ((n % 100 + 1 : Nat) : Int) (decide (0 < sg x.q)))) - (dq (rndD x.q ((n % 100 + 1 : Nat) : Int) (decide (sg x.q < 0))))))), natL (limbs (cnum ((dq (rndD x.q ((n % 100 + 1 : Nat) : Int) (decide (0 < sg x.q)))) - (dq (rndD x.q ((n % 100 + 1 : Nat) : Int) (decide (sg x.q < 0))))))), natL (limbs (cden ((dq (rndD x.q ((n % 100 + 1 : Nat) : Int) (decide (0 < sg x.q)))) - (dq (rndD x.q ((n % 100 + 1 : Nat) : Int) (decide (sg x.q < 0)))))))], none, none⟩, some ⟨25, [Leaf.val (.bool (cneg (rq false (val x.n) (val x.d)))), natL (limbs (cnum (rq false (val x.n) (val x.d)))), natL (limbs (cden (rq false (val x.n) (val x.d))))], none, none⟩] ⟨rfl, rfl, rfl, trivial⟩ rfl ?_
      refine Tc_drawK 0 [none, none, none, none, none, none, none, none] [] follows (by kernel_rfl) ?_
      refine DK_q (JO_q rfl rfl (Jq_load_agg rfl rfl rfl (by decide) ty25 (by decide) (Nat.le_of_ble_eq_true rfl) rfl)) ?_
      refine DK_q (JO_q rfl rfl (Jq_move rfl rfl)) ?_
      refine DK_q (JO_q rfl rfl (Jq_build rfl tz25 rfl pl25 rfl)) ?_
      refine DK_c rfl rfl (Jd_call rfl fn27 rfl (rqmul (qOf ((dq (rndD x.q ((n % 100 + 1 : Nat) : Int) (decide (0 < sg x.q)))) - (dq (rndD x.q ((n % 100 + 1 : Nat) : Int) (decide (sg x.q < 0)))))) ((dq (rndD x.q ((n % 100 + 1 : Nat) : Int) (decide (0 < sg x.q)))) - (dq (rndD x.q ((n % 100 + 1 : Nat) : Int) (decide (sg x.q < 0))))) (qOf_q _) (Br.use (by omega)) (Qr.mk false (limbs (1 * 2 ^ (n % 100))) [] (small_limbs _) Small.nil) (rq false (1 * 2 ^ (n % 100)) (0)) (qr_eq (val_limbs _) rfl) (Fit.mk (Bn.use (by omega)) (Nat.zero_le _)))) ?_
      refine DK_q (JO_q rfl rfl (Jq_load_agg rfl rfl rfl (by decide) ty25 (by decide) (Nat.le_of_ble_eq_true rfl) rfl)) ?_
      refine DK_c rfl rfl (Jd_call rfl fn22 rfl (rqcmp (qOf (((dq (rndD x.q ((n % 100 + 1 : Nat) : Int) (decide (0 < sg x.q)))) - (dq (rndD x.q ((n % 100 + 1 : Nat) : Int) (decide (sg x.q < 0))))) * (rq false (1 * 2 ^ (n % 100)) (0)))) (((dq (rndD x.q ((n % 100 + 1 : Nat) : Int) (decide (0 < sg x.q)))) - (dq (rndD x.q ((n % 100 + 1 : Nat) : Int) (decide (sg x.q < 0))))) * (rq false (1 * 2 ^ (n % 100)) (0))) (qOf_q _) (Br.use (by omega)) (qOf (rq false (val x.n) (val x.d))) (rq false (val x.n) (val x.d)) (qOf_q _) (Br.use (by omega)))) ?_
      refine DK_q (JO_q rfl rfl (Jq_leq rfl rfl rfl (b := _) (rfl))) ?_
      refine DK_is true (dT (cmpq_le.2 (law_width irx (by omega)))) ?_
      refine DK_q (JO_q rfl rfl (Jq_assign rfl rfl)) ?_
      refine DK_nil ?_
      refine At_then ?_
      exact Tc_ret1 (fun _ _ h => h) rfl rfl rfl
    · skip
      refine Tc_norm [(2, some (D.ptr 0 0)), (5, some (D.val (.int .i64 ((n % 100 + 1 : Nat) : Int)))), (10, some (D.ptr 3 0)), (11, some (D.ptr 4 0)), (12, some (D.ptr 5 0)), (13, some (D.bool (exOk x.q)))] [some ⟨25, [Leaf.val (.bool x.neg), natL x.n, natL x.d], none, none⟩, none, none, some ⟨25, [Leaf.val (.bool (cneg (dq (rndD x.q ((n % 100 + 1 : Nat) : Int) (decide (sg x.q < 0)))))), natL (limbs (cnum (dq (rndD x.q ((n % 100 + 1 : Nat) : Int) (decide (sg x.q < 0)))))), natL (limbs (cden (dq (rndD x.q ((n % 100 + 1 : Nat) : Int) (decide (sg x.q < 0))))))], none, none⟩, some ⟨25, [Leaf.val (.bool (cneg (dq (rndD x.q ((n % 100 + 1 : Nat) : Int) (decide (0 < sg x.q)))))), natL (limbs (cnum (dq (rndD x.q ((n % 100 + 1 : Nat) : Int) (decide (0 < sg x.q)))))), natL (limbs (cden (dq (rndD x.q ((n % 100 + 1 : Nat) : Int) (decide (0 < sg x.q))))))], none, none⟩, some ⟨29, [Leaf.val (.bool ((exD x.q).neg)), natL (limbs ((exD x.q).mag)), Leaf.val (.int .i64 ((exD x.q).exp))], none, none⟩] ⟨rfl, rfl, rfl, rfl, rfl, rfl, trivial⟩ rfl ?_
      refine Tc_drawK 0 [none, none, none, none, none, none, none, none, none, none, none, none, none, none, none, none, none, none, none, none, none, none, none, none] [] follows (by kernel_rfl) ?_
      refine DK_q (JO_q rfl rfl (Jq_load_agg rfl rfl rfl (by decide) ty25 (by decide) (Nat.le_of_ble_eq_true rfl) rfl)) ?_
      refine DK_q (JO_q rfl rfl (Jq_load_agg rfl rfl rfl (by decide) ty25 (by decide) (Nat.le_of_ble_eq_true rfl) rfl)) ?_
      refine DK_c rfl rfl (Jd_call rfl fn22 rfl (rqcmp (qOf (dq (rndD x.q ((n % 100 + 1 : Nat) : Int) (decide (sg x.q < 0))))) (dq (rndD x.q ((n % 100 + 1 : Nat) : Int) (decide (sg x.q < 0)))) (qOf_q _) (Br.use (by omega)) x (x.q) rfl (hfx.mono (by omega)))) ?_
      refine DK_q (JO_q rfl rfl (Jq_eql rfl rfl rfl (b := _) (rfl))) ?_
      refine DK_is false (eF (fun e => hrp (hri.1.1 (cmpq_eq.1 e)))) ?_
      refine DK_q (JO_q rfl rfl (Jq_move rfl rfl)) ?_
      refine DK_q (JO_q rfl rfl (Jq_move rfl rfl)) ?_
      refine DK_two (fun hok => ?_) (fun hok => ?_)
      · skip
        refine DK_skip rfl rfl rfl ?_
        refine DK_skip rfl rfl rfl ?_
        refine DK_skip rfl rfl rfl ?_
        refine DK_skip rfl rfl rfl ?_
        refine DK_skip rfl rfl rfl ?_
        refine DK_q (JO_q rfl rfl (Jq_pick_f rfl rfl rfl)) ?_
        refine DK_q (JO_q rfl rfl (Jq_neq_bool rfl rfl rfl un4 (d := _) (rfl))) ?_
        refine DK_is false (rfl) ?_
        refine DK_q (JO_q rfl rfl (Jq_move rfl rfl)) ?_
        refine DK_q (JO_qg rfl rfl rfl rfl (Jq_load_agg rfl rfl rfl (by decide) ty25 (by decide) (Nat.le_of_ble_eq_true rfl) rfl)) ?_
        refine DK_q (JO_qg rfl rfl rfl rfl (Jq_load_agg rfl rfl rfl (by decide) ty25 (by decide) (Nat.le_of_ble_eq_true rfl) rfl)) ?_
        refine DK_cg rfl rfl rfl rfl (Jd_call rfl fn22 rfl (rqcmp (qOf (dq (rndD x.q ((n % 100 + 1 : Nat) : Int) (decide (sg x.q < 0))))) (dq (rndD x.q ((n % 100 + 1 : Nat) : Int) (decide (sg x.q < 0)))) (qOf_q _) (Br.use (by omega)) x (x.q) rfl (hfx.mono (by omega)))) ?_
        refine DK_q (JO_qg rfl rfl rfl rfl (Jq_eql rfl rfl rfl (b := _) (rfl))) ?_
        refine DK_is false (eF (fun e => hrp (hri.1.1 (cmpq_eq.1 e)))) ?_
        refine DK_q (JO_qg rfl rfl rfl rfl (Jq_load_agg rfl rfl rfl (by decide) ty25 (by decide) (Nat.le_of_ble_eq_true rfl) rfl)) ?_
        refine DK_q (JO_qg rfl rfl rfl rfl (Jq_load_agg rfl rfl rfl (by decide) ty25 (by decide) (Nat.le_of_ble_eq_true rfl) rfl)) ?_
        refine DK_cg rfl rfl rfl rfl (Jd_call rfl fn22 rfl (rqcmp (qOf (dq (rndD x.q ((n % 100 + 1 : Nat) : Int) (decide (0 < sg x.q))))) (dq (rndD x.q ((n % 100 + 1 : Nat) : Int) (decide (0 < sg x.q)))) (qOf_q _) (Br.use (by omega)) x (x.q) rfl (hfx.mono (by omega)))) ?_
        refine DK_q (JO_qg rfl rfl rfl rfl (Jq_eql rfl rfl rfl (b := _) (rfl))) ?_
        refine DK_is false (eF (fun e => hrp (hri.2.1 (cmpq_eq.1 e)))) ?_
        refine DK_q (JO_qg rfl rfl rfl rfl (Jq_neq_bool rfl rfl rfl un4 (d := _) (rfl))) ?_
        refine DK_is false (rfl) ?_
        refine DK_q (JO_q rfl rfl (Jq_pick_f rfl rfl rfl)) ?_
        refine DK_nil ?_
        refine At_then ?_
        refine Tc_f rfl ?_
        refine Tc_skipA ?_
        refine At_then ?_
        refine Tc_seq ?_
        refine Tc_free 5 ?_
        refine Tc_norm [(2, some (D.ptr 0 0)), (5, some (D.val (.int .i64 ((n % 100 + 1 : Nat) : Int)))), (10, some (D.ptr 3 0)), (11, some (D.ptr 4 0))] [some ⟨25, [Leaf.val (.bool x.neg), natL x.n, natL x.d], none, none⟩, none, none, some ⟨25, [Leaf.val (.bool (cneg (dq (rndD x.q ((n % 100 + 1 : Nat) : Int) (decide (sg x.q < 0)))))), natL (limbs (cnum (dq (rndD x.q ((n % 100 + 1 : Nat) : Int) (decide (sg x.q < 0)))))), natL (limbs (cden (dq (rndD x.q ((n % 100 + 1 : Nat) : Int) (decide (sg x.q < 0))))))], none, none⟩, some ⟨25, [Leaf.val (.bool (cneg (dq (rndD x.q ((n % 100 + 1 : Nat) : Int) (decide (0 < sg x.q)))))), natL (limbs (cnum (dq (rndD x.q ((n % 100 + 1 : Nat) : Int) (decide (0 < sg x.q)))))), natL (limbs (cden (dq (rndD x.q ((n % 100 + 1 : Nat) : Int) (decide (0 < sg x.q))))))], none, none⟩, none] ⟨rfl, rfl, rfl, rfl, trivial⟩ rfl ?_
        refine Tc_region ?_
        refine Tl_q (JO_q rfl rfl (Jq_load_agg rfl rfl rfl (by decide) ty25 (by decide) (Nat.le_of_ble_eq_true rfl) rfl)) rfl ?_
        refine Tl_q (JO_q rfl rfl (Jq_load_agg rfl rfl rfl (by decide) ty25 (by decide) (Nat.le_of_ble_eq_true rfl) rfl)) rfl ?_
        refine Tl_e (JO_e rfl rfl (Je_call rfl fn24 rfl (rqsub (qOf (dq (rndD x.q ((n % 100 + 1 : Nat) : Int) (decide (0 < sg x.q))))) (dq (rndD x.q ((n % 100 + 1 : Nat) : Int) (decide (0 < sg x.q)))) (qOf_q _) (Br.use (by omega)) (qOf (dq (rndD x.q ((n % 100 + 1 : Nat) : Int) (decide (sg x.q < 0))))) (dq (rndD x.q ((n % 100 + 1 : Nat) : Int) (decide (sg x.q < 0)))) (qOf_q _) (Br.use (by omega))))) rfl rfl ?_
        refine Tl_e (JO_e rfl rfl (Je_alloc (n := 6) rfl tz25 rfl)) rfl rfl ?_
        refine Tl_e (JO_e rfl rfl (Je_store rfl rfl rfl rfl ty25 rfl (by decide) (Nat.le_of_ble_eq_true rfl) rfl)) rfl rfl ?_
        refine Tl_end ?_
        refine At_then ?_
        refine Tc_seq ?_
        refine Tc_region ?_
        refine Tl_e (JO_e rfl rfl (Je_buildSlice rfl un23 ty46 tz46 rfl (by decide) (by decide) rfl (by decide) rfl)) rfl rfl ?_
        refine Tl_q (JO_q rfl rfl (Jq_move rfl rfl)) rfl ?_
        refine Tl_q (JO_q rfl rfl (Jq_sub rfl rfl rfl (r := ((n % 100 : Nat) : Int)) (w64 (by omega) (by omega) (by omega)))) rfl ?_
        refine Tl_e (JO_e rfl rfl (Je_call rfl fn25 rfl (rShl_spec [1] (n % 100) (Small.cons (by decide) Small.nil) (by omega) (by simp) 1 rfl))) rfl rfl ?_
        refine Tl_q (JO_q rfl rfl (Jq_move rfl rfl)) rfl ?_
        refine Tl_q (JO_q rfl rfl (Jq_extract rfl rfl rfl)) rfl ?_
        refine Tl_q (JO_q rfl rfl (Jq_extract rfl rfl rfl)) rfl ?_
        refine Tl_q (JO_q rfl rfl (Jq_assign rfl rfl)) rfl ?_
        refine Tl_q (JO_q rfl rfl (Jq_assign rfl rfl)) rfl ?_
        refine Tl_end ?_
        refine At_then ?_
        refine Tc_seq ?_
        haveI ia : Br (rq false (val x.n) (val x.d)) 3 := Br.q (x := Qr.mk false x.n x.d x.hn x.hd) ⟨hfx.n, hfx.d⟩
        haveI i1 : Bn (1 * 2 ^ (n % 100)) 5 := Bn.shift (n := 1) (i := 1) 4 inferInstance (by omega)
        haveI i2 : Br (rq false (1 * 2 ^ (n % 100)) 0) 5 := Br.rqn (i := 5) (j := 0) i1.lt (by simp) (by decide)
        refine Tc_free 3 ?_
        refine Tc_free 4 ?_
        refine Tc_norm [(2, some (D.ptr 0 0)), (14, some (D.ptr 6 0)), (15, some (D.v (V.one (natL (limbs (1 * 2 ^ (n % 100)))))))] [some ⟨25, [Leaf.val (.bool x.neg), natL x.n, natL x.d], none, none⟩, none, none, none, none, none, some ⟨25, [Leaf.val (.bool (cneg ((dq (rndD x.q ((n % 100 + 1 : Nat) : Int) (decide (0 < sg x.q)))) - (dq (rndD x.q ((n % 100 + 1 : Nat) : Int) (decide (sg x.q < 0))))))), natL (limbs (cnum ((dq (rndD x.q ((n % 100 + 1 : Nat) : Int) (decide (0 < sg x.q)))) - (dq (rndD x.q ((n % 100 + 1 : Nat) : Int) (decide (sg x.q < 0))))))), natL (limbs (cden ((dq (rndD x.q ((n % 100 + 1 : Nat) : Int) (decide (0 < sg x.q)))) - (dq (rndD x.q ((n % 100 + 1 : Nat) : Int) (decide (sg x.q < 0)))))))], none, none⟩] ⟨rfl, rfl, rfl, trivial⟩ rfl ?_
        refine Tc_region ?_
        refine Tl_q (JO_q rfl rfl (Jq_fieldAddr rfl rfl fo25_1 rfl)) rfl ?_
        refine Tl_q (JO_q rfl rfl (Jq_load rfl rfl rfl (by decide) ty23 rfl)) rfl ?_
        refine Tl_q (JO_q rfl rfl (Jq_fieldAddr rfl rfl fo25_2 rfl)) rfl ?_
        refine Tl_q (JO_q rfl rfl (Jq_load rfl rfl rfl (by decide) ty23 rfl)) rfl ?_
        refine Tl_q (JO_q rfl rfl (Jq_build rfl tz25 rfl pl25 rfl)) rfl ?_
        refine Tl_e (JO_e rfl rfl (Je_call rfl fn26 rfl (rqcanon (Qr.mk false x.n x.d x.hn x.hd) (rq false (val x.n) (val x.d)) (qr_eq rfl rfl) (Fit.mk (hfx.mono (by omega)).n (hfx.mono (by omega)).d)))) rfl rfl ?_
        refine Tl_e (JO_e rfl rfl (Je_alloc (n := 7) rfl tz25 rfl)) rfl rfl ?_
        refine Tl_e (JO_e rfl rfl (Je_store rfl rfl rfl rfl ty25 rfl (by decide) (Nat.le_of_ble_eq_true rfl) rfl)) rfl rfl ?_
        refine Tl_end ?_
        refine At_then ?_
        refine Tc_seq ?_
        refine Tc_free 0 ?_
        refine Tc_norm [(14, some (D.ptr 6 0)), (15, some (D.v (V.one (natL (limbs (1 * 2 ^ (n % 100))))))), (17, some (D.ptr 7 0))] [none, none, none, none, none, none, some ⟨25, [Leaf.val (.bool (cneg ((dq (rndD x.q ((n % 100 + 1 : Nat) : Int) (decide (0 < sg x.q)))) - (dq (rndD x.q ((n % 100 + 1 : Nat) : Int) (decide (sg x.q < 0))))))), natL (limbs (cnum ((dq (rndD x.q ((n % 100 + 1 : Nat) : Int) (decide (0 < sg x.q)))) - (dq (rndD x.q ((n % 100 + 1 : Nat) : Int) (decide (sg x.q < 0))))))), natL (limbs (cden ((dq (rndD x.q ((n % 100 + 1 : Nat) : Int) (decide (0 < sg x.q)))) - (dq (rndD x.q ((n % 100 + 1 : Nat) : Int) (decide (sg x.q < 0)))))))], none, none⟩, some ⟨25, [Leaf.val (.bool (cneg (rq false (val x.n) (val x.d)))), natL (limbs (cnum (rq false (val x.n) (val x.d)))), natL (limbs (cden (rq false (val x.n) (val x.d))))], none, none⟩] ⟨rfl, rfl, rfl, trivial⟩ rfl ?_
        refine Tc_drawK 0 [none, none, none, none, none, none, none, none] [] follows (by kernel_rfl) ?_
        refine DK_q (JO_q rfl rfl (Jq_load_agg rfl rfl rfl (by decide) ty25 (by decide) (Nat.le_of_ble_eq_true rfl) rfl)) ?_
        refine DK_q (JO_q rfl rfl (Jq_move rfl rfl)) ?_
        refine DK_q (JO_q rfl rfl (Jq_build rfl tz25 rfl pl25 rfl)) ?_
        refine DK_c rfl rfl (Jd_call rfl fn27 rfl (rqmul (qOf ((dq (rndD x.q ((n % 100 + 1 : Nat) : Int) (decide (0 < sg x.q)))) - (dq (rndD x.q ((n % 100 + 1 : Nat) : Int) (decide (sg x.q < 0)))))) ((dq (rndD x.q ((n % 100 + 1 : Nat) : Int) (decide (0 < sg x.q)))) - (dq (rndD x.q ((n % 100 + 1 : Nat) : Int) (decide (sg x.q < 0))))) (qOf_q _) (Br.use (by omega)) (Qr.mk false (limbs (1 * 2 ^ (n % 100))) [] (small_limbs _) Small.nil) (rq false (1 * 2 ^ (n % 100)) (0)) (qr_eq (val_limbs _) rfl) (Fit.mk (Bn.use (by omega)) (Nat.zero_le _)))) ?_
        refine DK_q (JO_q rfl rfl (Jq_load_agg rfl rfl rfl (by decide) ty25 (by decide) (Nat.le_of_ble_eq_true rfl) rfl)) ?_
        refine DK_c rfl rfl (Jd_call rfl fn22 rfl (rqcmp (qOf (((dq (rndD x.q ((n % 100 + 1 : Nat) : Int) (decide (0 < sg x.q)))) - (dq (rndD x.q ((n % 100 + 1 : Nat) : Int) (decide (sg x.q < 0))))) * (rq false (1 * 2 ^ (n % 100)) (0)))) (((dq (rndD x.q ((n % 100 + 1 : Nat) : Int) (decide (0 < sg x.q)))) - (dq (rndD x.q ((n % 100 + 1 : Nat) : Int) (decide (sg x.q < 0))))) * (rq false (1 * 2 ^ (n % 100)) (0))) (qOf_q _) (Br.use (by omega)) (qOf (rq false (val x.n) (val x.d))) (rq false (val x.n) (val x.d)) (qOf_q _) (Br.use (by omega)))) ?_
        refine DK_q (JO_q rfl rfl (Jq_leq rfl rfl rfl (b := _) (rfl))) ?_
        refine DK_is true (dT (cmpq_le.2 (law_width irx (by omega)))) ?_
        refine DK_q (JO_q rfl rfl (Jq_assign rfl rfl)) ?_
        refine DK_nil ?_
        refine At_then ?_
        exact Tc_ret1 (fun _ _ h => h) rfl rfl rfl
      · skip
        refine DK_q (JO_qg rfl rfl rfl rfl (Jq_fieldAddr rfl rfl fo29_1 rfl)) ?_
        refine DK_q (JO_qg rfl rfl rfl rfl (Jq_load rfl rfl rfl (by decide) ty23 rfl)) ?_
        refine DK_cg rfl rfl rfl rfl (Jd_call rfl fn20 rfl (rbits_w (limbs ((exD x.q).mag)) (small_limbs _) (Bn.use (by omega)) ((exD x.q).mag) (val_limbs _))) ?_
        refine DK_q (JO_qg rfl rfl rfl rfl (Jq_move rfl rfl)) ?_
        refine DK_q (JO_qg rfl rfl rfl rfl (Jq_leq rfl rfl rfl (b := _) (rfl))) ?_
        refine DK_is false (dF (fun e => hrp (hre.2 ⟨hok, by omega⟩))) ?_
        refine DK_q (JO_q rfl rfl (Jq_pick_t rfl rfl rfl)) ?_
        refine DK_q (JO_q rfl rfl (Jq_neq_bool rfl rfl rfl un4 (d := _) (rfl))) ?_
        refine DK_is false (rfl) ?_
        refine DK_q (JO_q rfl rfl (Jq_move rfl rfl)) ?_
        refine DK_q (JO_qg rfl rfl rfl rfl (Jq_load_agg rfl rfl rfl (by decide) ty25 (by decide) (Nat.le_of_ble_eq_true rfl) rfl)) ?_
        refine DK_q (JO_qg rfl rfl rfl rfl (Jq_load_agg rfl rfl rfl (by decide) ty25 (by decide) (Nat.le_of_ble_eq_true rfl) rfl)) ?_
        refine DK_cg rfl rfl rfl rfl (Jd_call rfl fn22 rfl (rqcmp (qOf (dq (rndD x.q ((n % 100 + 1 : Nat) : Int) (decide (sg x.q < 0))))) (dq (rndD x.q ((n % 100 + 1 : Nat) : Int) (decide (sg x.q < 0)))) (qOf_q _) (Br.use (by omega)) x (x.q) rfl (hfx.mono (by omega)))) ?_
        refine DK_q (JO_qg rfl rfl rfl rfl (Jq_eql rfl rfl rfl (b := _) (rfl))) ?_
        refine DK_is false (eF (fun e => hrp (hri.1.1 (cmpq_eq.1 e)))) ?_
        refine DK_q (JO_qg rfl rfl rfl rfl (Jq_load_agg rfl rfl rfl (by decide) ty25 (by decide) (Nat.le_of_ble_eq_true rfl) rfl)) ?_
        refine DK_q (JO_qg rfl rfl rfl rfl (Jq_load_agg rfl rfl rfl (by decide) ty25 (by decide) (Nat.le_of_ble_eq_true rfl) rfl)) ?_
        refine DK_cg rfl rfl rfl rfl (Jd_call rfl fn22 rfl (rqcmp (qOf (dq (rndD x.q ((n % 100 + 1 : Nat) : Int) (decide (0 < sg x.q))))) (dq (rndD x.q ((n % 100 + 1 : Nat) : Int) (decide (0 < sg x.q)))) (qOf_q _) (Br.use (by omega)) x (x.q) rfl (hfx.mono (by omega)))) ?_
        refine DK_q (JO_qg rfl rfl rfl rfl (Jq_eql rfl rfl rfl (b := _) (rfl))) ?_
        refine DK_is false (eF (fun e => hrp (hri.2.1 (cmpq_eq.1 e)))) ?_
        refine DK_q (JO_qg rfl rfl rfl rfl (Jq_neq_bool rfl rfl rfl un4 (d := _) (rfl))) ?_
        refine DK_is false (rfl) ?_
        refine DK_q (JO_q rfl rfl (Jq_pick_f rfl rfl rfl)) ?_
        refine DK_nil ?_
        refine At_then ?_
        refine Tc_f rfl ?_
        refine Tc_skipA ?_
        refine At_then ?_
        refine Tc_seq ?_
        refine Tc_free 5 ?_
        refine Tc_norm [(2, some (D.ptr 0 0)), (5, some (D.val (.int .i64 ((n % 100 + 1 : Nat) : Int)))), (10, some (D.ptr 3 0)), (11, some (D.ptr 4 0))] [some ⟨25, [Leaf.val (.bool x.neg), natL x.n, natL x.d], none, none⟩, none, none, some ⟨25, [Leaf.val (.bool (cneg (dq (rndD x.q ((n % 100 + 1 : Nat) : Int) (decide (sg x.q < 0)))))), natL (limbs (cnum (dq (rndD x.q ((n % 100 + 1 : Nat) : Int) (decide (sg x.q < 0)))))), natL (limbs (cden (dq (rndD x.q ((n % 100 + 1 : Nat) : Int) (decide (sg x.q < 0))))))], none, none⟩, some ⟨25, [Leaf.val (.bool (cneg (dq (rndD x.q ((n % 100 + 1 : Nat) : Int) (decide (0 < sg x.q)))))), natL (limbs (cnum (dq (rndD x.q ((n % 100 + 1 : Nat) : Int) (decide (0 < sg x.q)))))), natL (limbs (cden (dq (rndD x.q ((n % 100 + 1 : Nat) : Int) (decide (0 < sg x.q))))))], none, none⟩, none] ⟨rfl, rfl, rfl, rfl, trivial⟩ rfl ?_
        refine Tc_region ?_
        refine Tl_q (JO_q rfl rfl (Jq_load_agg rfl rfl rfl (by decide) ty25 (by decide) (Nat.le_of_ble_eq_true rfl) rfl)) rfl ?_
        refine Tl_q (JO_q rfl rfl (Jq_load_agg rfl rfl rfl (by decide) ty25 (by decide) (Nat.le_of_ble_eq_true rfl) rfl)) rfl ?_
        refine Tl_e (JO_e rfl rfl (Je_call rfl fn24 rfl (rqsub (qOf (dq (rndD x.q ((n % 100 + 1 : Nat) : Int) (decide (0 < sg x.q))))) (dq (rndD x.q ((n % 100 + 1 : Nat) : Int) (decide (0 < sg x.q)))) (qOf_q _) (Br.use (by omega)) (qOf (dq (rndD x.q ((n % 100 + 1 : Nat) : Int) (decide (sg x.q < 0))))) (dq (rndD x.q ((n % 100 + 1 : Nat) : Int) (decide (sg x.q < 0)))) (qOf_q _) (Br.use (by omega))))) rfl rfl ?_
        refine Tl_e (JO_e rfl rfl (Je_alloc (n := 6) rfl tz25 rfl)) rfl rfl ?_
        refine Tl_e (JO_e rfl rfl (Je_store rfl rfl rfl rfl ty25 rfl (by decide) (Nat.le_of_ble_eq_true rfl) rfl)) rfl rfl ?_
        refine Tl_end ?_
        refine At_then ?_
        refine Tc_seq ?_
        refine Tc_region ?_
        refine Tl_e (JO_e rfl rfl (Je_buildSlice rfl un23 ty46 tz46 rfl (by decide) (by decide) rfl (by decide) rfl)) rfl rfl ?_
        refine Tl_q (JO_q rfl rfl (Jq_move rfl rfl)) rfl ?_
        refine Tl_q (JO_q rfl rfl (Jq_sub rfl rfl rfl (r := ((n % 100 : Nat) : Int)) (w64 (by omega) (by omega) (by omega)))) rfl ?_
        refine Tl_e (JO_e rfl rfl (Je_call rfl fn25 rfl (rShl_spec [1] (n % 100) (Small.cons (by decide) Small.nil) (by omega) (by simp) 1 rfl))) rfl rfl ?_
        refine Tl_q (JO_q rfl rfl (Jq_move rfl rfl)) rfl ?_
        refine Tl_q (JO_q rfl rfl (Jq_extract rfl rfl rfl)) rfl ?_
        refine Tl_q (JO_q rfl rfl (Jq_extract rfl rfl rfl)) rfl ?_
        refine Tl_q (JO_q rfl rfl (Jq_assign rfl rfl)) rfl ?_
        refine Tl_q (JO_q rfl rfl (Jq_assign rfl rfl)) rfl ?_
        refine Tl_end ?_
        refine At_then ?_
        refine Tc_seq ?_
        haveI ia : Br (rq false (val x.n) (val x.d)) 3 := Br.q (x := Qr.mk false x.n x.d x.hn x.hd) ⟨hfx.n, hfx.d⟩
        haveI i1 : Bn (1 * 2 ^ (n % 100)) 5 := Bn.shift (n := 1) (i := 1) 4 inferInstance (by omega)
        haveI i2 : Br (rq false (1 * 2 ^ (n % 100)) 0) 5 := Br.rqn (i := 5) (j := 0) i1.lt (by simp) (by decide)
        refine Tc_free 3 ?_
        refine Tc_free 4 ?_
        refine Tc_norm [(2, some (D.ptr 0 0)), (14, some (D.ptr 6 0)), (15, some (D.v (V.one (natL (limbs (1 * 2 ^ (n % 100)))))))] [some ⟨25, [Leaf.val (.bool x.neg), natL x.n, natL x.d], none, none⟩, none, none, none, none, none, some ⟨25, [Leaf.val (.bool (cneg ((dq (rndD x.q ((n % 100 + 1 : Nat) : Int) (decide (0 < sg x.q)))) - (dq (rndD x.q ((n % 100 + 1 : Nat) : Int) (decide (sg x.q < 0))))))), natL (limbs (cnum ((dq (rndD x.q ((n % 100 + 1 : Nat) : Int) (decide (0 < sg x.q)))) - (dq (rndD x.q ((n % 100 + 1 : Nat) : Int) (decide (sg x.q < 0))))))), natL (limbs (cden ((dq (rndD x.q ((n % 100 + 1 : Nat) : Int) (decide (0 < sg x.q)))) - (dq (rndD x.q ((n % 100 + 1 : Nat) : Int) (decide (sg x.q < 0)))))))], none, none⟩] ⟨rfl, rfl, rfl, trivial⟩ rfl ?_
        refine Tc_region ?_
        refine Tl_q (JO_q rfl rfl (Jq_fieldAddr rfl rfl fo25_1 rfl)) rfl ?_
        refine Tl_q (JO_q rfl rfl (Jq_load rfl rfl rfl (by decide) ty23 rfl)) rfl ?_
        refine Tl_q (JO_q rfl rfl (Jq_fieldAddr rfl rfl fo25_2 rfl)) rfl ?_
        refine Tl_q (JO_q rfl rfl (Jq_load rfl rfl rfl (by decide) ty23 rfl)) rfl ?_
        refine Tl_q (JO_q rfl rfl (Jq_build rfl tz25 rfl pl25 rfl)) rfl ?_
        refine Tl_e (JO_e rfl rfl (Je_call rfl fn26 rfl (rqcanon (Qr.mk false x.n x.d x.hn x.hd) (rq false (val x.n) (val x.d)) (qr_eq rfl rfl) (Fit.mk (hfx.mono (by omega)).n (hfx.mono (by omega)).d)))) rfl rfl ?_
        refine Tl_e (JO_e rfl rfl (Je_alloc (n := 7) rfl tz25 rfl)) rfl rfl ?_
        refine Tl_e (JO_e rfl rfl (Je_store rfl rfl rfl rfl ty25 rfl (by decide) (Nat.le_of_ble_eq_true rfl) rfl)) rfl rfl ?_
        refine Tl_end ?_
        refine At_then ?_
        refine Tc_seq ?_
        refine Tc_free 0 ?_
        refine Tc_norm [(14, some (D.ptr 6 0)), (15, some (D.v (V.one (natL (limbs (1 * 2 ^ (n % 100))))))), (17, some (D.ptr 7 0))] [none, none, none, none, none, none, some ⟨25, [Leaf.val (.bool (cneg ((dq (rndD x.q ((n % 100 + 1 : Nat) : Int) (decide (0 < sg x.q)))) - (dq (rndD x.q ((n % 100 + 1 : Nat) : Int) (decide (sg x.q < 0))))))), natL (limbs (cnum ((dq (rndD x.q ((n % 100 + 1 : Nat) : Int) (decide (0 < sg x.q)))) - (dq (rndD x.q ((n % 100 + 1 : Nat) : Int) (decide (sg x.q < 0))))))), natL (limbs (cden ((dq (rndD x.q ((n % 100 + 1 : Nat) : Int) (decide (0 < sg x.q)))) - (dq (rndD x.q ((n % 100 + 1 : Nat) : Int) (decide (sg x.q < 0)))))))], none, none⟩, some ⟨25, [Leaf.val (.bool (cneg (rq false (val x.n) (val x.d)))), natL (limbs (cnum (rq false (val x.n) (val x.d)))), natL (limbs (cden (rq false (val x.n) (val x.d))))], none, none⟩] ⟨rfl, rfl, rfl, trivial⟩ rfl ?_
        refine Tc_drawK 0 [none, none, none, none, none, none, none, none] [] follows (by kernel_rfl) ?_
        refine DK_q (JO_q rfl rfl (Jq_load_agg rfl rfl rfl (by decide) ty25 (by decide) (Nat.le_of_ble_eq_true rfl) rfl)) ?_
        refine DK_q (JO_q rfl rfl (Jq_move rfl rfl)) ?_
        refine DK_q (JO_q rfl rfl (Jq_build rfl tz25 rfl pl25 rfl)) ?_
        refine DK_c rfl rfl (Jd_call rfl fn27 rfl (rqmul (qOf ((dq (rndD x.q ((n % 100 + 1 : Nat) : Int) (decide (0 < sg x.q)))) - (dq (rndD x.q ((n % 100 + 1 : Nat) : Int) (decide (sg x.q < 0)))))) ((dq (rndD x.q ((n % 100 + 1 : Nat) : Int) (decide (0 < sg x.q)))) - (dq (rndD x.q ((n % 100 + 1 : Nat) : Int) (decide (sg x.q < 0))))) (qOf_q _) (Br.use (by omega)) (Qr.mk false (limbs (1 * 2 ^ (n % 100))) [] (small_limbs _) Small.nil) (rq false (1 * 2 ^ (n % 100)) (0)) (qr_eq (val_limbs _) rfl) (Fit.mk (Bn.use (by omega)) (Nat.zero_le _)))) ?_
        refine DK_q (JO_q rfl rfl (Jq_load_agg rfl rfl rfl (by decide) ty25 (by decide) (Nat.le_of_ble_eq_true rfl) rfl)) ?_
        refine DK_c rfl rfl (Jd_call rfl fn22 rfl (rqcmp (qOf (((dq (rndD x.q ((n % 100 + 1 : Nat) : Int) (decide (0 < sg x.q)))) - (dq (rndD x.q ((n % 100 + 1 : Nat) : Int) (decide (sg x.q < 0))))) * (rq false (1 * 2 ^ (n % 100)) (0)))) (((dq (rndD x.q ((n % 100 + 1 : Nat) : Int) (decide (0 < sg x.q)))) - (dq (rndD x.q ((n % 100 + 1 : Nat) : Int) (decide (sg x.q < 0))))) * (rq false (1 * 2 ^ (n % 100)) (0))) (qOf_q _) (Br.use (by omega)) (qOf (rq false (val x.n) (val x.d))) (rq false (val x.n) (val x.d)) (qOf_q _) (Br.use (by omega)))) ?_
        refine DK_q (JO_q rfl rfl (Jq_leq rfl rfl rfl (b := _) (rfl))) ?_
        refine DK_is true (dT (cmpq_le.2 (law_width irx (by omega)))) ?_
        refine DK_q (JO_q rfl rfl (Jq_assign rfl rfl)) ?_
        refine DK_nil ?_
        refine At_then ?_
        exact Tc_ret1 (fun _ _ h => h) rfl rfl rfl

end Go.Proofs.YtpabkdpijcbkgaaDoor
