/- Walk: a law of chapter 5. -/
import Derived.Test.YtpabkdpijcbkgaaDoorWkP
import Derived.Test.YtpabkdpijcbkgaaDoorLaw5
import Derived.Test.YtpabkdpijcbkgaaDoorFactsB
set_option linter.unusedSimpArgs false
set_option linter.unusedVariables false
namespace Go.Proofs.YtpabkdpijcbkgaaDoor
open Go Go.RowKit Rc


set_option maxRecDepth 10000 in
set_option maxHeartbeats 2000000 in
theorem law_round (x : Qr) (p : Int) (hp1 : -9223372036854775808 ≤ p) (hp2 : p ≤ 9223372036854775807) : Ctr Tryd.prog 3 [qV x, V.one (Leaf.val (.int .i64 p))] (R.one (V.one (Leaf.val (.bool (true))))) := by
  refine Ctr.of_body Tryd.func3 rfl Tryd.ntmps3 (Nat.le_of_ble_eq_true rfl) (fun w0 A0 => ?_)
  refine Tc_seq ?_
  refine Tc_region ?_
  refine Tl_e (JO_e rfl rfl (Je_box (n := 0) rfl rfl rfl)) rfl rfl ?_
  refine Tl_q (JO_q rfl rfl (Jq_assign rfl rfl)) rfl ?_
  refine Tl_end ?_
  refine At_then ?_
  refine Tc_seq ?_
  refine Tc_seq ?_
  refine Tc_region ?_
  refine Tl_e (JO_e rfl rfl (Je_call rfl fn10 rfl (l5awake))) rfl rfl ?_
  refine Tl_q (JO_q rfl rfl (Jq_not rfl rfl (c := false) rfl)) rfl ?_
  refine Tl_end ?_
  refine At_then ?_
  refine Tc_f rfl ?_
  refine Tc_skipA ?_
  refine At_then ?_
  refine Tc_seq ?_
  refine Tc_seq ?_
  refine Tc_region ?_
  refine Tl_q (JO_q rfl rfl (Jq_load_agg rfl rfl rfl (by decide) ty25 (by decide) (Nat.le_of_ble_eq_true rfl) rfl)) rfl ?_
  refine Tl_e (JO_e rfl rfl (Je_call rfl fn11 rfl (l5few x))) rfl rfl ?_
  refine Tl_q (JO_q rfl rfl (Jq_not rfl rfl (c := _) rfl)) rfl ?_
  refine Tl_q (JO_q rfl rfl (Jq_move rfl rfl)) rfl ?_
  refine Tl_two (fun hb20 => ?_) (fun hb20 => ?_)
  · skip
    refine Tl_q (JO_qg rfl rfl rfl rfl (Jq_move rfl rfl)) rfl ?_
    refine Tl_q (JO_qg rfl rfl rfl rfl (Jq_gtr rfl rfl rfl (b := _) (rfl))) rfl ?_
    refine Tl_q (JO_qg rfl rfl rfl rfl (Jq_move rfl rfl)) rfl ?_
    refine Tl_two (fun hb23 => ?_) (fun hb23 => ?_)
    · skip
      refine Tl_q (JO_skip rfl rfl rfl) rfl ?_
      refine Tl_q (JO_skip rfl rfl rfl) rfl ?_
      refine Tl_q (JO_qg rfl rfl rfl rfl (Jq_pick_f rfl rfl rfl)) rfl ?_
      refine Tl_q (JO_q rfl rfl (Jq_pick_f rfl rfl rfl)) rfl ?_
      refine Tl_end ?_
      refine At_then ?_
      refine Tc_f rfl ?_
      refine Tc_skipA ?_
      refine At_then ?_
      refine Tc_seq ?_
      have hfx : Fit 3 x := few_of hb20
      haveI ibx : Br x.q 100 := (Br.q hfx).mono (by decide)
      refine Tc_norm [(1, some (D.val (.int .i64 p))), (2, some (D.ptr 0 0))] [some ⟨25, [Leaf.val (.bool x.neg), natL x.n, natL x.d], none, none⟩] ⟨rfl, rfl, trivial⟩ rfl ?_
      refine Tc_region ?_
      refine Tl_q (JO_q rfl rfl (Jq_load_agg rfl rfl rfl (by decide) ty25 (by decide) (Nat.le_of_ble_eq_true rfl) rfl)) rfl ?_
      refine Tl_q (JO_q rfl rfl (Jq_move rfl rfl)) rfl ?_
      refine Tl_e (JO_e rfl rfl (Je_call rfl fn12 rfl (ddown x (x.q) rfl (hfx.mono (by omega)) p))) rfl rfl ?_
      refine Tl_q (JO_q rfl rfl (Jq_move rfl rfl)) rfl ?_
      refine Tl_q (JO_q rfl rfl (Jq_extract rfl rfl rfl)) rfl ?_
      refine Tl_q (JO_q rfl rfl (Jq_extract rfl rfl rfl)) rfl ?_
      refine Tl_e (JO_e rfl rfl (Je_alloc (n := 1) rfl tz29 rfl)) rfl rfl ?_
      refine Tl_e (JO_e rfl rfl (Je_store rfl rfl rfl rfl ty29 rfl (by decide) (Nat.le_of_ble_eq_true rfl) rfl)) rfl rfl ?_
      refine Tl_q (JO_q rfl rfl (Jq_assign rfl rfl)) rfl ?_
      refine Tl_end ?_
      refine At_then ?_
      refine Tc_seq ?_
      refine Tc_norm [(1, some (D.val (.int .i64 p))), (2, some (D.ptr 0 0)), (5, some (D.ptr 1 0)), (6, some (D.val (.int .i64 (rndE p))))] [some ⟨25, [Leaf.val (.bool x.neg), natL x.n, natL x.d], none, none⟩, some ⟨29, [Leaf.val (.bool ((rndD x.q p (decide (sg x.q < 0))).neg)), natL (limbs ((rndD x.q p (decide (sg x.q < 0))).mag)), Leaf.val (.int .i64 ((rndD x.q p (decide (sg x.q < 0))).exp))], none, none⟩] ⟨rfl, rfl, rfl, rfl, trivial⟩ rfl ?_
      refine Tc_region ?_
      refine Tl_q (JO_q rfl rfl (Jq_load_agg rfl rfl rfl (by decide) ty25 (by decide) (Nat.le_of_ble_eq_true rfl) rfl)) rfl ?_
      refine Tl_q (JO_q rfl rfl (Jq_move rfl rfl)) rfl ?_
      refine Tl_e (JO_e rfl rfl (Je_call rfl fn13 rfl (dup x (x.q) rfl (hfx.mono (by omega)) p))) rfl rfl ?_
      refine Tl_q (JO_q rfl rfl (Jq_move rfl rfl)) rfl ?_
      refine Tl_q (JO_q rfl rfl (Jq_extract rfl rfl rfl)) rfl ?_
      refine Tl_q (JO_q rfl rfl (Jq_extract rfl rfl rfl)) rfl ?_
      refine Tl_e (JO_e rfl rfl (Je_alloc (n := 2) rfl tz29 rfl)) rfl rfl ?_
      refine Tl_e (JO_e rfl rfl (Je_store rfl rfl rfl rfl ty29 rfl (by decide) (Nat.le_of_ble_eq_true rfl) rfl)) rfl rfl ?_
      refine Tl_q (JO_q rfl rfl (Jq_assign rfl rfl)) rfl ?_
      refine Tl_end ?_
      refine At_then ?_
      refine Tc_seq ?_
      refine Tc_norm [(1, some (D.val (.int .i64 p))), (2, some (D.ptr 0 0)), (5, some (D.ptr 1 0)), (6, some (D.val (.int .i64 (rndE p)))), (7, some (D.ptr 2 0)), (8, some (D.val (.int .i64 (rndE p))))] [some ⟨25, [Leaf.val (.bool x.neg), natL x.n, natL x.d], none, none⟩, some ⟨29, [Leaf.val (.bool ((rndD x.q p (decide (sg x.q < 0))).neg)), natL (limbs ((rndD x.q p (decide (sg x.q < 0))).mag)), Leaf.val (.int .i64 ((rndD x.q p (decide (sg x.q < 0))).exp))], none, none⟩, some ⟨29, [Leaf.val (.bool ((rndD x.q p (decide (0 < sg x.q))).neg)), natL (limbs ((rndD x.q p (decide (0 < sg x.q))).mag)), Leaf.val (.int .i64 ((rndD x.q p (decide (0 < sg x.q))).exp))], none, none⟩] ⟨rfl, rfl, rfl, rfl, rfl, rfl, trivial⟩ rfl ?_
      refine Tc_region ?_
      refine Tl_q (JO_q rfl rfl (Jq_load_agg rfl rfl rfl (by decide) ty25 (by decide) (Nat.le_of_ble_eq_true rfl) rfl)) rfl ?_
      refine Tl_q (JO_q rfl rfl (Jq_move rfl rfl)) rfl ?_
      refine Tl_e (JO_e rfl rfl (Je_call rfl fn14 rfl (rddown x (x.q) rfl (hfx.mono (by omega)) p))) rfl rfl ?_
      refine Tl_q (JO_q rfl rfl (Jq_move rfl rfl)) rfl ?_
      refine Tl_q (JO_q rfl rfl (Jq_extract rfl rfl rfl)) rfl ?_
      refine Tl_q (JO_q rfl rfl (Jq_extract rfl rfl rfl)) rfl ?_
      refine Tl_e (JO_e rfl rfl (Je_alloc (n := 3) rfl tz29 rfl)) rfl rfl ?_
      refine Tl_e (JO_e rfl rfl (Je_store rfl rfl rfl rfl ty29 rfl (by decide) (Nat.le_of_ble_eq_true rfl) rfl)) rfl rfl ?_
      refine Tl_q (JO_q rfl rfl (Jq_assign rfl rfl)) rfl ?_
      refine Tl_end ?_
      refine At_then ?_
      refine Tc_seq ?_
      refine Tc_norm [(1, some (D.val (.int .i64 p))), (2, some (D.ptr 0 0)), (5, some (D.ptr 1 0)), (6, some (D.val (.int .i64 (rndE p)))), (7, some (D.ptr 2 0)), (8, some (D.val (.int .i64 (rndE p)))), (9, some (D.ptr 3 0)), (10, some (D.val (.int .i64 (rndE p))))] [some ⟨25, [Leaf.val (.bool x.neg), natL x.n, natL x.d], none, none⟩, some ⟨29, [Leaf.val (.bool ((rndD x.q p (decide (sg x.q < 0))).neg)), natL (limbs ((rndD x.q p (decide (sg x.q < 0))).mag)), Leaf.val (.int .i64 ((rndD x.q p (decide (sg x.q < 0))).exp))], none, none⟩, some ⟨29, [Leaf.val (.bool ((rndD x.q p (decide (0 < sg x.q))).neg)), natL (limbs ((rndD x.q p (decide (0 < sg x.q))).mag)), Leaf.val (.int .i64 ((rndD x.q p (decide (0 < sg x.q))).exp))], none, none⟩, some ⟨29, [Leaf.val (.bool ((rndD x.q p (decide (sg x.q < 0))).neg)), natL (limbs ((rndD x.q p (decide (sg x.q < 0))).mag)), Leaf.val (.int .i64 ((rndD x.q p (decide (sg x.q < 0))).exp))], none, none⟩] ⟨rfl, rfl, rfl, rfl, rfl, rfl, rfl, rfl, trivial⟩ rfl ?_
      refine Tc_region ?_
      refine Tl_q (JO_q rfl rfl (Jq_load_agg rfl rfl rfl (by decide) ty25 (by decide) (Nat.le_of_ble_eq_true rfl) rfl)) rfl ?_
      refine Tl_q (JO_q rfl rfl (Jq_move rfl rfl)) rfl ?_
      refine Tl_e (JO_e rfl rfl (Je_call rfl fn15 rfl (rdup x (x.q) rfl (hfx.mono (by omega)) p))) rfl rfl ?_
      refine Tl_q (JO_q rfl rfl (Jq_move rfl rfl)) rfl ?_
      refine Tl_q (JO_q rfl rfl (Jq_extract rfl rfl rfl)) rfl ?_
      refine Tl_q (JO_q rfl rfl (Jq_extract rfl rfl rfl)) rfl ?_
      refine Tl_e (JO_e rfl rfl (Je_alloc (n := 4) rfl tz29 rfl)) rfl rfl ?_
      refine Tl_e (JO_e rfl rfl (Je_store rfl rfl rfl rfl ty29 rfl (by decide) (Nat.le_of_ble_eq_true rfl) rfl)) rfl rfl ?_
      refine Tl_q (JO_q rfl rfl (Jq_assign rfl rfl)) rfl ?_
      refine Tl_end ?_
      refine At_then ?_
      refine Tc_seq ?_
      refine Tc_norm [(1, some (D.val (.int .i64 p))), (2, some (D.ptr 0 0)), (5, some (D.ptr 1 0)), (6, some (D.val (.int .i64 (rndE p)))), (7, some (D.ptr 2 0)), (8, some (D.val (.int .i64 (rndE p)))), (9, some (D.ptr 3 0)), (10, some (D.val (.int .i64 (rndE p)))), (11, some (D.ptr 4 0)), (12, some (D.val (.int .i64 (rndE p))))] [some ⟨25, [Leaf.val (.bool x.neg), natL x.n, natL x.d], none, none⟩, some ⟨29, [Leaf.val (.bool ((rndD x.q p (decide (sg x.q < 0))).neg)), natL (limbs ((rndD x.q p (decide (sg x.q < 0))).mag)), Leaf.val (.int .i64 ((rndD x.q p (decide (sg x.q < 0))).exp))], none, none⟩, some ⟨29, [Leaf.val (.bool ((rndD x.q p (decide (0 < sg x.q))).neg)), natL (limbs ((rndD x.q p (decide (0 < sg x.q))).mag)), Leaf.val (.int .i64 ((rndD x.q p (decide (0 < sg x.q))).exp))], none, none⟩, some ⟨29, [Leaf.val (.bool ((rndD x.q p (decide (sg x.q < 0))).neg)), natL (limbs ((rndD x.q p (decide (sg x.q < 0))).mag)), Leaf.val (.int .i64 ((rndD x.q p (decide (sg x.q < 0))).exp))], none, none⟩, some ⟨29, [Leaf.val (.bool ((rndD x.q p (decide (0 < sg x.q))).neg)), natL (limbs ((rndD x.q p (decide (0 < sg x.q))).mag)), Leaf.val (.int .i64 ((rndD x.q p (decide (0 < sg x.q))).exp))], none, none⟩] ⟨rfl, rfl, rfl, rfl, rfl, rfl, rfl, rfl, rfl, rfl, trivial⟩ rfl ?_
      refine Tc_region ?_
      refine Tl_q (JO_q rfl rfl (Jq_load_agg rfl rfl rfl (by decide) ty25 (by decide) (Nat.le_of_ble_eq_true rfl) rfl)) rfl ?_
      refine Tl_e (JO_e rfl rfl (Je_call rfl fn16 rfl (rqneg x (x.q) rfl (hfx.mono (by omega))))) rfl rfl ?_
      refine Tl_q (JO_q rfl rfl (Jq_move rfl rfl)) rfl ?_
      refine Tl_e (JO_e rfl rfl (Je_call rfl fn12 rfl (ddown (qOf (-(x.q))) (-(x.q)) (qOf_q _) (Br.use (by omega)) p))) rfl rfl ?_
      refine Tl_q (JO_q rfl rfl (Jq_move rfl rfl)) rfl ?_
      refine Tl_q (JO_q rfl rfl (Jq_extract rfl rfl rfl)) rfl ?_
      refine Tl_q (JO_q rfl rfl (Jq_extract rfl rfl rfl)) rfl ?_
      refine Tl_e (JO_e rfl rfl (Je_alloc (n := 5) rfl tz29 rfl)) rfl rfl ?_
      refine Tl_e (JO_e rfl rfl (Je_store rfl rfl rfl rfl ty29 rfl (by decide) (Nat.le_of_ble_eq_true rfl) rfl)) rfl rfl ?_
      refine Tl_q (JO_q rfl rfl (Jq_assign rfl rfl)) rfl ?_
      refine Tl_end ?_
      refine At_then ?_
      refine Tc_seq ?_
      refine Tc_free 0 ?_
      refine Tc_norm [(5, some (D.ptr 1 0)), (6, some (D.val (.int .i64 (rndE p)))), (7, some (D.ptr 2 0)), (8, some (D.val (.int .i64 (rndE p)))), (9, some (D.ptr 3 0)), (10, some (D.val (.int .i64 (rndE p)))), (11, some (D.ptr 4 0)), (12, some (D.val (.int .i64 (rndE p)))), (13, some (D.ptr 5 0)), (14, some (D.val (.int .i64 (rndE p))))] [none, some ⟨29, [Leaf.val (.bool ((rndD x.q p (decide (sg x.q < 0))).neg)), natL (limbs ((rndD x.q p (decide (sg x.q < 0))).mag)), Leaf.val (.int .i64 ((rndD x.q p (decide (sg x.q < 0))).exp))], none, none⟩, some ⟨29, [Leaf.val (.bool ((rndD x.q p (decide (0 < sg x.q))).neg)), natL (limbs ((rndD x.q p (decide (0 < sg x.q))).mag)), Leaf.val (.int .i64 ((rndD x.q p (decide (0 < sg x.q))).exp))], none, none⟩, some ⟨29, [Leaf.val (.bool ((rndD x.q p (decide (sg x.q < 0))).neg)), natL (limbs ((rndD x.q p (decide (sg x.q < 0))).mag)), Leaf.val (.int .i64 ((rndD x.q p (decide (sg x.q < 0))).exp))], none, none⟩, some ⟨29, [Leaf.val (.bool ((rndD x.q p (decide (0 < sg x.q))).neg)), natL (limbs ((rndD x.q p (decide (0 < sg x.q))).mag)), Leaf.val (.int .i64 ((rndD x.q p (decide (0 < sg x.q))).exp))], none, none⟩, some ⟨29, [Leaf.val (.bool ((rndD (-(x.q)) p (decide (sg (-(x.q)) < 0))).neg)), natL (limbs ((rndD (-(x.q)) p (decide (sg (-(x.q)) < 0))).mag)), Leaf.val (.int .i64 ((rndD (-(x.q)) p (decide (sg (-(x.q)) < 0))).exp))], none, none⟩] ⟨rfl, rfl, rfl, rfl, rfl, rfl, rfl, rfl, rfl, rfl, trivial⟩ rfl ?_
      refine Tc_drawK 0 [none, none, none, none, none, none, none, none, none, none, none, none, none, none, none, none, none, none, none, none, none, none, none, none, none, none, none, none, none, none, none, none, none, none] [] follows (by kernel_rfl) ?_
      refine DK_q (JO_q rfl rfl (Jq_move rfl rfl)) ?_
      refine DK_q (JO_q rfl rfl (Jq_move rfl rfl)) ?_
      refine DK_q (JO_q rfl rfl (Jq_eql rfl rfl rfl (b := _) (rfl))) ?_
      refine DK_is true (by simp) ?_
      refine DK_q (JO_q rfl rfl (Jq_move rfl rfl)) ?_
      refine DK_q (JO_qg rfl rfl rfl rfl (Jq_move rfl rfl)) ?_
      refine DK_q (JO_qg rfl rfl rfl rfl (Jq_move rfl rfl)) ?_
      refine DK_q (JO_qg rfl rfl rfl rfl (Jq_eql rfl rfl rfl (b := _) (rfl))) ?_
      refine DK_is true (by simp) ?_
      refine DK_q (JO_q rfl rfl (Jq_pick_t rfl rfl rfl)) ?_
      refine DK_q (JO_q rfl rfl (Jq_move rfl rfl)) ?_
      refine DK_q (JO_qg rfl rfl rfl rfl (Jq_move rfl rfl)) ?_
      refine DK_q (JO_qg rfl rfl rfl rfl (Jq_move rfl rfl)) ?_
      refine DK_q (JO_qg rfl rfl rfl rfl (Jq_eql rfl rfl rfl (b := _) (rfl))) ?_
      refine DK_is true (by simp) ?_
      refine DK_q (JO_q rfl rfl (Jq_pick_t rfl rfl rfl)) ?_
      refine DK_q (JO_q rfl rfl (Jq_move rfl rfl)) ?_
      refine DK_q (JO_qg rfl rfl rfl rfl (Jq_load_agg rfl rfl rfl (by decide) ty29 (by decide) (Nat.le_of_ble_eq_true rfl) rfl)) ?_
      refine DK_q (JO_qg rfl rfl rfl rfl (Jq_load_agg rfl rfl rfl (by decide) ty29 (by decide) (Nat.le_of_ble_eq_true rfl) rfl)) ?_
      refine DK_cg rfl rfl rfl rfl (Jd_call rfl fn17 rfl (dsame ((rndD x.q p (decide (sg x.q < 0))).neg) (limbs ((rndD x.q p (decide (sg x.q < 0))).mag)) ((rndD x.q p (decide (sg x.q < 0))).exp) ((rndD x.q p (decide (sg x.q < 0))).neg) (limbs ((rndD x.q p (decide (sg x.q < 0))).mag)) ((rndD x.q p (decide (sg x.q < 0))).exp))) ?_
      refine DK_is true (sameR_refl _ _ _) ?_
      refine DK_q (JO_q rfl rfl (Jq_pick_t rfl rfl rfl)) ?_
      refine DK_q (JO_q rfl rfl (Jq_move rfl rfl)) ?_
      refine DK_q (JO_qg rfl rfl rfl rfl (Jq_load_agg rfl rfl rfl (by decide) ty29 (by decide) (Nat.le_of_ble_eq_true rfl) rfl)) ?_
      refine DK_q (JO_qg rfl rfl rfl rfl (Jq_load_agg rfl rfl rfl (by decide) ty29 (by decide) (Nat.le_of_ble_eq_true rfl) rfl)) ?_
      refine DK_cg rfl rfl rfl rfl (Jd_call rfl fn17 rfl (dsame ((rndD x.q p (decide (0 < sg x.q))).neg) (limbs ((rndD x.q p (decide (0 < sg x.q))).mag)) ((rndD x.q p (decide (0 < sg x.q))).exp) ((rndD x.q p (decide (0 < sg x.q))).neg) (limbs ((rndD x.q p (decide (0 < sg x.q))).mag)) ((rndD x.q p (decide (0 < sg x.q))).exp))) ?_
      refine DK_is true (sameR_refl _ _ _) ?_
      refine DK_q (JO_q rfl rfl (Jq_pick_t rfl rfl rfl)) ?_
      refine DK_q (JO_q rfl rfl (Jq_move rfl rfl)) ?_
      refine DK_q (JO_qg rfl rfl rfl rfl (Jq_move rfl rfl)) ?_
      refine DK_q (JO_qg rfl rfl rfl rfl (Jq_neq rfl rfl rfl (b := _) (rfl))) ?_
      refine DK_q (JO_qg rfl rfl rfl rfl (Jq_move rfl rfl)) ?_
      refine DK_two (fun hb85 => ?_) (fun hb85 => ?_)
      · skip
        refine DK_q (JO_qg rfl rfl rfl rfl (Jq_load_agg rfl rfl rfl (by decide) ty29 (by decide) (Nat.le_of_ble_eq_true rfl) rfl)) ?_
        refine DK_q (JO_qg rfl rfl rfl rfl (Jq_load_agg rfl rfl rfl (by decide) ty29 (by decide) (Nat.le_of_ble_eq_true rfl) rfl)) ?_
        refine DK_cg rfl rfl rfl rfl (Jd_call rfl fn18 rfl (rdneg (rndD x.q p (decide (0 < sg x.q))) (Bd.use (by omega)))) ?_
        refine DK_cg rfl rfl rfl rfl (Jd_call rfl fn17 rfl (dsame ((rndD (-(x.q)) p (decide (sg (-(x.q)) < 0))).neg) (limbs ((rndD (-(x.q)) p (decide (sg (-(x.q)) < 0))).mag)) ((rndD (-(x.q)) p (decide (sg (-(x.q)) < 0))).exp) ((negD (rndD x.q p (decide (0 < sg x.q)))).neg) (limbs ((negD (rndD x.q p (decide (0 < sg x.q)))).mag)) ((negD (rndD x.q p (decide (0 < sg x.q)))).exp))) ?_
        refine DK_is true (by rw [rndD_neg]; exact sameR_refl _ _ _) ?_
        refine DK_q (JO_qg rfl rfl rfl rfl (Jq_pick_f rfl rfl rfl)) ?_
        refine DK_q (JO_q rfl rfl (Jq_pick_t rfl rfl rfl)) ?_
        refine DK_q (JO_q rfl rfl (Jq_assign rfl rfl)) ?_
        refine DK_nil ?_
        refine At_then ?_
        exact Tc_ret1 (fun _ _ h => h) rfl rfl rfl
      · skip
        refine DK_skip rfl rfl rfl ?_
        refine DK_skip rfl rfl rfl ?_
        refine DK_skip rfl rfl rfl ?_
        refine DK_skip rfl rfl rfl ?_
        refine DK_q (JO_qg rfl rfl rfl rfl (Jq_pick_t rfl rfl rfl)) ?_
        refine DK_q (JO_q rfl rfl (Jq_pick_t rfl rfl rfl)) ?_
        refine DK_q (JO_q rfl rfl (Jq_assign rfl rfl)) ?_
        refine DK_nil ?_
        refine At_then ?_
        exact Tc_ret1 (fun _ _ h => h) rfl rfl rfl
    · skip
      refine Tl_q (JO_qg rfl rfl rfl rfl (Jq_move rfl rfl)) rfl ?_
      refine Tl_q (JO_qg rfl rfl rfl rfl (Jq_leq rfl rfl rfl (b := _) (rfl))) rfl ?_
      refine Tl_q (JO_qg rfl rfl rfl rfl (Jq_pick_t rfl rfl rfl)) rfl ?_
      refine Tl_q (JO_q rfl rfl (Jq_pick_f rfl rfl rfl)) rfl ?_
      refine Tl_end ?_
      refine At_then ?_
      refine Tc_cond rfl (fun hc27 => ?_) (fun hc27 => ?_)
      · skip
        refine Tc_seq ?_
        refine Tc_region ?_
        refine Tl_q (JO_q rfl rfl (Jq_assign rfl rfl)) rfl ?_
        refine Tl_end ?_
        refine At_then ?_
        exact Tc_ret1 (fun _ _ h => h) rfl rfl rfl
      · skip
        refine Tc_skipA ?_
        refine At_then ?_
        refine Tc_seq ?_
        have hfx : Fit 3 x := few_of hb20
        haveI ibx : Br x.q 100 := (Br.q hfx).mono (by decide)
        refine Tc_norm [(1, some (D.val (.int .i64 p))), (2, some (D.ptr 0 0))] [some ⟨25, [Leaf.val (.bool x.neg), natL x.n, natL x.d], none, none⟩] ⟨rfl, rfl, trivial⟩ rfl ?_
        refine Tc_region ?_
        refine Tl_q (JO_q rfl rfl (Jq_load_agg rfl rfl rfl (by decide) ty25 (by decide) (Nat.le_of_ble_eq_true rfl) rfl)) rfl ?_
        refine Tl_q (JO_q rfl rfl (Jq_move rfl rfl)) rfl ?_
        refine Tl_e (JO_e rfl rfl (Je_call rfl fn12 rfl (ddown x (x.q) rfl (hfx.mono (by omega)) p))) rfl rfl ?_
        refine Tl_q (JO_q rfl rfl (Jq_move rfl rfl)) rfl ?_
        refine Tl_q (JO_q rfl rfl (Jq_extract rfl rfl rfl)) rfl ?_
        refine Tl_q (JO_q rfl rfl (Jq_extract rfl rfl rfl)) rfl ?_
        refine Tl_e (JO_e rfl rfl (Je_alloc (n := 1) rfl tz29 rfl)) rfl rfl ?_
        refine Tl_e (JO_e rfl rfl (Je_store rfl rfl rfl rfl ty29 rfl (by decide) (Nat.le_of_ble_eq_true rfl) rfl)) rfl rfl ?_
        refine Tl_q (JO_q rfl rfl (Jq_assign rfl rfl)) rfl ?_
        refine Tl_end ?_
        refine At_then ?_
        refine Tc_seq ?_
        refine Tc_norm [(1, some (D.val (.int .i64 p))), (2, some (D.ptr 0 0)), (5, some (D.ptr 1 0)), (6, some (D.val (.int .i64 (rndE p))))] [some ⟨25, [Leaf.val (.bool x.neg), natL x.n, natL x.d], none, none⟩, some ⟨29, [Leaf.val (.bool ((rndD x.q p (decide (sg x.q < 0))).neg)), natL (limbs ((rndD x.q p (decide (sg x.q < 0))).mag)), Leaf.val (.int .i64 ((rndD x.q p (decide (sg x.q < 0))).exp))], none, none⟩] ⟨rfl, rfl, rfl, rfl, trivial⟩ rfl ?_
        refine Tc_region ?_
        refine Tl_q (JO_q rfl rfl (Jq_load_agg rfl rfl rfl (by decide) ty25 (by decide) (Nat.le_of_ble_eq_true rfl) rfl)) rfl ?_
        refine Tl_q (JO_q rfl rfl (Jq_move rfl rfl)) rfl ?_
        refine Tl_e (JO_e rfl rfl (Je_call rfl fn13 rfl (dup x (x.q) rfl (hfx.mono (by omega)) p))) rfl rfl ?_
        refine Tl_q (JO_q rfl rfl (Jq_move rfl rfl)) rfl ?_
        refine Tl_q (JO_q rfl rfl (Jq_extract rfl rfl rfl)) rfl ?_
        refine Tl_q (JO_q rfl rfl (Jq_extract rfl rfl rfl)) rfl ?_
        refine Tl_e (JO_e rfl rfl (Je_alloc (n := 2) rfl tz29 rfl)) rfl rfl ?_
        refine Tl_e (JO_e rfl rfl (Je_store rfl rfl rfl rfl ty29 rfl (by decide) (Nat.le_of_ble_eq_true rfl) rfl)) rfl rfl ?_
        refine Tl_q (JO_q rfl rfl (Jq_assign rfl rfl)) rfl ?_
        refine Tl_end ?_
        refine At_then ?_
        refine Tc_seq ?_
        refine Tc_norm [(1, some (D.val (.int .i64 p))), (2, some (D.ptr 0 0)), (5, some (D.ptr 1 0)), (6, some (D.val (.int .i64 (rndE p)))), (7, some (D.ptr 2 0)), (8, some (D.val (.int .i64 (rndE p))))] [some ⟨25, [Leaf.val (.bool x.neg), natL x.n, natL x.d], none, none⟩, some ⟨29, [Leaf.val (.bool ((rndD x.q p (decide (sg x.q < 0))).neg)), natL (limbs ((rndD x.q p (decide (sg x.q < 0))).mag)), Leaf.val (.int .i64 ((rndD x.q p (decide (sg x.q < 0))).exp))], none, none⟩, some ⟨29, [Leaf.val (.bool ((rndD x.q p (decide (0 < sg x.q))).neg)), natL (limbs ((rndD x.q p (decide (0 < sg x.q))).mag)), Leaf.val (.int .i64 ((rndD x.q p (decide (0 < sg x.q))).exp))], none, none⟩] ⟨rfl, rfl, rfl, rfl, rfl, rfl, trivial⟩ rfl ?_
        refine Tc_region ?_
        refine Tl_q (JO_q rfl rfl (Jq_load_agg rfl rfl rfl (by decide) ty25 (by decide) (Nat.le_of_ble_eq_true rfl) rfl)) rfl ?_
        refine Tl_q (JO_q rfl rfl (Jq_move rfl rfl)) rfl ?_
        refine Tl_e (JO_e rfl rfl (Je_call rfl fn14 rfl (rddown x (x.q) rfl (hfx.mono (by omega)) p))) rfl rfl ?_
        refine Tl_q (JO_q rfl rfl (Jq_move rfl rfl)) rfl ?_
        refine Tl_q (JO_q rfl rfl (Jq_extract rfl rfl rfl)) rfl ?_
        refine Tl_q (JO_q rfl rfl (Jq_extract rfl rfl rfl)) rfl ?_
        refine Tl_e (JO_e rfl rfl (Je_alloc (n := 3) rfl tz29 rfl)) rfl rfl ?_
        refine Tl_e (JO_e rfl rfl (Je_store rfl rfl rfl rfl ty29 rfl (by decide) (Nat.le_of_ble_eq_true rfl) rfl)) rfl rfl ?_
        refine Tl_q (JO_q rfl rfl (Jq_assign rfl rfl)) rfl ?_
        refine Tl_end ?_
        refine At_then ?_
        refine Tc_seq ?_
        refine Tc_norm [(1, some (D.val (.int .i64 p))), (2, some (D.ptr 0 0)), (5, some (D.ptr 1 0)), (6, some (D.val (.int .i64 (rndE p)))), (7, some (D.ptr 2 0)), (8, some (D.val (.int .i64 (rndE p)))), (9, some (D.ptr 3 0)), (10, some (D.val (.int .i64 (rndE p))))] [some ⟨25, [Leaf.val (.bool x.neg), natL x.n, natL x.d], none, none⟩, some ⟨29, [Leaf.val (.bool ((rndD x.q p (decide (sg x.q < 0))).neg)), natL (limbs ((rndD x.q p (decide (sg x.q < 0))).mag)), Leaf.val (.int .i64 ((rndD x.q p (decide (sg x.q < 0))).exp))], none, none⟩, some ⟨29, [Leaf.val (.bool ((rndD x.q p (decide (0 < sg x.q))).neg)), natL (limbs ((rndD x.q p (decide (0 < sg x.q))).mag)), Leaf.val (.int .i64 ((rndD x.q p (decide (0 < sg x.q))).exp))], none, none⟩, some ⟨29, [Leaf.val (.bool ((rndD x.q p (decide (sg x.q < 0))).neg)), natL (limbs ((rndD x.q p (decide (sg x.q < 0))).mag)), Leaf.val (.int .i64 ((rndD x.q p (decide (sg x.q < 0))).exp))], none, none⟩] ⟨rfl, rfl, rfl, rfl, rfl, rfl, rfl, rfl, trivial⟩ rfl ?_
        refine Tc_region ?_
        refine Tl_q (JO_q rfl rfl (Jq_load_agg rfl rfl rfl (by decide) ty25 (by decide) (Nat.le_of_ble_eq_true rfl) rfl)) rfl ?_
        refine Tl_q (JO_q rfl rfl (Jq_move rfl rfl)) rfl ?_
        refine Tl_e (JO_e rfl rfl (Je_call rfl fn15 rfl (rdup x (x.q) rfl (hfx.mono (by omega)) p))) rfl rfl ?_
        refine Tl_q (JO_q rfl rfl (Jq_move rfl rfl)) rfl ?_
        refine Tl_q (JO_q rfl rfl (Jq_extract rfl rfl rfl)) rfl ?_
        refine Tl_q (JO_q rfl rfl (Jq_extract rfl rfl rfl)) rfl ?_
        refine Tl_e (JO_e rfl rfl (Je_alloc (n := 4) rfl tz29 rfl)) rfl rfl ?_
        refine Tl_e (JO_e rfl rfl (Je_store rfl rfl rfl rfl ty29 rfl (by decide) (Nat.le_of_ble_eq_true rfl) rfl)) rfl rfl ?_
        refine Tl_q (JO_q rfl rfl (Jq_assign rfl rfl)) rfl ?_
        refine Tl_end ?_
        refine At_then ?_
        refine Tc_seq ?_
        refine Tc_norm [(1, some (D.val (.int .i64 p))), (2, some (D.ptr 0 0)), (5, some (D.ptr 1 0)), (6, some (D.val (.int .i64 (rndE p)))), (7, some (D.ptr 2 0)), (8, some (D.val (.int .i64 (rndE p)))), (9, some (D.ptr 3 0)), (10, some (D.val (.int .i64 (rndE p)))), (11, some (D.ptr 4 0)), (12, some (D.val (.int .i64 (rndE p))))] [some ⟨25, [Leaf.val (.bool x.neg), natL x.n, natL x.d], none, none⟩, some ⟨29, [Leaf.val (.bool ((rndD x.q p (decide (sg x.q < 0))).neg)), natL (limbs ((rndD x.q p (decide (sg x.q < 0))).mag)), Leaf.val (.int .i64 ((rndD x.q p (decide (sg x.q < 0))).exp))], none, none⟩, some ⟨29, [Leaf.val (.bool ((rndD x.q p (decide (0 < sg x.q))).neg)), natL (limbs ((rndD x.q p (decide (0 < sg x.q))).mag)), Leaf.val (.int .i64 ((rndD x.q p (decide (0 < sg x.q))).exp))], none, none⟩, some ⟨29, [Leaf.val (.bool ((rndD x.q p (decide (sg x.q < 0))).neg)), natL (limbs ((rndD x.q p (decide (sg x.q < 0))).mag)), Leaf.val (.int .i64 ((rndD x.q p (decide (sg x.q < 0))).exp))], none, none⟩, some ⟨29, [Leaf.val (.bool ((rndD x.q p (decide (0 < sg x.q))).neg)), natL (limbs ((rndD x.q p (decide (0 < sg x.q))).mag)), Leaf.val (.int .i64 ((rndD x.q p (decide (0 < sg x.q))).exp))], none, none⟩] ⟨rfl, rfl, rfl, rfl, rfl, rfl, rfl, rfl, rfl, rfl, trivial⟩ rfl ?_
        refine Tc_region ?_
        refine Tl_q (JO_q rfl rfl (Jq_load_agg rfl rfl rfl (by decide) ty25 (by decide) (Nat.le_of_ble_eq_true rfl) rfl)) rfl ?_
        refine Tl_e (JO_e rfl rfl (Je_call rfl fn16 rfl (rqneg x (x.q) rfl (hfx.mono (by omega))))) rfl rfl ?_
        refine Tl_q (JO_q rfl rfl (Jq_move rfl rfl)) rfl ?_
        refine Tl_e (JO_e rfl rfl (Je_call rfl fn12 rfl (ddown (qOf (-(x.q))) (-(x.q)) (qOf_q _) (Br.use (by omega)) p))) rfl rfl ?_
        refine Tl_q (JO_q rfl rfl (Jq_move rfl rfl)) rfl ?_
        refine Tl_q (JO_q rfl rfl (Jq_extract rfl rfl rfl)) rfl ?_
        refine Tl_q (JO_q rfl rfl (Jq_extract rfl rfl rfl)) rfl ?_
        refine Tl_e (JO_e rfl rfl (Je_alloc (n := 5) rfl tz29 rfl)) rfl rfl ?_
        refine Tl_e (JO_e rfl rfl (Je_store rfl rfl rfl rfl ty29 rfl (by decide) (Nat.le_of_ble_eq_true rfl) rfl)) rfl rfl ?_
        refine Tl_q (JO_q rfl rfl (Jq_assign rfl rfl)) rfl ?_
        refine Tl_end ?_
        refine At_then ?_
        refine Tc_seq ?_
        refine Tc_free 0 ?_
        refine Tc_norm [(5, some (D.ptr 1 0)), (6, some (D.val (.int .i64 (rndE p)))), (7, some (D.ptr 2 0)), (8, some (D.val (.int .i64 (rndE p)))), (9, some (D.ptr 3 0)), (10, some (D.val (.int .i64 (rndE p)))), (11, some (D.ptr 4 0)), (12, some (D.val (.int .i64 (rndE p)))), (13, some (D.ptr 5 0)), (14, some (D.val (.int .i64 (rndE p))))] [none, some ⟨29, [Leaf.val (.bool ((rndD x.q p (decide (sg x.q < 0))).neg)), natL (limbs ((rndD x.q p (decide (sg x.q < 0))).mag)), Leaf.val (.int .i64 ((rndD x.q p (decide (sg x.q < 0))).exp))], none, none⟩, some ⟨29, [Leaf.val (.bool ((rndD x.q p (decide (0 < sg x.q))).neg)), natL (limbs ((rndD x.q p (decide (0 < sg x.q))).mag)), Leaf.val (.int .i64 ((rndD x.q p (decide (0 < sg x.q))).exp))], none, none⟩, some ⟨29, [Leaf.val (.bool ((rndD x.q p (decide (sg x.q < 0))).neg)), natL (limbs ((rndD x.q p (decide (sg x.q < 0))).mag)), Leaf.val (.int .i64 ((rndD x.q p (decide (sg x.q < 0))).exp))], none, none⟩, some ⟨29, [Leaf.val (.bool ((rndD x.q p (decide (0 < sg x.q))).neg)), natL (limbs ((rndD x.q p (decide (0 < sg x.q))).mag)), Leaf.val (.int .i64 ((rndD x.q p (decide (0 < sg x.q))).exp))], none, none⟩, some ⟨29, [Leaf.val (.bool ((rndD (-(x.q)) p (decide (sg (-(x.q)) < 0))).neg)), natL (limbs ((rndD (-(x.q)) p (decide (sg (-(x.q)) < 0))).mag)), Leaf.val (.int .i64 ((rndD (-(x.q)) p (decide (sg (-(x.q)) < 0))).exp))], none, none⟩] ⟨rfl, rfl, rfl, rfl, rfl, rfl, rfl, rfl, rfl, rfl, trivial⟩ rfl ?_
        refine Tc_drawK 0 [none, none, none, none, none, none, none, none, none, none, none, none, none, none, none, none, none, none, none, none, none, none, none, none, none, none, none, none, none, none, none, none, none, none] [] follows (by kernel_rfl) ?_
        refine DK_q (JO_q rfl rfl (Jq_move rfl rfl)) ?_
        refine DK_q (JO_q rfl rfl (Jq_move rfl rfl)) ?_
        refine DK_q (JO_q rfl rfl (Jq_eql rfl rfl rfl (b := _) (rfl))) ?_
        refine DK_is true (by simp) ?_
        refine DK_q (JO_q rfl rfl (Jq_move rfl rfl)) ?_
        refine DK_q (JO_qg rfl rfl rfl rfl (Jq_move rfl rfl)) ?_
        refine DK_q (JO_qg rfl rfl rfl rfl (Jq_move rfl rfl)) ?_
        refine DK_q (JO_qg rfl rfl rfl rfl (Jq_eql rfl rfl rfl (b := _) (rfl))) ?_
        refine DK_is true (by simp) ?_
        refine DK_q (JO_q rfl rfl (Jq_pick_t rfl rfl rfl)) ?_
        refine DK_q (JO_q rfl rfl (Jq_move rfl rfl)) ?_
        refine DK_q (JO_qg rfl rfl rfl rfl (Jq_move rfl rfl)) ?_
        refine DK_q (JO_qg rfl rfl rfl rfl (Jq_move rfl rfl)) ?_
        refine DK_q (JO_qg rfl rfl rfl rfl (Jq_eql rfl rfl rfl (b := _) (rfl))) ?_
        refine DK_is true (by simp) ?_
        refine DK_q (JO_q rfl rfl (Jq_pick_t rfl rfl rfl)) ?_
        refine DK_q (JO_q rfl rfl (Jq_move rfl rfl)) ?_
        refine DK_q (JO_qg rfl rfl rfl rfl (Jq_load_agg rfl rfl rfl (by decide) ty29 (by decide) (Nat.le_of_ble_eq_true rfl) rfl)) ?_
        refine DK_q (JO_qg rfl rfl rfl rfl (Jq_load_agg rfl rfl rfl (by decide) ty29 (by decide) (Nat.le_of_ble_eq_true rfl) rfl)) ?_
        refine DK_cg rfl rfl rfl rfl (Jd_call rfl fn17 rfl (dsame ((rndD x.q p (decide (sg x.q < 0))).neg) (limbs ((rndD x.q p (decide (sg x.q < 0))).mag)) ((rndD x.q p (decide (sg x.q < 0))).exp) ((rndD x.q p (decide (sg x.q < 0))).neg) (limbs ((rndD x.q p (decide (sg x.q < 0))).mag)) ((rndD x.q p (decide (sg x.q < 0))).exp))) ?_
        refine DK_is true (sameR_refl _ _ _) ?_
        refine DK_q (JO_q rfl rfl (Jq_pick_t rfl rfl rfl)) ?_
        refine DK_q (JO_q rfl rfl (Jq_move rfl rfl)) ?_
        refine DK_q (JO_qg rfl rfl rfl rfl (Jq_load_agg rfl rfl rfl (by decide) ty29 (by decide) (Nat.le_of_ble_eq_true rfl) rfl)) ?_
        refine DK_q (JO_qg rfl rfl rfl rfl (Jq_load_agg rfl rfl rfl (by decide) ty29 (by decide) (Nat.le_of_ble_eq_true rfl) rfl)) ?_
        refine DK_cg rfl rfl rfl rfl (Jd_call rfl fn17 rfl (dsame ((rndD x.q p (decide (0 < sg x.q))).neg) (limbs ((rndD x.q p (decide (0 < sg x.q))).mag)) ((rndD x.q p (decide (0 < sg x.q))).exp) ((rndD x.q p (decide (0 < sg x.q))).neg) (limbs ((rndD x.q p (decide (0 < sg x.q))).mag)) ((rndD x.q p (decide (0 < sg x.q))).exp))) ?_
        refine DK_is true (sameR_refl _ _ _) ?_
        refine DK_q (JO_q rfl rfl (Jq_pick_t rfl rfl rfl)) ?_
        refine DK_q (JO_q rfl rfl (Jq_move rfl rfl)) ?_
        refine DK_q (JO_qg rfl rfl rfl rfl (Jq_move rfl rfl)) ?_
        refine DK_q (JO_qg rfl rfl rfl rfl (Jq_neq rfl rfl rfl (b := _) (rfl))) ?_
        refine DK_q (JO_qg rfl rfl rfl rfl (Jq_move rfl rfl)) ?_
        refine DK_two (fun hb85 => ?_) (fun hb85 => ?_)
        · skip
          refine DK_q (JO_qg rfl rfl rfl rfl (Jq_load_agg rfl rfl rfl (by decide) ty29 (by decide) (Nat.le_of_ble_eq_true rfl) rfl)) ?_
          refine DK_q (JO_qg rfl rfl rfl rfl (Jq_load_agg rfl rfl rfl (by decide) ty29 (by decide) (Nat.le_of_ble_eq_true rfl) rfl)) ?_
          refine DK_cg rfl rfl rfl rfl (Jd_call rfl fn18 rfl (rdneg (rndD x.q p (decide (0 < sg x.q))) (Bd.use (by omega)))) ?_
          refine DK_cg rfl rfl rfl rfl (Jd_call rfl fn17 rfl (dsame ((rndD (-(x.q)) p (decide (sg (-(x.q)) < 0))).neg) (limbs ((rndD (-(x.q)) p (decide (sg (-(x.q)) < 0))).mag)) ((rndD (-(x.q)) p (decide (sg (-(x.q)) < 0))).exp) ((negD (rndD x.q p (decide (0 < sg x.q)))).neg) (limbs ((negD (rndD x.q p (decide (0 < sg x.q)))).mag)) ((negD (rndD x.q p (decide (0 < sg x.q)))).exp))) ?_
          refine DK_is true (by rw [rndD_neg]; exact sameR_refl _ _ _) ?_
          refine DK_q (JO_qg rfl rfl rfl rfl (Jq_pick_f rfl rfl rfl)) ?_
          refine DK_q (JO_q rfl rfl (Jq_pick_t rfl rfl rfl)) ?_
          refine DK_q (JO_q rfl rfl (Jq_assign rfl rfl)) ?_
          refine DK_nil ?_
          refine At_then ?_
          exact Tc_ret1 (fun _ _ h => h) rfl rfl rfl
        · skip
          refine DK_skip rfl rfl rfl ?_
          refine DK_skip rfl rfl rfl ?_
          refine DK_skip rfl rfl rfl ?_
          refine DK_skip rfl rfl rfl ?_
          refine DK_q (JO_qg rfl rfl rfl rfl (Jq_pick_t rfl rfl rfl)) ?_
          refine DK_q (JO_q rfl rfl (Jq_pick_t rfl rfl rfl)) ?_
          refine DK_q (JO_q rfl rfl (Jq_assign rfl rfl)) ?_
          refine DK_nil ?_
          refine At_then ?_
          exact Tc_ret1 (fun _ _ h => h) rfl rfl rfl
  · skip
    refine Tl_q (JO_skip rfl rfl rfl) rfl ?_
    refine Tl_q (JO_skip rfl rfl rfl) rfl ?_
    refine Tl_q (JO_skip rfl rfl rfl) rfl ?_
    refine Tl_q (JO_skipU rfl rfl rfl) rfl ?_
    refine Tl_q (JO_skipU rfl rfl rfl) rfl ?_
    refine Tl_q (JO_skip rfl rfl rfl) rfl ?_
    refine Tl_q (JO_q rfl rfl (Jq_pick_t rfl rfl rfl)) rfl ?_
    refine Tl_end ?_
    refine At_then ?_
    refine Tc_t rfl ?_
    refine Tc_seq ?_
    refine Tc_region ?_
    refine Tl_q (JO_q rfl rfl (Jq_assign rfl rfl)) rfl ?_
    refine Tl_end ?_
    refine At_then ?_
    exact Tc_ret1 (fun _ _ h => h) rfl rfl rfl

end Go.Proofs.YtpabkdpijcbkgaaDoor
