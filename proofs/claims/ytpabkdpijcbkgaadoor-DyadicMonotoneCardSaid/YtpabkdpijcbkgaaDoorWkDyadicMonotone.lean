/- Walk: a law of chapter 5. -/
import Derived.Test.YtpabkdpijcbkgaaDoorWkP
import Derived.Test.YtpabkdpijcbkgaaDoorDyO
import Derived.Test.YtpabkdpijcbkgaaDoorFacts
set_option linter.unusedSimpArgs false
set_option linter.unusedVariables false
namespace Go.Proofs.YtpabkdpijcbkgaaDoor
open Go Go.RowKit Rc


set_option maxRecDepth 10000 in
set_option maxHeartbeats 2000000 in
theorem law_mono (x y : Qr) (n : Nat) (hn : n < 256) : Ctr Tryd.prog 5 [qV x, qV y, V.one (Leaf.val (.int .u8 ((n : Nat) : Int)))] (R.one (V.one (Leaf.val (.bool (true))))) := by
  refine Ctr.of_body Tryd.func5 rfl Tryd.ntmps5 (Nat.le_of_ble_eq_true rfl) (fun w0 A0 => ?_)
  refine Tc_seq ?_
  refine Tc_region ?_
  refine Tl_e (JO_e rfl rfl (Je_box (n := 0) rfl rfl rfl)) rfl rfl ?_
  refine Tl_e (JO_e rfl rfl (Je_box (n := 1) rfl rfl rfl)) rfl rfl ?_
  refine Tl_q (JO_q rfl rfl (Jq_assign rfl rfl)) rfl ?_
  refine Tl_end ?_
  refine At_then ?_
  refine Tc_seq ?_
  refine Tc_seq ?_
  refine Tc_region ?_
  refine Tl_e (JO_e rfl rfl (Je_call rfl fn10 rfl (l5awake))) rfl rfl ?_
  refine Tl_q (JO_q rfl rfl (Jq_not rfl rfl (c := false) rfl)) rfl ?_
  refine Tl_end ?_
  refine At_then ?_
  refine Tc_f rfl ?_
  refine Tc_skipA ?_
  refine At_then ?_
  refine Tc_seq ?_
  refine Tc_region ?_
  refine Tl_q (JO_q rfl rfl (Jq_move rfl rfl)) rfl ?_
  refine Tl_q (JO_q rfl rfl (Jq_rem rfl rfl rfl (by decide) (r := ((n % 60 : Nat) : Int)) (tmodN _ _))) rfl ?_
  refine Tl_q (JO_q rfl rfl (Jq_convert rfl rfl un3 us5 (r := ((n % 60 : Nat) : Int)) (w64 (by omega) (by omega) (by omega)))) rfl ?_
  refine Tl_q (JO_q rfl rfl (Jq_add rfl rfl rfl (r := ((n % 60 + 1 : Nat) : Int)) (w64 (by omega) (by omega) (by omega)))) rfl ?_
  refine Tl_q (JO_q rfl rfl (Jq_assign rfl rfl)) rfl ?_
  refine Tl_end ?_
  refine At_then ?_
  refine Tc_seq ?_
  refine Tc_seq ?_
  refine Tc_norm [(3, some (D.ptr 0 0)), (4, some (D.ptr 1 0)), (7, some (D.val (.int .i64 ((n % 60 + 1 : Nat) : Int))))] [some ⟨25, [Leaf.val (.bool x.neg), natL x.n, natL x.d], none, none⟩, some ⟨25, [Leaf.val (.bool y.neg), natL y.n, natL y.d], none, none⟩] ⟨rfl, rfl, rfl, trivial⟩ rfl ?_
  refine Tc_region ?_
  refine Tl_q (JO_q rfl rfl (Jq_load_agg rfl rfl rfl (by decide) ty25 (by decide) (Nat.le_of_ble_eq_true rfl) rfl)) rfl ?_
  refine Tl_e (JO_e rfl rfl (Je_call rfl fn11 rfl (l5few x))) rfl rfl ?_
  refine Tl_q (JO_q rfl rfl (Jq_not rfl rfl (c := _) rfl)) rfl ?_
  refine Tl_q (JO_q rfl rfl (Jq_move rfl rfl)) rfl ?_
  refine Tl_two (fun hb29 => ?_) (fun hb29 => ?_)
  · skip
    refine Tl_q (JO_qg rfl rfl rfl rfl (Jq_load_agg rfl rfl rfl (by decide) ty25 (by decide) (Nat.le_of_ble_eq_true rfl) rfl)) rfl ?_
    refine Tl_e (JO_eg rfl rfl rfl rfl (Je_call rfl fn11 rfl (l5few y))) rfl rfl ?_
    refine Tl_q (JO_qg rfl rfl rfl rfl (Jq_not rfl rfl (c := _) rfl)) rfl ?_
    refine Tl_q (JO_q rfl rfl (Jq_pick_f rfl rfl rfl)) rfl ?_
    refine Tl_end ?_
    refine At_then ?_
    refine Tc_cond rfl (fun hc33 => ?_) (fun hc33 => ?_)
    · skip
      refine Tc_seq ?_
      refine Tc_region ?_
      refine Tl_q (JO_q rfl rfl (Jq_assign rfl rfl)) rfl ?_
      refine Tl_end ?_
      refine At_then ?_
      exact Tc_ret1 (fun _ _ h => h) rfl rfl rfl
    · skip
      refine Tc_skipA ?_
      refine At_then ?_
      refine Tc_seq ?_
      refine Tc_seq ?_
      have hfx : Fit 3 x := few_of hb29
      have irx : Br x.q 4 := (Br.q hfx).mono (by decide)
      haveI ibx : Br x.q 100 := irx.mono (by decide)
      have hfy : Fit 3 y := few_of hc33
      have iry : Br y.q 4 := (Br.q hfy).mono (by decide)
      haveI iby : Br y.q 100 := iry.mono (by decide)
      refine Tc_norm [(3, some (D.ptr 0 0)), (4, some (D.ptr 1 0)), (7, some (D.val (.int .i64 ((n % 60 + 1 : Nat) : Int))))] [some ⟨25, [Leaf.val (.bool x.neg), natL x.n, natL x.d], none, none⟩, some ⟨25, [Leaf.val (.bool y.neg), natL y.n, natL y.d], none, none⟩] ⟨rfl, rfl, rfl, trivial⟩ rfl ?_
      refine Tc_region ?_
      refine Tl_q (JO_q rfl rfl (Jq_load_agg rfl rfl rfl (by decide) ty25 (by decide) (Nat.le_of_ble_eq_true rfl) rfl)) rfl ?_
      refine Tl_q (JO_q rfl rfl (Jq_load_agg rfl rfl rfl (by decide) ty25 (by decide) (Nat.le_of_ble_eq_true rfl) rfl)) rfl ?_
      refine Tl_e (JO_e rfl rfl (Je_call rfl fn22 rfl (rqcmp x (x.q) rfl (hfx.mono (by omega)) y (y.q) rfl (hfy.mono (by omega))))) rfl rfl ?_
      refine Tl_q (JO_q rfl rfl (Jq_gtr rfl rfl rfl (b := _) (rfl))) rfl ?_
      refine Tl_end ?_
      refine At_then ?_
      refine Tc_cond rfl (fun hc37 => ?_) (fun hc37 => ?_)
      · skip
        have hle : y.q ≤ x.q := by have h1 := of_decide_eq_true hc37; exact Rat.le_of_lt (cmpq_gt.1 h1)
        refine Tc_region ?_
        refine Tl_q (JO_q rfl rfl (Jq_load_agg rfl rfl rfl (by decide) ty25 (by decide) (Nat.le_of_ble_eq_true rfl) rfl)) rfl ?_
        refine Tl_q (JO_q rfl rfl (Jq_load_agg rfl rfl rfl (by decide) ty25 (by decide) (Nat.le_of_ble_eq_true rfl) rfl)) rfl ?_
        refine Tl_e (JO_e rfl rfl (Je_store rfl rfl rfl rfl ty25 rfl (by decide) (Nat.le_of_ble_eq_true rfl) rfl)) rfl rfl ?_
        refine Tl_e (JO_e rfl rfl (Je_store rfl rfl rfl rfl ty25 rfl (by decide) (Nat.le_of_ble_eq_true rfl) rfl)) rfl rfl ?_
        refine Tl_end ?_
        refine At_then ?_
        refine Tc_seq ?_
        refine Tc_norm [(3, some (D.ptr 0 0)), (4, some (D.ptr 1 0)), (7, some (D.val (.int .i64 ((n % 60 + 1 : Nat) : Int))))] [some ⟨25, [Leaf.val (.bool y.neg), natL y.n, natL y.d], none, none⟩, some ⟨25, [Leaf.val (.bool x.neg), natL x.n, natL x.d], none, none⟩] ⟨rfl, rfl, rfl, trivial⟩ rfl ?_
        refine Tc_region ?_
        refine Tl_q (JO_q rfl rfl (Jq_load_agg rfl rfl rfl (by decide) ty25 (by decide) (Nat.le_of_ble_eq_true rfl) rfl)) rfl ?_
        refine Tl_q (JO_q rfl rfl (Jq_move rfl rfl)) rfl ?_
        refine Tl_e (JO_e rfl rfl (Je_call rfl fn12 rfl (ddown y (y.q) rfl (hfy.mono (by omega)) ((n % 60 + 1 : Nat) : Int)))) rfl rfl ?_
        refine Tl_q (JO_q rfl rfl (Jq_move rfl rfl)) rfl ?_
        refine Tl_q (JO_q rfl rfl (Jq_extract rfl rfl rfl)) rfl ?_
        refine Tl_q (JO_q rfl rfl (Jq_extract rfl rfl rfl)) rfl ?_
        refine Tl_e (JO_e rfl rfl (Je_alloc (n := 2) rfl tz29 rfl)) rfl rfl ?_
        refine Tl_e (JO_e rfl rfl (Je_store rfl rfl rfl rfl ty29 rfl (by decide) (Nat.le_of_ble_eq_true rfl) rfl)) rfl rfl ?_
        refine Tl_q (JO_q rfl rfl (Jq_assign rfl rfl)) rfl ?_
        refine Tl_end ?_
        refine At_then ?_
        refine Tc_seq ?_
        refine Tc_norm [(3, some (D.ptr 0 0)), (4, some (D.ptr 1 0)), (7, some (D.val (.int .i64 ((n % 60 + 1 : Nat) : Int)))), (8, some (D.ptr 2 0))] [some ⟨25, [Leaf.val (.bool y.neg), natL y.n, natL y.d], none, none⟩, some ⟨25, [Leaf.val (.bool x.neg), natL x.n, natL x.d], none, none⟩, some ⟨29, [Leaf.val (.bool ((rndD y.q ((n % 60 + 1 : Nat) : Int) (decide (sg y.q < 0))).neg)), natL (limbs ((rndD y.q ((n % 60 + 1 : Nat) : Int) (decide (sg y.q < 0))).mag)), Leaf.val (.int .i64 ((rndD y.q ((n % 60 + 1 : Nat) : Int) (decide (sg y.q < 0))).exp))], none, none⟩] ⟨rfl, rfl, rfl, rfl, trivial⟩ rfl ?_
        refine Tc_region ?_
        refine Tl_q (JO_q rfl rfl (Jq_load_agg rfl rfl rfl (by decide) ty25 (by decide) (Nat.le_of_ble_eq_true rfl) rfl)) rfl ?_
        refine Tl_q (JO_q rfl rfl (Jq_move rfl rfl)) rfl ?_
        refine Tl_e (JO_e rfl rfl (Je_call rfl fn12 rfl (ddown x (x.q) rfl (hfx.mono (by omega)) ((n % 60 + 1 : Nat) : Int)))) rfl rfl ?_
        refine Tl_q (JO_q rfl rfl (Jq_move rfl rfl)) rfl ?_
        refine Tl_q (JO_q rfl rfl (Jq_extract rfl rfl rfl)) rfl ?_
        refine Tl_q (JO_q rfl rfl (Jq_extract rfl rfl rfl)) rfl ?_
        refine Tl_e (JO_e rfl rfl (Je_alloc (n := 3) rfl tz29 rfl)) rfl rfl ?_
        refine Tl_e (JO_e rfl rfl (Je_store rfl rfl rfl rfl ty29 rfl (by decide) (Nat.le_of_ble_eq_true rfl) rfl)) rfl rfl ?_
        refine Tl_q (JO_q rfl rfl (Jq_assign rfl rfl)) rfl ?_
        refine Tl_end ?_
        refine At_then ?_
        refine Tc_seq ?_
        refine Tc_norm [(3, some (D.ptr 0 0)), (4, some (D.ptr 1 0)), (7, some (D.val (.int .i64 ((n % 60 + 1 : Nat) : Int)))), (8, some (D.ptr 2 0)), (10, some (D.ptr 3 0))] [some ⟨25, [Leaf.val (.bool y.neg), natL y.n, natL y.d], none, none⟩, some ⟨25, [Leaf.val (.bool x.neg), natL x.n, natL x.d], none, none⟩, some ⟨29, [Leaf.val (.bool ((rndD y.q ((n % 60 + 1 : Nat) : Int) (decide (sg y.q < 0))).neg)), natL (limbs ((rndD y.q ((n % 60 + 1 : Nat) : Int) (decide (sg y.q < 0))).mag)), Leaf.val (.int .i64 ((rndD y.q ((n % 60 + 1 : Nat) : Int) (decide (sg y.q < 0))).exp))], none, none⟩, some ⟨29, [Leaf.val (.bool ((rndD x.q ((n % 60 + 1 : Nat) : Int) (decide (sg x.q < 0))).neg)), natL (limbs ((rndD x.q ((n % 60 + 1 : Nat) : Int) (decide (sg x.q < 0))).mag)), Leaf.val (.int .i64 ((rndD x.q ((n % 60 + 1 : Nat) : Int) (decide (sg x.q < 0))).exp))], none, none⟩] ⟨rfl, rfl, rfl, rfl, rfl, trivial⟩ rfl ?_
        refine Tc_region ?_
        refine Tl_q (JO_q rfl rfl (Jq_load_agg rfl rfl rfl (by decide) ty25 (by decide) (Nat.le_of_ble_eq_true rfl) rfl)) rfl ?_
        refine Tl_q (JO_q rfl rfl (Jq_move rfl rfl)) rfl ?_
        refine Tl_e (JO_e rfl rfl (Je_call rfl fn13 rfl (dup y (y.q) rfl (hfy.mono (by omega)) ((n % 60 + 1 : Nat) : Int)))) rfl rfl ?_
        refine Tl_q (JO_q rfl rfl (Jq_move rfl rfl)) rfl ?_
        refine Tl_q (JO_q rfl rfl (Jq_extract rfl rfl rfl)) rfl ?_
        refine Tl_q (JO_q rfl rfl (Jq_extract rfl rfl rfl)) rfl ?_
        refine Tl_e (JO_e rfl rfl (Je_alloc (n := 4) rfl tz29 rfl)) rfl rfl ?_
        refine Tl_e (JO_e rfl rfl (Je_store rfl rfl rfl rfl ty29 rfl (by decide) (Nat.le_of_ble_eq_true rfl) rfl)) rfl rfl ?_
        refine Tl_q (JO_q rfl rfl (Jq_assign rfl rfl)) rfl ?_
        refine Tl_end ?_
        refine At_then ?_
        refine Tc_seq ?_
        refine Tc_norm [(3, some (D.ptr 0 0)), (4, some (D.ptr 1 0)), (7, some (D.val (.int .i64 ((n % 60 + 1 : Nat) : Int)))), (8, some (D.ptr 2 0)), (10, some (D.ptr 3 0)), (12, some (D.ptr 4 0))] [some ⟨25, [Leaf.val (.bool y.neg), natL y.n, natL y.d], none, none⟩, some ⟨25, [Leaf.val (.bool x.neg), natL x.n, natL x.d], none, none⟩, some ⟨29, [Leaf.val (.bool ((rndD y.q ((n % 60 + 1 : Nat) : Int) (decide (sg y.q < 0))).neg)), natL (limbs ((rndD y.q ((n % 60 + 1 : Nat) : Int) (decide (sg y.q < 0))).mag)), Leaf.val (.int .i64 ((rndD y.q ((n % 60 + 1 : Nat) : Int) (decide (sg y.q < 0))).exp))], none, none⟩, some ⟨29, [Leaf.val (.bool ((rndD x.q ((n % 60 + 1 : Nat) : Int) (decide (sg x.q < 0))).neg)), natL (limbs ((rndD x.q ((n % 60 + 1 : Nat) : Int) (decide (sg x.q < 0))).mag)), Leaf.val (.int .i64 ((rndD x.q ((n % 60 + 1 : Nat) : Int) (decide (sg x.q < 0))).exp))], none, none⟩, some ⟨29, [Leaf.val (.bool ((rndD y.q ((n % 60 + 1 : Nat) : Int) (decide (0 < sg y.q))).neg)), natL (limbs ((rndD y.q ((n % 60 + 1 : Nat) : Int) (decide (0 < sg y.q))).mag)), Leaf.val (.int .i64 ((rndD y.q ((n % 60 + 1 : Nat) : Int) (decide (0 < sg y.q))).exp))], none, none⟩] ⟨rfl, rfl, rfl, rfl, rfl, rfl, trivial⟩ rfl ?_
        refine Tc_region ?_
        refine Tl_q (JO_q rfl rfl (Jq_load_agg rfl rfl rfl (by decide) ty25 (by decide) (Nat.le_of_ble_eq_true rfl) rfl)) rfl ?_
        refine Tl_q (JO_q rfl rfl (Jq_move rfl rfl)) rfl ?_
        refine Tl_e (JO_e rfl rfl (Je_call rfl fn13 rfl (dup x (x.q) rfl (hfx.mono (by omega)) ((n % 60 + 1 : Nat) : Int)))) rfl rfl ?_
        refine Tl_q (JO_q rfl rfl (Jq_move rfl rfl)) rfl ?_
        refine Tl_q (JO_q rfl rfl (Jq_extract rfl rfl rfl)) rfl ?_
        refine Tl_q (JO_q rfl rfl (Jq_extract rfl rfl rfl)) rfl ?_
        refine Tl_e (JO_e rfl rfl (Je_alloc (n := 5) rfl tz29 rfl)) rfl rfl ?_
        refine Tl_e (JO_e rfl rfl (Je_store rfl rfl rfl rfl ty29 rfl (by decide) (Nat.le_of_ble_eq_true rfl) rfl)) rfl rfl ?_
        refine Tl_q (JO_q rfl rfl (Jq_assign rfl rfl)) rfl ?_
        refine Tl_end ?_
        refine At_then ?_
        refine Tc_seq ?_
        refine Tc_free 1 ?_
        refine Tc_norm [(3, some (D.ptr 0 0)), (7, some (D.val (.int .i64 ((n % 60 + 1 : Nat) : Int)))), (8, some (D.ptr 2 0)), (10, some (D.ptr 3 0)), (12, some (D.ptr 4 0)), (14, some (D.ptr 5 0))] [some ⟨25, [Leaf.val (.bool y.neg), natL y.n, natL y.d], none, none⟩, none, some ⟨29, [Leaf.val (.bool ((rndD y.q ((n % 60 + 1 : Nat) : Int) (decide (sg y.q < 0))).neg)), natL (limbs ((rndD y.q ((n % 60 + 1 : Nat) : Int) (decide (sg y.q < 0))).mag)), Leaf.val (.int .i64 ((rndD y.q ((n % 60 + 1 : Nat) : Int) (decide (sg y.q < 0))).exp))], none, none⟩, some ⟨29, [Leaf.val (.bool ((rndD x.q ((n % 60 + 1 : Nat) : Int) (decide (sg x.q < 0))).neg)), natL (limbs ((rndD x.q ((n % 60 + 1 : Nat) : Int) (decide (sg x.q < 0))).mag)), Leaf.val (.int .i64 ((rndD x.q ((n % 60 + 1 : Nat) : Int) (decide (sg x.q < 0))).exp))], none, none⟩, some ⟨29, [Leaf.val (.bool ((rndD y.q ((n % 60 + 1 : Nat) : Int) (decide (0 < sg y.q))).neg)), natL (limbs ((rndD y.q ((n % 60 + 1 : Nat) : Int) (decide (0 < sg y.q))).mag)), Leaf.val (.int .i64 ((rndD y.q ((n % 60 + 1 : Nat) : Int) (decide (0 < sg y.q))).exp))], none, none⟩, some ⟨29, [Leaf.val (.bool ((rndD x.q ((n % 60 + 1 : Nat) : Int) (decide (0 < sg x.q))).neg)), natL (limbs ((rndD x.q ((n % 60 + 1 : Nat) : Int) (decide (0 < sg x.q))).mag)), Leaf.val (.int .i64 ((rndD x.q ((n % 60 + 1 : Nat) : Int) (decide (0 < sg x.q))).exp))], none, none⟩] ⟨rfl, rfl, rfl, rfl, rfl, rfl, trivial⟩ rfl ?_
        refine Tc_region ?_
        refine Tl_q (JO_q rfl rfl (Jq_load_agg rfl rfl rfl (by decide) ty25 (by decide) (Nat.le_of_ble_eq_true rfl) rfl)) rfl ?_
        refine Tl_q (JO_q rfl rfl (Jq_move rfl rfl)) rfl ?_
        refine Tl_q (JO_q rfl rfl (Jq_add rfl rfl rfl (r := ((n % 60 + 1 + 1 : Nat) : Int)) (w64 (by omega) (by omega) (by omega)))) rfl ?_
        refine Tl_e (JO_e rfl rfl (Je_call rfl fn12 rfl (ddown y (y.q) rfl (hfy.mono (by omega)) ((n % 60 + 1 + 1 : Nat) : Int)))) rfl rfl ?_
        refine Tl_q (JO_q rfl rfl (Jq_move rfl rfl)) rfl ?_
        refine Tl_q (JO_q rfl rfl (Jq_extract rfl rfl rfl)) rfl ?_
        refine Tl_q (JO_q rfl rfl (Jq_extract rfl rfl rfl)) rfl ?_
        refine Tl_e (JO_e rfl rfl (Je_alloc (n := 6) rfl tz29 rfl)) rfl rfl ?_
        refine Tl_e (JO_e rfl rfl (Je_store rfl rfl rfl rfl ty29 rfl (by decide) (Nat.le_of_ble_eq_true rfl) rfl)) rfl rfl ?_
        refine Tl_q (JO_q rfl rfl (Jq_assign rfl rfl)) rfl ?_
        refine Tl_end ?_
        refine At_then ?_
        refine Tc_seq ?_
        refine Tc_norm [(3, some (D.ptr 0 0)), (7, some (D.val (.int .i64 ((n % 60 + 1 : Nat) : Int)))), (8, some (D.ptr 2 0)), (10, some (D.ptr 3 0)), (12, some (D.ptr 4 0)), (14, some (D.ptr 5 0)), (16, some (D.ptr 6 0))] [some ⟨25, [Leaf.val (.bool y.neg), natL y.n, natL y.d], none, none⟩, none, some ⟨29, [Leaf.val (.bool ((rndD y.q ((n % 60 + 1 : Nat) : Int) (decide (sg y.q < 0))).neg)), natL (limbs ((rndD y.q ((n % 60 + 1 : Nat) : Int) (decide (sg y.q < 0))).mag)), Leaf.val (.int .i64 ((rndD y.q ((n % 60 + 1 : Nat) : Int) (decide (sg y.q < 0))).exp))], none, none⟩, some ⟨29, [Leaf.val (.bool ((rndD x.q ((n % 60 + 1 : Nat) : Int) (decide (sg x.q < 0))).neg)), natL (limbs ((rndD x.q ((n % 60 + 1 : Nat) : Int) (decide (sg x.q < 0))).mag)), Leaf.val (.int .i64 ((rndD x.q ((n % 60 + 1 : Nat) : Int) (decide (sg x.q < 0))).exp))], none, none⟩, some ⟨29, [Leaf.val (.bool ((rndD y.q ((n % 60 + 1 : Nat) : Int) (decide (0 < sg y.q))).neg)), natL (limbs ((rndD y.q ((n % 60 + 1 : Nat) : Int) (decide (0 < sg y.q))).mag)), Leaf.val (.int .i64 ((rndD y.q ((n % 60 + 1 : Nat) : Int) (decide (0 < sg y.q))).exp))], none, none⟩, some ⟨29, [Leaf.val (.bool ((rndD x.q ((n % 60 + 1 : Nat) : Int) (decide (0 < sg x.q))).neg)), natL (limbs ((rndD x.q ((n % 60 + 1 : Nat) : Int) (decide (0 < sg x.q))).mag)), Leaf.val (.int .i64 ((rndD x.q ((n % 60 + 1 : Nat) : Int) (decide (0 < sg x.q))).exp))], none, none⟩, some ⟨29, [Leaf.val (.bool ((rndD y.q ((n % 60 + 1 + 1 : Nat) : Int) (decide (sg y.q < 0))).neg)), natL (limbs ((rndD y.q ((n % 60 + 1 + 1 : Nat) : Int) (decide (sg y.q < 0))).mag)), Leaf.val (.int .i64 ((rndD y.q ((n % 60 + 1 + 1 : Nat) : Int) (decide (sg y.q < 0))).exp))], none, none⟩] ⟨rfl, rfl, rfl, rfl, rfl, rfl, rfl, trivial⟩ rfl ?_
        refine Tc_region ?_
        refine Tl_q (JO_q rfl rfl (Jq_load_agg rfl rfl rfl (by decide) ty25 (by decide) (Nat.le_of_ble_eq_true rfl) rfl)) rfl ?_
        refine Tl_q (JO_q rfl rfl (Jq_move rfl rfl)) rfl ?_
        refine Tl_q (JO_q rfl rfl (Jq_add rfl rfl rfl (r := ((n % 60 + 1 + 1 : Nat) : Int)) (w64 (by omega) (by omega) (by omega)))) rfl ?_
        refine Tl_e (JO_e rfl rfl (Je_call rfl fn13 rfl (dup y (y.q) rfl (hfy.mono (by omega)) ((n % 60 + 1 + 1 : Nat) : Int)))) rfl rfl ?_
        refine Tl_q (JO_q rfl rfl (Jq_move rfl rfl)) rfl ?_
        refine Tl_q (JO_q rfl rfl (Jq_extract rfl rfl rfl)) rfl ?_
        refine Tl_q (JO_q rfl rfl (Jq_extract rfl rfl rfl)) rfl ?_
        refine Tl_e (JO_e rfl rfl (Je_alloc (n := 7) rfl tz29 rfl)) rfl rfl ?_
        refine Tl_e (JO_e rfl rfl (Je_store rfl rfl rfl rfl ty29 rfl (by decide) (Nat.le_of_ble_eq_true rfl) rfl)) rfl rfl ?_
        refine Tl_q (JO_q rfl rfl (Jq_assign rfl rfl)) rfl ?_
        refine Tl_end ?_
        refine At_then ?_
        refine Tc_seq ?_
        refine Tc_free 0 ?_
        refine Tc_norm [(8, some (D.ptr 2 0)), (10, some (D.ptr 3 0)), (12, some (D.ptr 4 0)), (14, some (D.ptr 5 0)), (16, some (D.ptr 6 0)), (18, some (D.ptr 7 0))] [none, none, some ⟨29, [Leaf.val (.bool ((rndD y.q ((n % 60 + 1 : Nat) : Int) (decide (sg y.q < 0))).neg)), natL (limbs ((rndD y.q ((n % 60 + 1 : Nat) : Int) (decide (sg y.q < 0))).mag)), Leaf.val (.int .i64 ((rndD y.q ((n % 60 + 1 : Nat) : Int) (decide (sg y.q < 0))).exp))], none, none⟩, some ⟨29, [Leaf.val (.bool ((rndD x.q ((n % 60 + 1 : Nat) : Int) (decide (sg x.q < 0))).neg)), natL (limbs ((rndD x.q ((n % 60 + 1 : Nat) : Int) (decide (sg x.q < 0))).mag)), Leaf.val (.int .i64 ((rndD x.q ((n % 60 + 1 : Nat) : Int) (decide (sg x.q < 0))).exp))], none, none⟩, some ⟨29, [Leaf.val (.bool ((rndD y.q ((n % 60 + 1 : Nat) : Int) (decide (0 < sg y.q))).neg)), natL (limbs ((rndD y.q ((n % 60 + 1 : Nat) : Int) (decide (0 < sg y.q))).mag)), Leaf.val (.int .i64 ((rndD y.q ((n % 60 + 1 : Nat) : Int) (decide (0 < sg y.q))).exp))], none, none⟩, some ⟨29, [Leaf.val (.bool ((rndD x.q ((n % 60 + 1 : Nat) : Int) (decide (0 < sg x.q))).neg)), natL (limbs ((rndD x.q ((n % 60 + 1 : Nat) : Int) (decide (0 < sg x.q))).mag)), Leaf.val (.int .i64 ((rndD x.q ((n % 60 + 1 : Nat) : Int) (decide (0 < sg x.q))).exp))], none, none⟩, some ⟨29, [Leaf.val (.bool ((rndD y.q ((n % 60 + 1 + 1 : Nat) : Int) (decide (sg y.q < 0))).neg)), natL (limbs ((rndD y.q ((n % 60 + 1 + 1 : Nat) : Int) (decide (sg y.q < 0))).mag)), Leaf.val (.int .i64 ((rndD y.q ((n % 60 + 1 + 1 : Nat) : Int) (decide (sg y.q < 0))).exp))], none, none⟩, some ⟨29, [Leaf.val (.bool ((rndD y.q ((n % 60 + 1 + 1 : Nat) : Int) (decide (0 < sg y.q))).neg)), natL (limbs ((rndD y.q ((n % 60 + 1 + 1 : Nat) : Int) (decide (0 < sg y.q))).mag)), Leaf.val (.int .i64 ((rndD y.q ((n % 60 + 1 + 1 : Nat) : Int) (decide (0 < sg y.q))).exp))], none, none⟩] ⟨rfl, rfl, rfl, rfl, rfl, rfl, trivial⟩ rfl ?_
        refine Tc_region ?_
        refine Tl_q (JO_q rfl rfl (Jq_load_agg rfl rfl rfl (by decide) ty29 (by decide) (Nat.le_of_ble_eq_true rfl) rfl)) rfl ?_
        refine Tl_q (JO_q rfl rfl (Jq_load_agg rfl rfl rfl (by decide) ty29 (by decide) (Nat.le_of_ble_eq_true rfl) rfl)) rfl ?_
        refine Tl_e (JO_e rfl rfl (Je_call rfl fn28 rfl (rdcmp (rndD y.q ((n % 60 + 1 : Nat) : Int) (decide (sg y.q < 0))) (rndD x.q ((n % 60 + 1 : Nat) : Int) (decide (sg x.q < 0))) (Bd.use (by omega)) (Bd.use (by omega))))) rfl rfl ?_
        refine Tl_q (JO_q rfl rfl (Jq_leq rfl rfl rfl (b := _) (rfl))) rfl ?_
        refine Tl_is true (dT (cmpq_le.2 (dn_mono iry irx (p := n % 60 + 1) (by omega) (by omega) hle))) ?_
        refine Tl_q (JO_q rfl rfl (Jq_move rfl rfl)) rfl ?_
        refine Tl_q (JO_qg rfl rfl rfl rfl (Jq_load_agg rfl rfl rfl (by decide) ty29 (by decide) (Nat.le_of_ble_eq_true rfl) rfl)) rfl ?_
        refine Tl_q (JO_qg rfl rfl rfl rfl (Jq_load_agg rfl rfl rfl (by decide) ty29 (by decide) (Nat.le_of_ble_eq_true rfl) rfl)) rfl ?_
        refine Tl_e (JO_eg rfl rfl rfl rfl (Je_call rfl fn28 rfl (rdcmp (rndD y.q ((n % 60 + 1 : Nat) : Int) (decide (0 < sg y.q))) (rndD x.q ((n % 60 + 1 : Nat) : Int) (decide (0 < sg x.q))) (Bd.use (by omega)) (Bd.use (by omega))))) rfl rfl ?_
        refine Tl_q (JO_qg rfl rfl rfl rfl (Jq_leq rfl rfl rfl (b := _) (rfl))) rfl ?_
        refine Tl_is true (dT (cmpq_le.2 (up_mono iry irx (p := n % 60 + 1) (by omega) (by omega) hle))) ?_
        refine Tl_q (JO_q rfl rfl (Jq_pick_t rfl rfl rfl)) rfl ?_
        refine Tl_q (JO_q rfl rfl (Jq_move rfl rfl)) rfl ?_
        refine Tl_q (JO_qg rfl rfl rfl rfl (Jq_load_agg rfl rfl rfl (by decide) ty29 (by decide) (Nat.le_of_ble_eq_true rfl) rfl)) rfl ?_
        refine Tl_q (JO_qg rfl rfl rfl rfl (Jq_load_agg rfl rfl rfl (by decide) ty29 (by decide) (Nat.le_of_ble_eq_true rfl) rfl)) rfl ?_
        refine Tl_e (JO_eg rfl rfl rfl rfl (Je_call rfl fn28 rfl (rdcmp (rndD y.q ((n % 60 + 1 : Nat) : Int) (decide (sg y.q < 0))) (rndD y.q ((n % 60 + 1 + 1 : Nat) : Int) (decide (sg y.q < 0))) (Bd.use (by omega)) (Bd.use (by omega))))) rfl rfl ?_
        refine Tl_q (JO_qg rfl rfl rfl rfl (Jq_leq rfl rfl rfl (b := _) (rfl))) rfl ?_
        refine Tl_is true (dT (cmpq_le.2 (dn_more iry (p := n % 60 + 1) (by omega) (by omega)))) ?_
        refine Tl_q (JO_q rfl rfl (Jq_pick_t rfl rfl rfl)) rfl ?_
        refine Tl_q (JO_q rfl rfl (Jq_move rfl rfl)) rfl ?_
        refine Tl_q (JO_qg rfl rfl rfl rfl (Jq_load_agg rfl rfl rfl (by decide) ty29 (by decide) (Nat.le_of_ble_eq_true rfl) rfl)) rfl ?_
        refine Tl_q (JO_qg rfl rfl rfl rfl (Jq_load_agg rfl rfl rfl (by decide) ty29 (by decide) (Nat.le_of_ble_eq_true rfl) rfl)) rfl ?_
        refine Tl_e (JO_eg rfl rfl rfl rfl (Je_call rfl fn28 rfl (rdcmp (rndD y.q ((n % 60 + 1 + 1 : Nat) : Int) (decide (0 < sg y.q))) (rndD y.q ((n % 60 + 1 : Nat) : Int) (decide (0 < sg y.q))) (Bd.use (by omega)) (Bd.use (by omega))))) rfl rfl ?_
        refine Tl_q (JO_qg rfl rfl rfl rfl (Jq_leq rfl rfl rfl (b := _) (rfl))) rfl ?_
        refine Tl_is true (dT (cmpq_le.2 (up_more iry (p := n % 60 + 1) (by omega) (by omega)))) ?_
        refine Tl_q (JO_q rfl rfl (Jq_pick_t rfl rfl rfl)) rfl ?_
        refine Tl_q (JO_q rfl rfl (Jq_assign rfl rfl)) rfl ?_
        refine Tl_end ?_
        refine At_then ?_
        exact Tc_ret1 (fun _ _ h => h) rfl rfl rfl
      · skip
        have hle : x.q ≤ y.q := cmpq_le.1 (by have h1 := of_decide_eq_false hc37; omega)
        refine Tc_skipA ?_
        refine At_then ?_
        refine Tc_seq ?_
        refine Tc_norm [(3, some (D.ptr 0 0)), (4, some (D.ptr 1 0)), (7, some (D.val (.int .i64 ((n % 60 + 1 : Nat) : Int))))] [some ⟨25, [Leaf.val (.bool x.neg), natL x.n, natL x.d], none, none⟩, some ⟨25, [Leaf.val (.bool y.neg), natL y.n, natL y.d], none, none⟩] ⟨rfl, rfl, rfl, trivial⟩ rfl ?_
        refine Tc_region ?_
        refine Tl_q (JO_q rfl rfl (Jq_load_agg rfl rfl rfl (by decide) ty25 (by decide) (Nat.le_of_ble_eq_true rfl) rfl)) rfl ?_
        refine Tl_q (JO_q rfl rfl (Jq_move rfl rfl)) rfl ?_
        refine Tl_e (JO_e rfl rfl (Je_call rfl fn12 rfl (ddown x (x.q) rfl (hfx.mono (by omega)) ((n % 60 + 1 : Nat) : Int)))) rfl rfl ?_
        refine Tl_q (JO_q rfl rfl (Jq_move rfl rfl)) rfl ?_
        refine Tl_q (JO_q rfl rfl (Jq_extract rfl rfl rfl)) rfl ?_
        refine Tl_q (JO_q rfl rfl (Jq_extract rfl rfl rfl)) rfl ?_
        refine Tl_e (JO_e rfl rfl (Je_alloc (n := 2) rfl tz29 rfl)) rfl rfl ?_
        refine Tl_e (JO_e rfl rfl (Je_store rfl rfl rfl rfl ty29 rfl (by decide) (Nat.le_of_ble_eq_true rfl) rfl)) rfl rfl ?_
        refine Tl_q (JO_q rfl rfl (Jq_assign rfl rfl)) rfl ?_
        refine Tl_end ?_
        refine At_then ?_
        refine Tc_seq ?_
        refine Tc_norm [(3, some (D.ptr 0 0)), (4, some (D.ptr 1 0)), (7, some (D.val (.int .i64 ((n % 60 + 1 : Nat) : Int)))), (8, some (D.ptr 2 0))] [some ⟨25, [Leaf.val (.bool x.neg), natL x.n, natL x.d], none, none⟩, some ⟨25, [Leaf.val (.bool y.neg), natL y.n, natL y.d], none, none⟩, some ⟨29, [Leaf.val (.bool ((rndD x.q ((n % 60 + 1 : Nat) : Int) (decide (sg x.q < 0))).neg)), natL (limbs ((rndD x.q ((n % 60 + 1 : Nat) : Int) (decide (sg x.q < 0))).mag)), Leaf.val (.int .i64 ((rndD x.q ((n % 60 + 1 : Nat) : Int) (decide (sg x.q < 0))).exp))], none, none⟩] ⟨rfl, rfl, rfl, rfl, trivial⟩ rfl ?_
        refine Tc_region ?_
        refine Tl_q (JO_q rfl rfl (Jq_load_agg rfl rfl rfl (by decide) ty25 (by decide) (Nat.le_of_ble_eq_true rfl) rfl)) rfl ?_
        refine Tl_q (JO_q rfl rfl (Jq_move rfl rfl)) rfl ?_
        refine Tl_e (JO_e rfl rfl (Je_call rfl fn12 rfl (ddown y (y.q) rfl (hfy.mono (by omega)) ((n % 60 + 1 : Nat) : Int)))) rfl rfl ?_
        refine Tl_q (JO_q rfl rfl (Jq_move rfl rfl)) rfl ?_
        refine Tl_q (JO_q rfl rfl (Jq_extract rfl rfl rfl)) rfl ?_
        refine Tl_q (JO_q rfl rfl (Jq_extract rfl rfl rfl)) rfl ?_
        refine Tl_e (JO_e rfl rfl (Je_alloc (n := 3) rfl tz29 rfl)) rfl rfl ?_
        refine Tl_e (JO_e rfl rfl (Je_store rfl rfl rfl rfl ty29 rfl (by decide) (Nat.le_of_ble_eq_true rfl) rfl)) rfl rfl ?_
        refine Tl_q (JO_q rfl rfl (Jq_assign rfl rfl)) rfl ?_
        refine Tl_end ?_
        refine At_then ?_
        refine Tc_seq ?_
        refine Tc_norm [(3, some (D.ptr 0 0)), (4, some (D.ptr 1 0)), (7, some (D.val (.int .i64 ((n % 60 + 1 : Nat) : Int)))), (8, some (D.ptr 2 0)), (10, some (D.ptr 3 0))] [some ⟨25, [Leaf.val (.bool x.neg), natL x.n, natL x.d], none, none⟩, some ⟨25, [Leaf.val (.bool y.neg), natL y.n, natL y.d], none, none⟩, some ⟨29, [Leaf.val (.bool ((rndD x.q ((n % 60 + 1 : Nat) : Int) (decide (sg x.q < 0))).neg)), natL (limbs ((rndD x.q ((n % 60 + 1 : Nat) : Int) (decide (sg x.q < 0))).mag)), Leaf.val (.int .i64 ((rndD x.q ((n % 60 + 1 : Nat) : Int) (decide (sg x.q < 0))).exp))], none, none⟩, some ⟨29, [Leaf.val (.bool ((rndD y.q ((n % 60 + 1 : Nat) : Int) (decide (sg y.q < 0))).neg)), natL (limbs ((rndD y.q ((n % 60 + 1 : Nat) : Int) (decide (sg y.q < 0))).mag)), Leaf.val (.int .i64 ((rndD y.q ((n % 60 + 1 : Nat) : Int) (decide (sg y.q < 0))).exp))], none, none⟩] ⟨rfl, rfl, rfl, rfl, rfl, trivial⟩ rfl ?_
        refine Tc_region ?_
        refine Tl_q (JO_q rfl rfl (Jq_load_agg rfl rfl rfl (by decide) ty25 (by decide) (Nat.le_of_ble_eq_true rfl) rfl)) rfl ?_
        refine Tl_q (JO_q rfl rfl (Jq_move rfl rfl)) rfl ?_
        refine Tl_e (JO_e rfl rfl (Je_call rfl fn13 rfl (dup x (x.q) rfl (hfx.mono (by omega)) ((n % 60 + 1 : Nat) : Int)))) rfl rfl ?_
        refine Tl_q (JO_q rfl rfl (Jq_move rfl rfl)) rfl ?_
        refine Tl_q (JO_q rfl rfl (Jq_extract rfl rfl rfl)) rfl ?_
        refine Tl_q (JO_q rfl rfl (Jq_extract rfl rfl rfl)) rfl ?_
        refine Tl_e (JO_e rfl rfl (Je_alloc (n := 4) rfl tz29 rfl)) rfl rfl ?_
        refine Tl_e (JO_e rfl rfl (Je_store rfl rfl rfl rfl ty29 rfl (by decide) (Nat.le_of_ble_eq_true rfl) rfl)) rfl rfl ?_
        refine Tl_q (JO_q rfl rfl (Jq_assign rfl rfl)) rfl ?_
        refine Tl_end ?_
        refine At_then ?_
        refine Tc_seq ?_
        refine Tc_norm [(3, some (D.ptr 0 0)), (4, some (D.ptr 1 0)), (7, some (D.val (.int .i64 ((n % 60 + 1 : Nat) : Int)))), (8, some (D.ptr 2 0)), (10, some (D.ptr 3 0)), (12, some (D.ptr 4 0))] [some ⟨25, [Leaf.val (.bool x.neg), natL x.n, natL x.d], none, none⟩, some ⟨25, [Leaf.val (.bool y.neg), natL y.n, natL y.d], none, none⟩, some ⟨29, [Leaf.val (.bool ((rndD x.q ((n % 60 + 1 : Nat) : Int) (decide (sg x.q < 0))).neg)), natL (limbs ((rndD x.q ((n % 60 + 1 : Nat) : Int) (decide (sg x.q < 0))).mag)), Leaf.val (.int .i64 ((rndD x.q ((n % 60 + 1 : Nat) : Int) (decide (sg x.q < 0))).exp))], none, none⟩, some ⟨29, [Leaf.val (.bool ((rndD y.q ((n % 60 + 1 : Nat) : Int) (decide (sg y.q < 0))).neg)), natL (limbs ((rndD y.q ((n % 60 + 1 : Nat) : Int) (decide (sg y.q < 0))).mag)), Leaf.val (.int .i64 ((rndD y.q ((n % 60 + 1 : Nat) : Int) (decide (sg y.q < 0))).exp))], none, none⟩, some ⟨29, [Leaf.val (.bool ((rndD x.q ((n % 60 + 1 : Nat) : Int) (decide (0 < sg x.q))).neg)), natL (limbs ((rndD x.q ((n % 60 + 1 : Nat) : Int) (decide (0 < sg x.q))).mag)), Leaf.val (.int .i64 ((rndD x.q ((n % 60 + 1 : Nat) : Int) (decide (0 < sg x.q))).exp))], none, none⟩] ⟨rfl, rfl, rfl, rfl, rfl, rfl, trivial⟩ rfl ?_
        refine Tc_region ?_
        refine Tl_q (JO_q rfl rfl (Jq_load_agg rfl rfl rfl (by decide) ty25 (by decide) (Nat.le_of_ble_eq_true rfl) rfl)) rfl ?_
        refine Tl_q (JO_q rfl rfl (Jq_move rfl rfl)) rfl ?_
        refine Tl_e (JO_e rfl rfl (Je_call rfl fn13 rfl (dup y (y.q) rfl (hfy.mono (by omega)) ((n % 60 + 1 : Nat) : Int)))) rfl rfl ?_
        refine Tl_q (JO_q rfl rfl (Jq_move rfl rfl)) rfl ?_
        refine Tl_q (JO_q rfl rfl (Jq_extract rfl rfl rfl)) rfl ?_
        refine Tl_q (JO_q rfl rfl (Jq_extract rfl rfl rfl)) rfl ?_
        refine Tl_e (JO_e rfl rfl (Je_alloc (n := 5) rfl tz29 rfl)) rfl rfl ?_
        refine Tl_e (JO_e rfl rfl (Je_store rfl rfl rfl rfl ty29 rfl (by decide) (Nat.le_of_ble_eq_true rfl) rfl)) rfl rfl ?_
        refine Tl_q (JO_q rfl rfl (Jq_assign rfl rfl)) rfl ?_
        refine Tl_end ?_
        refine At_then ?_
        refine Tc_seq ?_
        refine Tc_free 1 ?_
        refine Tc_norm [(3, some (D.ptr 0 0)), (7, some (D.val (.int .i64 ((n % 60 + 1 : Nat) : Int)))), (8, some (D.ptr 2 0)), (10, some (D.ptr 3 0)), (12, some (D.ptr 4 0)), (14, some (D.ptr 5 0))] [some ⟨25, [Leaf.val (.bool x.neg), natL x.n, natL x.d], none, none⟩, none, some ⟨29, [Leaf.val (.bool ((rndD x.q ((n % 60 + 1 : Nat) : Int) (decide (sg x.q < 0))).neg)), natL (limbs ((rndD x.q ((n % 60 + 1 : Nat) : Int) (decide (sg x.q < 0))).mag)), Leaf.val (.int .i64 ((rndD x.q ((n % 60 + 1 : Nat) : Int) (decide (sg x.q < 0))).exp))], none, none⟩, some ⟨29, [Leaf.val (.bool ((rndD y.q ((n % 60 + 1 : Nat) : Int) (decide (sg y.q < 0))).neg)), natL (limbs ((rndD y.q ((n % 60 + 1 : Nat) : Int) (decide (sg y.q < 0))).mag)), Leaf.val (.int .i64 ((rndD y.q ((n % 60 + 1 : Nat) : Int) (decide (sg y.q < 0))).exp))], none, none⟩, some ⟨29, [Leaf.val (.bool ((rndD x.q ((n % 60 + 1 : Nat) : Int) (decide (0 < sg x.q))).neg)), natL (limbs ((rndD x.q ((n % 60 + 1 : Nat) : Int) (decide (0 < sg x.q))).mag)), Leaf.val (.int .i64 ((rndD x.q ((n % 60 + 1 : Nat) : Int) (decide (0 < sg x.q))).exp))], none, none⟩, some ⟨29, [Leaf.val (.bool ((rndD y.q ((n % 60 + 1 : Nat) : Int) (decide (0 < sg y.q))).neg)), natL (limbs ((rndD y.q ((n % 60 + 1 : Nat) : Int) (decide (0 < sg y.q))).mag)), Leaf.val (.int .i64 ((rndD y.q ((n % 60 + 1 : Nat) : Int) (decide (0 < sg y.q))).exp))], none, none⟩] ⟨rfl, rfl, rfl, rfl, rfl, rfl, trivial⟩ rfl ?_
        refine Tc_region ?_
        refine Tl_q (JO_q rfl rfl (Jq_load_agg rfl rfl rfl (by decide) ty25 (by decide) (Nat.le_of_ble_eq_true rfl) rfl)) rfl ?_
        refine Tl_q (JO_q rfl rfl (Jq_move rfl rfl)) rfl ?_
        refine Tl_q (JO_q rfl rfl (Jq_add rfl rfl rfl (r := ((n % 60 + 1 + 1 : Nat) : Int)) (w64 (by omega) (by omega) (by omega)))) rfl ?_
        refine Tl_e (JO_e rfl rfl (Je_call rfl fn12 rfl (ddown x (x.q) rfl (hfx.mono (by omega)) ((n % 60 + 1 + 1 : Nat) : Int)))) rfl rfl ?_
        refine Tl_q (JO_q rfl rfl (Jq_move rfl rfl)) rfl ?_
        refine Tl_q (JO_q rfl rfl (Jq_extract rfl rfl rfl)) rfl ?_
        refine Tl_q (JO_q rfl rfl (Jq_extract rfl rfl rfl)) rfl ?_
        refine Tl_e (JO_e rfl rfl (Je_alloc (n := 6) rfl tz29 rfl)) rfl rfl ?_
        refine Tl_e (JO_e rfl rfl (Je_store rfl rfl rfl rfl ty29 rfl (by decide) (Nat.le_of_ble_eq_true rfl) rfl)) rfl rfl ?_
        refine Tl_q (JO_q rfl rfl (Jq_assign rfl rfl)) rfl ?_
        refine Tl_end ?_
        refine At_then ?_
        refine Tc_seq ?_
        refine Tc_norm [(3, some (D.ptr 0 0)), (7, some (D.val (.int .i64 ((n % 60 + 1 : Nat) : Int)))), (8, some (D.ptr 2 0)), (10, some (D.ptr 3 0)), (12, some (D.ptr 4 0)), (14, some (D.ptr 5 0)), (16, some (D.ptr 6 0))] [some ⟨25, [Leaf.val (.bool x.neg), natL x.n, natL x.d], none, none⟩, none, some ⟨29, [Leaf.val (.bool ((rndD x.q ((n % 60 + 1 : Nat) : Int) (decide (sg x.q < 0))).neg)), natL (limbs ((rndD x.q ((n % 60 + 1 : Nat) : Int) (decide (sg x.q < 0))).mag)), Leaf.val (.int .i64 ((rndD x.q ((n % 60 + 1 : Nat) : Int) (decide (sg x.q < 0))).exp))], none, none⟩, some ⟨29, [Leaf.val (.bool ((rndD y.q ((n % 60 + 1 : Nat) : Int) (decide (sg y.q < 0))).neg)), natL (limbs ((rndD y.q ((n % 60 + 1 : Nat) : Int) (decide (sg y.q < 0))).mag)), Leaf.val (.int .i64 ((rndD y.q ((n % 60 + 1 : Nat) : Int) (decide (sg y.q < 0))).exp))], none, none⟩, some ⟨29, [Leaf.val (.bool ((rndD x.q ((n % 60 + 1 : Nat) : Int) (decide (0 < sg x.q))).neg)), natL (limbs ((rndD x.q ((n % 60 + 1 : Nat) : Int) (decide (0 < sg x.q))).mag)), Leaf.val (.int .i64 ((rndD x.q ((n % 60 + 1 : Nat) : Int) (decide (0 < sg x.q))).exp))], none, none⟩, some ⟨29, [Leaf.val (.bool ((rndD y.q ((n % 60 + 1 : Nat) : Int) (decide (0 < sg y.q))).neg)), natL (limbs ((rndD y.q ((n % 60 + 1 : Nat) : Int) (decide (0 < sg y.q))).mag)), Leaf.val (.int .i64 ((rndD y.q ((n % 60 + 1 : Nat) : Int) (decide (0 < sg y.q))).exp))], none, none⟩, some ⟨29, [Leaf.val (.bool ((rndD x.q ((n % 60 + 1 + 1 : Nat) : Int) (decide (sg x.q < 0))).neg)), natL (limbs ((rndD x.q ((n % 60 + 1 + 1 : Nat) : Int) (decide (sg x.q < 0))).mag)), Leaf.val (.int .i64 ((rndD x.q ((n % 60 + 1 + 1 : Nat) : Int) (decide (sg x.q < 0))).exp))], none, none⟩] ⟨rfl, rfl, rfl, rfl, rfl, rfl, rfl, trivial⟩ rfl ?_
        refine Tc_region ?_
        refine Tl_q (JO_q rfl rfl (Jq_load_agg rfl rfl rfl (by decide) ty25 (by decide) (Nat.le_of_ble_eq_true rfl) rfl)) rfl ?_
        refine Tl_q (JO_q rfl rfl (Jq_move rfl rfl)) rfl ?_
        refine Tl_q (JO_q rfl rfl (Jq_add rfl rfl rfl (r := ((n % 60 + 1 + 1 : Nat) : Int)) (w64 (by omega) (by omega) (by omega)))) rfl ?_
        refine Tl_e (JO_e rfl rfl (Je_call rfl fn13 rfl (dup x (x.q) rfl (hfx.mono (by omega)) ((n % 60 + 1 + 1 : Nat) : Int)))) rfl rfl ?_
        refine Tl_q (JO_q rfl rfl (Jq_move rfl rfl)) rfl ?_
        refine Tl_q (JO_q rfl rfl (Jq_extract rfl rfl rfl)) rfl ?_
        refine Tl_q (JO_q rfl rfl (Jq_extract rfl rfl rfl)) rfl ?_
        refine Tl_e (JO_e rfl rfl (Je_alloc (n := 7) rfl tz29 rfl)) rfl rfl ?_
        refine Tl_e (JO_e rfl rfl (Je_store rfl rfl rfl rfl ty29 rfl (by decide) (Nat.le_of_ble_eq_true rfl) rfl)) rfl rfl ?_
        refine Tl_q (JO_q rfl rfl (Jq_assign rfl rfl)) rfl ?_
        refine Tl_end ?_
        refine At_then ?_
        refine Tc_seq ?_
        refine Tc_free 0 ?_
        refine Tc_norm [(8, some (D.ptr 2 0)), (10, some (D.ptr 3 0)), (12, some (D.ptr 4 0)), (14, some (D.ptr 5 0)), (16, some (D.ptr 6 0)), (18, some (D.ptr 7 0))] [none, none, some ⟨29, [Leaf.val (.bool ((rndD x.q ((n % 60 + 1 : Nat) : Int) (decide (sg x.q < 0))).neg)), natL (limbs ((rndD x.q ((n % 60 + 1 : Nat) : Int) (decide (sg x.q < 0))).mag)), Leaf.val (.int .i64 ((rndD x.q ((n % 60 + 1 : Nat) : Int) (decide (sg x.q < 0))).exp))], none, none⟩, some ⟨29, [Leaf.val (.bool ((rndD y.q ((n % 60 + 1 : Nat) : Int) (decide (sg y.q < 0))).neg)), natL (limbs ((rndD y.q ((n % 60 + 1 : Nat) : Int) (decide (sg y.q < 0))).mag)), Leaf.val (.int .i64 ((rndD y.q ((n % 60 + 1 : Nat) : Int) (decide (sg y.q < 0))).exp))], none, none⟩, some ⟨29, [Leaf.val (.bool ((rndD x.q ((n % 60 + 1 : Nat) : Int) (decide (0 < sg x.q))).neg)), natL (limbs ((rndD x.q ((n % 60 + 1 : Nat) : Int) (decide (0 < sg x.q))).mag)), Leaf.val (.int .i64 ((rndD x.q ((n % 60 + 1 : Nat) : Int) (decide (0 < sg x.q))).exp))], none, none⟩, some ⟨29, [Leaf.val (.bool ((rndD y.q ((n % 60 + 1 : Nat) : Int) (decide (0 < sg y.q))).neg)), natL (limbs ((rndD y.q ((n % 60 + 1 : Nat) : Int) (decide (0 < sg y.q))).mag)), Leaf.val (.int .i64 ((rndD y.q ((n % 60 + 1 : Nat) : Int) (decide (0 < sg y.q))).exp))], none, none⟩, some ⟨29, [Leaf.val (.bool ((rndD x.q ((n % 60 + 1 + 1 : Nat) : Int) (decide (sg x.q < 0))).neg)), natL (limbs ((rndD x.q ((n % 60 + 1 + 1 : Nat) : Int) (decide (sg x.q < 0))).mag)), Leaf.val (.int .i64 ((rndD x.q ((n % 60 + 1 + 1 : Nat) : Int) (decide (sg x.q < 0))).exp))], none, none⟩, some ⟨29, [Leaf.val (.bool ((rndD x.q ((n % 60 + 1 + 1 : Nat) : Int) (decide (0 < sg x.q))).neg)), natL (limbs ((rndD x.q ((n % 60 + 1 + 1 : Nat) : Int) (decide (0 < sg x.q))).mag)), Leaf.val (.int .i64 ((rndD x.q ((n % 60 + 1 + 1 : Nat) : Int) (decide (0 < sg x.q))).exp))], none, none⟩] ⟨rfl, rfl, rfl, rfl, rfl, rfl, trivial⟩ rfl ?_
        refine Tc_region ?_
        refine Tl_q (JO_q rfl rfl (Jq_load_agg rfl rfl rfl (by decide) ty29 (by decide) (Nat.le_of_ble_eq_true rfl) rfl)) rfl ?_
        refine Tl_q (JO_q rfl rfl (Jq_load_agg rfl rfl rfl (by decide) ty29 (by decide) (Nat.le_of_ble_eq_true rfl) rfl)) rfl ?_
        refine Tl_e (JO_e rfl rfl (Je_call rfl fn28 rfl (rdcmp (rndD x.q ((n % 60 + 1 : Nat) : Int) (decide (sg x.q < 0))) (rndD y.q ((n % 60 + 1 : Nat) : Int) (decide (sg y.q < 0))) (Bd.use (by omega)) (Bd.use (by omega))))) rfl rfl ?_
        refine Tl_q (JO_q rfl rfl (Jq_leq rfl rfl rfl (b := _) (rfl))) rfl ?_
        refine Tl_is true (dT (cmpq_le.2 (dn_mono irx iry (p := n % 60 + 1) (by omega) (by omega) hle))) ?_
        refine Tl_q (JO_q rfl rfl (Jq_move rfl rfl)) rfl ?_
        refine Tl_q (JO_qg rfl rfl rfl rfl (Jq_load_agg rfl rfl rfl (by decide) ty29 (by decide) (Nat.le_of_ble_eq_true rfl) rfl)) rfl ?_
        refine Tl_q (JO_qg rfl rfl rfl rfl (Jq_load_agg rfl rfl rfl (by decide) ty29 (by decide) (Nat.le_of_ble_eq_true rfl) rfl)) rfl ?_
        refine Tl_e (JO_eg rfl rfl rfl rfl (Je_call rfl fn28 rfl (rdcmp (rndD x.q ((n % 60 + 1 : Nat) : Int) (decide (0 < sg x.q))) (rndD y.q ((n % 60 + 1 : Nat) : Int) (decide (0 < sg y.q))) (Bd.use (by omega)) (Bd.use (by omega))))) rfl rfl ?_
        refine Tl_q (JO_qg rfl rfl rfl rfl (Jq_leq rfl rfl rfl (b := _) (rfl))) rfl ?_
        refine Tl_is true (dT (cmpq_le.2 (up_mono irx iry (p := n % 60 + 1) (by omega) (by omega) hle))) ?_
        refine Tl_q (JO_q rfl rfl (Jq_pick_t rfl rfl rfl)) rfl ?_
        refine Tl_q (JO_q rfl rfl (Jq_move rfl rfl)) rfl ?_
        refine Tl_q (JO_qg rfl rfl rfl rfl (Jq_load_agg rfl rfl rfl (by decide) ty29 (by decide) (Nat.le_of_ble_eq_true rfl) rfl)) rfl ?_
        refine Tl_q (JO_qg rfl rfl rfl rfl (Jq_load_agg rfl rfl rfl (by decide) ty29 (by decide) (Nat.le_of_ble_eq_true rfl) rfl)) rfl ?_
        refine Tl_e (JO_eg rfl rfl rfl rfl (Je_call rfl fn28 rfl (rdcmp (rndD x.q ((n % 60 + 1 : Nat) : Int) (decide (sg x.q < 0))) (rndD x.q ((n % 60 + 1 + 1 : Nat) : Int) (decide (sg x.q < 0))) (Bd.use (by omega)) (Bd.use (by omega))))) rfl rfl ?_
        refine Tl_q (JO_qg rfl rfl rfl rfl (Jq_leq rfl rfl rfl (b := _) (rfl))) rfl ?_
        refine Tl_is true (dT (cmpq_le.2 (dn_more irx (p := n % 60 + 1) (by omega) (by omega)))) ?_
        refine Tl_q (JO_q rfl rfl (Jq_pick_t rfl rfl rfl)) rfl ?_
        refine Tl_q (JO_q rfl rfl (Jq_move rfl rfl)) rfl ?_
        refine Tl_q (JO_qg rfl rfl rfl rfl (Jq_load_agg rfl rfl rfl (by decide) ty29 (by decide) (Nat.le_of_ble_eq_true rfl) rfl)) rfl ?_
        refine Tl_q (JO_qg rfl rfl rfl rfl (Jq_load_agg rfl rfl rfl (by decide) ty29 (by decide) (Nat.le_of_ble_eq_true rfl) rfl)) rfl ?_
        refine Tl_e (JO_eg rfl rfl rfl rfl (Je_call rfl fn28 rfl (rdcmp (rndD x.q ((n % 60 + 1 + 1 : Nat) : Int) (decide (0 < sg x.q))) (rndD x.q ((n % 60 + 1 : Nat) : Int) (decide (0 < sg x.q))) (Bd.use (by omega)) (Bd.use (by omega))))) rfl rfl ?_
        refine Tl_q (JO_qg rfl rfl rfl rfl (Jq_leq rfl rfl rfl (b := _) (rfl))) rfl ?_
        refine Tl_is true (dT (cmpq_le.2 (up_more irx (p := n % 60 + 1) (by omega) (by omega)))) ?_
        refine Tl_q (JO_q rfl rfl (Jq_pick_t rfl rfl rfl)) rfl ?_
        refine Tl_q (JO_q rfl rfl (Jq_assign rfl rfl)) rfl ?_
        refine Tl_end ?_
        refine At_then ?_
        exact Tc_ret1 (fun _ _ h => h) rfl rfl rfl
  · skip
    refine Tl_q (JO_skip rfl rfl rfl) rfl ?_
    refine Tl_q (JO_skip rfl rfl rfl) rfl ?_
    refine Tl_q (JO_skip rfl rfl rfl) rfl ?_
    refine Tl_q (JO_q rfl rfl (Jq_pick_t rfl rfl rfl)) rfl ?_
    refine Tl_end ?_
    refine At_then ?_
    refine Tc_t rfl ?_
    refine Tc_seq ?_
    refine Tc_region ?_
    refine Tl_q (JO_q rfl rfl (Jq_assign rfl rfl)) rfl ?_
    refine Tl_end ?_
    refine At_then ?_
    exact Tc_ret1 (fun _ _ h => h) rfl rfl rfl

end Go.Proofs.YtpabkdpijcbkgaaDoor
