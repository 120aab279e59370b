/- Walk: a law of chapter 6. -/
import Derived.Test.YtpabkdpijcbkgaaWkL
namespace Go.Proofs.Ytpabkdpijcbkgaa
open Go Go.RowKit Rc


set_option maxRecDepth 10000 in
set_option maxHeartbeats 2000000 in
theorem law_make (x y c : Qr) : Ctr Try.prog 6 [qV x, qV y, qV c] (R.one (V.one (Leaf.val (.bool (true))))) := by
  refine Ctr.of_body Try.func6 rfl Try.ntmps6 (Nat.le_of_ble_eq_true rfl) (fun w0 A0 => ?_)
  refine Tc_seq ?_
  refine Tc_region ?_
  refine Tl_e (JO_e rfl rfl (Je_box (n := 0) rfl rfl rfl)) rfl rfl ?_
  refine Tl_e (JO_e rfl rfl (Je_box (n := 1) rfl rfl rfl)) rfl rfl ?_
  refine Tl_e (JO_e rfl rfl (Je_box (n := 2) rfl rfl rfl)) rfl rfl ?_
  refine Tl_q (JO_q rfl rfl (Jq_assign rfl rfl)) rfl ?_
  refine Tl_end ?_
  refine At_then ?_
  refine Tc_seq ?_
  refine Tc_seq ?_
  refine Tc_region ?_
  refine Tl_e (JO_e rfl rfl (Je_call rfl fn9 rfl (l6awake))) rfl rfl ?_
  refine Tl_q (JO_q rfl rfl (Jq_not rfl rfl (c := false) rfl)) rfl ?_
  refine Tl_end ?_
  refine At_then ?_
  refine Tc_f rfl ?_
  refine Tc_skipA ?_
  refine At_then ?_
  refine Tc_seq ?_
  refine Tc_seq ?_
  refine Tc_region ?_
  refine Tl_q (JO_q rfl rfl (Jq_load_agg rfl rfl rfl (by decide) ty25 (by decide) (Nat.le_of_ble_eq_true rfl) rfl)) rfl ?_
  refine Tl_e (JO_e rfl rfl (Je_call rfl fn27 rfl (l6short x))) rfl rfl ?_
  refine Tl_q (JO_q rfl rfl (Jq_not rfl rfl (c := _) rfl)) rfl ?_
  refine Tl_q (JO_q rfl rfl (Jq_move rfl rfl)) rfl ?_
  refine Tl_two (fun hb17 => ?_) (fun hb17 => ?_)
  · skip
    refine Tl_q (JO_qg rfl rfl rfl rfl (Jq_load_agg rfl rfl rfl (by decide) ty25 (by decide) (Nat.le_of_ble_eq_true rfl) rfl)) rfl ?_
    refine Tl_e (JO_eg rfl rfl rfl rfl (Je_call rfl fn27 rfl (l6short y))) rfl rfl ?_
    refine Tl_q (JO_qg rfl rfl rfl rfl (Jq_not rfl rfl (c := _) rfl)) rfl ?_
    refine Tl_q (JO_q rfl rfl (Jq_pick_f rfl rfl rfl)) rfl ?_
    refine Tl_q (JO_q rfl rfl (Jq_move rfl rfl)) rfl ?_
    refine Tl_two (fun hb22 => ?_) (fun hb22 => ?_)
    · skip
      refine Tl_q (JO_qg rfl rfl rfl rfl (Jq_load_agg rfl rfl rfl (by decide) ty25 (by decide) (Nat.le_of_ble_eq_true rfl) rfl)) rfl ?_
      refine Tl_e (JO_eg rfl rfl rfl rfl (Je_call rfl fn27 rfl (l6short c))) rfl rfl ?_
      refine Tl_q (JO_qg rfl rfl rfl rfl (Jq_not rfl rfl (c := _) rfl)) rfl ?_
      refine Tl_q (JO_q rfl rfl (Jq_pick_f rfl rfl rfl)) rfl ?_
      refine Tl_end ?_
      refine At_then ?_
      refine Tc_cond rfl (fun hc26 => ?_) (fun hc26 => ?_)
      · skip
        refine Tc_seq ?_
        refine Tc_region ?_
        refine Tl_q (JO_q rfl rfl (Jq_assign rfl rfl)) rfl ?_
        refine Tl_end ?_
        refine At_then ?_
        exact Tc_ret1 (fun _ _ h => h) rfl rfl rfl
      · skip
        refine Tc_skipA ?_
        refine At_then ?_
        refine Tc_seq ?_
        by_cases hxy : x.q ≤ y.q
        · skip
          have hfx : Fit 2 x := sh_facts hb17
          haveI ibx : Br x.q 2 := Br.q hfx
          have hfy : Fit 2 y := sh_facts hb22
          haveI iby : Br y.q 2 := Br.q hfy
          have hfc : Fit 2 c := sh_facts hc26
          haveI ibc : Br c.q 2 := Br.q hfc
          refine Tc_norm [(3, some (D.ptr 0 0)), (4, some (D.ptr 1 0)), (5, some (D.ptr 2 0))] [some ⟨25, [Leaf.val (.bool x.neg), natL x.n, natL x.d], none, none⟩, some ⟨25, [Leaf.val (.bool y.neg), natL y.n, natL y.d], none, none⟩, some ⟨25, [Leaf.val (.bool c.neg), natL c.n, natL c.d], none, none⟩] ⟨rfl, rfl, rfl, trivial⟩ rfl ?_
          refine Tc_region ?_
          refine Tl_q (JO_q rfl rfl (Jq_load_agg rfl rfl rfl (by decide) ty25 (by decide) (Nat.le_of_ble_eq_true rfl) rfl)) rfl ?_
          refine Tl_q (JO_q rfl rfl (Jq_load_agg rfl rfl rfl (by decide) ty25 (by decide) (Nat.le_of_ble_eq_true rfl) rfl)) rfl ?_
          refine Tl_e (JO_e rfl rfl (Je_call rfl fn28 rfl (imake_ok x (x.q) rfl (hfx.mono (by omega)) y (y.q) rfl (hfy.mono (by omega)) hxy))) rfl rfl ?_
          refine Tl_q (JO_q rfl rfl (Jq_move rfl rfl)) rfl ?_
          refine Tl_q (JO_q rfl rfl (Jq_extract rfl rfl rfl)) rfl ?_
          refine Tl_q (JO_q rfl rfl (Jq_extract rfl rfl rfl)) rfl ?_
          refine Tl_e (JO_e rfl rfl (Je_alloc (n := 3) rfl tz27 rfl)) rfl rfl ?_
          refine Tl_e (JO_e rfl rfl (Je_store rfl rfl rfl rfl ty27 rfl (by decide) (Nat.le_of_ble_eq_true rfl) rfl)) rfl rfl ?_
          refine Tl_q (JO_q rfl rfl (Jq_assign rfl rfl)) rfl ?_
          refine Tl_end ?_
          refine At_then ?_
          refine Tc_seq ?_
          refine Tc_norm [(3, some (D.ptr 0 0)), (4, some (D.ptr 1 0)), (5, some (D.ptr 2 0)), (7, some (D.ptr 3 0)), (8, some (D.val (.int .i64 0)))] [some ⟨25, [Leaf.val (.bool x.neg), natL x.n, natL x.d], none, none⟩, some ⟨25, [Leaf.val (.bool y.neg), natL y.n, natL y.d], none, none⟩, some ⟨25, [Leaf.val (.bool c.neg), natL c.n, natL c.d], none, none⟩, some ⟨27, [Leaf.val (.bool (cneg x.q)), natL (limbs (cnum x.q)), natL (limbs (cden x.q)), Leaf.val (.bool (cneg y.q)), natL (limbs (cnum y.q)), natL (limbs (cden y.q))], none, none⟩] ⟨rfl, rfl, rfl, rfl, rfl, trivial⟩ rfl ?_
          refine Tc_region ?_
          refine Tl_q (JO_q rfl rfl (Jq_load_agg rfl rfl rfl (by decide) ty25 (by decide) (Nat.le_of_ble_eq_true rfl) rfl)) rfl ?_
          refine Tl_q (JO_q rfl rfl (Jq_load_agg rfl rfl rfl (by decide) ty25 (by decide) (Nat.le_of_ble_eq_true rfl) rfl)) rfl ?_
          refine Tl_e (JO_e rfl rfl (Je_call rfl fn29 rfl (rimake_ok x (x.q) rfl (hfx.mono (by omega)) y (y.q) rfl (hfy.mono (by omega)) hxy))) rfl rfl ?_
          refine Tl_q (JO_q rfl rfl (Jq_move rfl rfl)) rfl ?_
          refine Tl_q (JO_q rfl rfl (Jq_extract rfl rfl rfl)) rfl ?_
          refine Tl_q (JO_q rfl rfl (Jq_extract rfl rfl rfl)) rfl ?_
          refine Tl_e (JO_e rfl rfl (Je_alloc (n := 4) rfl tz27 rfl)) rfl rfl ?_
          refine Tl_e (JO_e rfl rfl (Je_store rfl rfl rfl rfl ty27 rfl (by decide) (Nat.le_of_ble_eq_true rfl) rfl)) rfl rfl ?_
          refine Tl_q (JO_q rfl rfl (Jq_assign rfl rfl)) rfl ?_
          refine Tl_end ?_
          refine At_then ?_
          refine Tc_seq ?_
          refine Tc_norm [(3, some (D.ptr 0 0)), (4, some (D.ptr 1 0)), (5, some (D.ptr 2 0)), (7, some (D.ptr 3 0)), (8, some (D.val (.int .i64 0))), (9, some (D.ptr 4 0)), (10, some (D.val (.int .i64 0)))] [some ⟨25, [Leaf.val (.bool x.neg), natL x.n, natL x.d], none, none⟩, some ⟨25, [Leaf.val (.bool y.neg), natL y.n, natL y.d], none, none⟩, some ⟨25, [Leaf.val (.bool c.neg), natL c.n, natL c.d], none, none⟩, some ⟨27, [Leaf.val (.bool (cneg x.q)), natL (limbs (cnum x.q)), natL (limbs (cden x.q)), Leaf.val (.bool (cneg y.q)), natL (limbs (cnum y.q)), natL (limbs (cden y.q))], none, none⟩, some ⟨27, [Leaf.val (.bool (cneg x.q)), natL (limbs (cnum x.q)), natL (limbs (cden x.q)), Leaf.val (.bool (cneg y.q)), natL (limbs (cnum y.q)), natL (limbs (cden y.q))], none, none⟩] ⟨rfl, rfl, rfl, rfl, rfl, rfl, rfl, trivial⟩ rfl ?_
          refine Tc_region ?_
          refine Tl_q (JO_q rfl rfl (Jq_load_agg rfl rfl rfl (by decide) ty25 (by decide) (Nat.le_of_ble_eq_true rfl) rfl)) rfl ?_
          refine Tl_q (JO_q rfl rfl (Jq_load_agg rfl rfl rfl (by decide) ty25 (by decide) (Nat.le_of_ble_eq_true rfl) rfl)) rfl ?_
          refine Tl_q (JO_q rfl rfl (Jq_build rfl tz27 rfl pl27 rfl)) rfl ?_
          refine Tl_e (JO_e rfl rfl (Je_alloc (n := 5) rfl tz27 rfl)) rfl rfl ?_
          refine Tl_e (JO_e rfl rfl (Je_store rfl rfl rfl rfl ty27 rfl (by decide) (Nat.le_of_ble_eq_true rfl) rfl)) rfl rfl ?_
          refine Tl_end ?_
          refine At_then ?_
          refine Tc_seq ?_
          refine Tc_seq ?_
          refine Tc_drawK 0 [none, none, none, none, none, none, none, none, none, none, none, none, none, none, none, none] [] follows (by kernel_rfl) ?_
          refine DK_q (JO_q rfl rfl (Jq_move rfl rfl)) ?_
          refine DK_q (JO_q rfl rfl (Jq_move rfl rfl)) ?_
          refine DK_q (JO_q rfl rfl (Jq_neq rfl rfl rfl (b := false) (rfl))) ?_
          refine DK_q (JO_q rfl rfl (Jq_move rfl rfl)) ?_
          refine DK_q (JO_qg rfl rfl rfl rfl (Jq_load_agg rfl rfl rfl (by decide) ty27 (by decide) (Nat.le_of_ble_eq_true rfl) rfl)) ?_
          refine DK_q (JO_qg rfl rfl rfl rfl (Jq_load_agg rfl rfl rfl (by decide) ty27 (by decide) (Nat.le_of_ble_eq_true rfl) rfl)) ?_
          refine DK_cg rfl rfl rfl rfl (Jd_call rfl fn13 rfl (risame (qOf (x.q)) (qOf (y.q)) (qOf (x.q)) (qOf (y.q)))) ?_
          refine DK_is true (sm rfl rfl) ?_
          refine DK_q (JO_qg rfl rfl rfl rfl (Jq_not rfl rfl (c := false) rfl)) ?_
          refine DK_q (JO_q rfl rfl (Jq_pick_f rfl rfl rfl)) ?_
          refine DK_q (JO_q rfl rfl (Jq_move rfl rfl)) ?_
          refine DK_q (JO_qg rfl rfl rfl rfl (Jq_load_agg rfl rfl rfl (by decide) ty27 (by decide) (Nat.le_of_ble_eq_true rfl) rfl)) ?_
          refine DK_cg rfl rfl rfl rfl (Jd_call rfl fn30 rfl (ivalid x (x.q) rfl (hfx.mono (by omega)) y (y.q) rfl (hfy.mono (by omega)))) ?_
          refine DK_q (JO_qg rfl rfl rfl rfl (Jq_load_agg rfl rfl rfl (by decide) ty27 (by decide) (Nat.le_of_ble_eq_true rfl) rfl)) ?_
          refine DK_cg rfl rfl rfl rfl (Jd_call rfl fn31 rfl (rivalid x (x.q) rfl (hfx.mono (by omega)) y (y.q) rfl (hfy.mono (by omega)))) ?_
          refine DK_q (JO_qg rfl rfl rfl rfl (Jq_neq_bool rfl rfl rfl un4 (d := _) (rfl))) ?_
          refine DK_is false (by simp) ?_
          refine DK_q (JO_q rfl rfl (Jq_pick_f rfl rfl rfl)) ?_
          refine DK_nil ?_
          refine At_then ?_
          refine Tc_f rfl ?_
          refine Tc_skipA ?_
          refine At_then ?_
          refine Tc_seq ?_
          refine Tc_free 0 ?_
          refine Tc_free 1 ?_
          refine Tc_free 4 ?_
          refine Tc_free 5 ?_
          refine Tc_norm [(5, some (D.ptr 2 0)), (7, some (D.ptr 3 0)), (8, some (D.val (.int .i64 0)))] [none, none, some ⟨25, [Leaf.val (.bool c.neg), natL c.n, natL c.d], none, none⟩, some ⟨27, [Leaf.val (.bool (cneg x.q)), natL (limbs (cnum x.q)), natL (limbs (cden x.q)), Leaf.val (.bool (cneg y.q)), natL (limbs (cnum y.q)), natL (limbs (cden y.q))], none, none⟩, none, none] ⟨rfl, rfl, rfl, trivial⟩ rfl ?_
          refine Tc_drawK 0 [none, none, none, none, none, none, none, none, none, none, none, none, none, none, none, none] [] follows (by kernel_rfl) ?_
          refine DK_q (JO_q rfl rfl (Jq_move rfl rfl)) ?_
          refine DK_q (JO_q rfl rfl (Jq_neq rfl rfl rfl (b := false) (rfl))) ?_
          refine DK_q (JO_q rfl rfl (Jq_move rfl rfl)) ?_
          refine DK_q (JO_qg rfl rfl rfl rfl (Jq_load_agg rfl rfl rfl (by decide) ty27 (by decide) (Nat.le_of_ble_eq_true rfl) rfl)) ?_
          refine DK_cg rfl rfl rfl rfl (Jd_call rfl fn30 rfl (ivalid (qOf (x.q)) (x.q) (qOf_q _) (Br.use (by omega)) (qOf (y.q)) (y.q) (qOf_q _) (Br.use (by omega)))) ?_
          refine DK_is true (valid_of hxy) ?_
          refine DK_q (JO_qg rfl rfl rfl rfl (Jq_move rfl rfl)) ?_
          refine DK_q (JO_qg rfl rfl rfl rfl (Jq_load_agg rfl rfl rfl (by decide) ty27 (by decide) (Nat.le_of_ble_eq_true rfl) rfl)) ?_
          refine DK_q (JO_qg rfl rfl rfl rfl (Jq_load_agg rfl rfl rfl (by decide) ty25 (by decide) (Nat.le_of_ble_eq_true rfl) rfl)) ?_
          refine DK_cg rfl rfl rfl rfl (Jd_call rfl fn17 rfl (icontains (qOf (x.q)) (x.q) (qOf_q _) (Br.use (by omega)) (qOf (y.q)) (y.q) (qOf_q _) (Br.use (by omega)) c (c.q) rfl (hfc.mono (by omega)))) ?_
          refine DK_q (JO_qg rfl rfl rfl rfl (Jq_load_agg rfl rfl rfl (by decide) ty27 (by decide) (Nat.le_of_ble_eq_true rfl) rfl)) ?_
          refine DK_q (JO_qg rfl rfl rfl rfl (Jq_load_agg rfl rfl rfl (by decide) ty25 (by decide) (Nat.le_of_ble_eq_true rfl) rfl)) ?_
          refine DK_cg rfl rfl rfl rfl (Jd_call rfl fn32 rfl (ricontains (qOf (x.q)) (x.q) (qOf_q _) (Br.use (by omega)) (qOf (y.q)) (y.q) (qOf_q _) (Br.use (by omega)) c (c.q) rfl (hfc.mono (by omega)))) ?_
          refine DK_q (JO_qg rfl rfl rfl rfl (Jq_eql_bool rfl rfl rfl un4 (d := _) (rfl))) ?_
          refine DK_is true (by simp) ?_
          refine DK_q (JO_qg rfl rfl rfl rfl (Jq_pick_t rfl rfl rfl)) ?_
          refine DK_q (JO_q rfl rfl (Jq_pick_f rfl rfl rfl)) ?_
          refine DK_q (JO_q rfl rfl (Jq_assign rfl rfl)) ?_
          refine DK_nil ?_
          refine At_then ?_
          exact Tc_ret1 (fun _ _ h => h) rfl rfl rfl
        · skip
          have hfx : Fit 2 x := sh_facts hb17
          haveI ibx : Br x.q 2 := Br.q hfx
          have hfy : Fit 2 y := sh_facts hb22
          haveI iby : Br y.q 2 := Br.q hfy
          have hfc : Fit 2 c := sh_facts hc26
          haveI ibc : Br c.q 2 := Br.q hfc
          refine Tc_norm [(3, some (D.ptr 0 0)), (4, some (D.ptr 1 0)), (5, some (D.ptr 2 0))] [some ⟨25, [Leaf.val (.bool x.neg), natL x.n, natL x.d], none, none⟩, some ⟨25, [Leaf.val (.bool y.neg), natL y.n, natL y.d], none, none⟩, some ⟨25, [Leaf.val (.bool c.neg), natL c.n, natL c.d], none, none⟩] ⟨rfl, rfl, rfl, trivial⟩ rfl ?_
          refine Tc_region ?_
          refine Tl_q (JO_q rfl rfl (Jq_load_agg rfl rfl rfl (by decide) ty25 (by decide) (Nat.le_of_ble_eq_true rfl) rfl)) rfl ?_
          refine Tl_q (JO_q rfl rfl (Jq_load_agg rfl rfl rfl (by decide) ty25 (by decide) (Nat.le_of_ble_eq_true rfl) rfl)) rfl ?_
          refine Tl_e (JO_e rfl rfl (Je_call rfl fn28 rfl (imake_bad x (x.q) rfl (hfx.mono (by omega)) y (y.q) rfl (hfy.mono (by omega)) (Rat.not_le.1 hxy)))) rfl rfl ?_
          refine Tl_q (JO_q rfl rfl (Jq_move rfl rfl)) rfl ?_
          refine Tl_q (JO_q rfl rfl (Jq_extract rfl rfl rfl)) rfl ?_
          refine Tl_q (JO_q rfl rfl (Jq_extract rfl rfl rfl)) rfl ?_
          refine Tl_e (JO_e rfl rfl (Je_alloc (n := 3) rfl tz27 rfl)) rfl rfl ?_
          refine Tl_e (JO_e rfl rfl (Je_store rfl rfl rfl rfl ty27 rfl (by decide) (Nat.le_of_ble_eq_true rfl) rfl)) rfl rfl ?_
          refine Tl_q (JO_q rfl rfl (Jq_assign rfl rfl)) rfl ?_
          refine Tl_end ?_
          refine At_then ?_
          refine Tc_seq ?_
          refine Tc_norm [(3, some (D.ptr 0 0)), (4, some (D.ptr 1 0)), (5, some (D.ptr 2 0)), (7, some (D.ptr 3 0)), (8, some (D.val (.int .i64 2)))] [some ⟨25, [Leaf.val (.bool x.neg), natL x.n, natL x.d], none, none⟩, some ⟨25, [Leaf.val (.bool y.neg), natL y.n, natL y.d], none, none⟩, some ⟨25, [Leaf.val (.bool c.neg), natL c.n, natL c.d], none, none⟩, some ⟨27, [Leaf.val (.bool false), natL ([]), natL ([]), Leaf.val (.bool false), natL ([]), natL ([])], none, none⟩] ⟨rfl, rfl, rfl, rfl, rfl, trivial⟩ rfl ?_
          refine Tc_region ?_
          refine Tl_q (JO_q rfl rfl (Jq_load_agg rfl rfl rfl (by decide) ty25 (by decide) (Nat.le_of_ble_eq_true rfl) rfl)) rfl ?_
          refine Tl_q (JO_q rfl rfl (Jq_load_agg rfl rfl rfl (by decide) ty25 (by decide) (Nat.le_of_ble_eq_true rfl) rfl)) rfl ?_
          refine Tl_e (JO_e rfl rfl (Je_call rfl fn29 rfl (rimake_bad x (x.q) rfl (hfx.mono (by omega)) y (y.q) rfl (hfy.mono (by omega)) (Rat.not_le.1 hxy)))) rfl rfl ?_
          refine Tl_q (JO_q rfl rfl (Jq_move rfl rfl)) rfl ?_
          refine Tl_q (JO_q rfl rfl (Jq_extract rfl rfl rfl)) rfl ?_
          refine Tl_q (JO_q rfl rfl (Jq_extract rfl rfl rfl)) rfl ?_
          refine Tl_e (JO_e rfl rfl (Je_alloc (n := 4) rfl tz27 rfl)) rfl rfl ?_
          refine Tl_e (JO_e rfl rfl (Je_store rfl rfl rfl rfl ty27 rfl (by decide) (Nat.le_of_ble_eq_true rfl) rfl)) rfl rfl ?_
          refine Tl_q (JO_q rfl rfl (Jq_assign rfl rfl)) rfl ?_
          refine Tl_end ?_
          refine At_then ?_
          refine Tc_seq ?_
          refine Tc_norm [(3, some (D.ptr 0 0)), (4, some (D.ptr 1 0)), (5, some (D.ptr 2 0)), (7, some (D.ptr 3 0)), (8, some (D.val (.int .i64 2))), (9, some (D.ptr 4 0)), (10, some (D.val (.int .i64 2)))] [some ⟨25, [Leaf.val (.bool x.neg), natL x.n, natL x.d], none, none⟩, some ⟨25, [Leaf.val (.bool y.neg), natL y.n, natL y.d], none, none⟩, some ⟨25, [Leaf.val (.bool c.neg), natL c.n, natL c.d], none, none⟩, some ⟨27, [Leaf.val (.bool false), natL ([]), natL ([]), Leaf.val (.bool false), natL ([]), natL ([])], none, none⟩, some ⟨27, [Leaf.val (.bool false), natL ([]), natL ([]), Leaf.val (.bool false), natL ([]), natL ([])], none, none⟩] ⟨rfl, rfl, rfl, rfl, rfl, rfl, rfl, trivial⟩ rfl ?_
          refine Tc_region ?_
          refine Tl_q (JO_q rfl rfl (Jq_load_agg rfl rfl rfl (by decide) ty25 (by decide) (Nat.le_of_ble_eq_true rfl) rfl)) rfl ?_
          refine Tl_q (JO_q rfl rfl (Jq_load_agg rfl rfl rfl (by decide) ty25 (by decide) (Nat.le_of_ble_eq_true rfl) rfl)) rfl ?_
          refine Tl_q (JO_q rfl rfl (Jq_build rfl tz27 rfl pl27 rfl)) rfl ?_
          refine Tl_e (JO_e rfl rfl (Je_alloc (n := 5) rfl tz27 rfl)) rfl rfl ?_
          refine Tl_e (JO_e rfl rfl (Je_store rfl rfl rfl rfl ty27 rfl (by decide) (Nat.le_of_ble_eq_true rfl) rfl)) rfl rfl ?_
          refine Tl_end ?_
          refine At_then ?_
          refine Tc_seq ?_
          refine Tc_seq ?_
          refine Tc_drawK 0 [none, none, none, none, none, none, none, none, none, none, none, none, none, none, none, none] [] follows (by kernel_rfl) ?_
          refine DK_q (JO_q rfl rfl (Jq_move rfl rfl)) ?_
          refine DK_q (JO_q rfl rfl (Jq_move rfl rfl)) ?_
          refine DK_q (JO_q rfl rfl (Jq_neq rfl rfl rfl (b := false) (rfl))) ?_
          refine DK_q (JO_q rfl rfl (Jq_move rfl rfl)) ?_
          refine DK_q (JO_qg rfl rfl rfl rfl (Jq_load_agg rfl rfl rfl (by decide) ty27 (by decide) (Nat.le_of_ble_eq_true rfl) rfl)) ?_
          refine DK_q (JO_qg rfl rfl rfl rfl (Jq_load_agg rfl rfl rfl (by decide) ty27 (by decide) (Nat.le_of_ble_eq_true rfl) rfl)) ?_
          refine DK_cg rfl rfl rfl rfl (Jd_call rfl fn13 rfl (risame qZero qZero qZero qZero)) ?_
          refine DK_is true (sm_self _ _) ?_
          refine DK_q (JO_qg rfl rfl rfl rfl (Jq_not rfl rfl (c := false) rfl)) ?_
          refine DK_q (JO_q rfl rfl (Jq_pick_f rfl rfl rfl)) ?_
          refine DK_q (JO_q rfl rfl (Jq_move rfl rfl)) ?_
          refine DK_q (JO_qg rfl rfl rfl rfl (Jq_load_agg rfl rfl rfl (by decide) ty27 (by decide) (Nat.le_of_ble_eq_true rfl) rfl)) ?_
          refine DK_cg rfl rfl rfl rfl (Jd_call rfl fn30 rfl (ivalid x (x.q) rfl (hfx.mono (by omega)) y (y.q) rfl (hfy.mono (by omega)))) ?_
          refine DK_q (JO_qg rfl rfl rfl rfl (Jq_load_agg rfl rfl rfl (by decide) ty27 (by decide) (Nat.le_of_ble_eq_true rfl) rfl)) ?_
          refine DK_cg rfl rfl rfl rfl (Jd_call rfl fn31 rfl (rivalid x (x.q) rfl (hfx.mono (by omega)) y (y.q) rfl (hfy.mono (by omega)))) ?_
          refine DK_q (JO_qg rfl rfl rfl rfl (Jq_neq_bool rfl rfl rfl un4 (d := _) (rfl))) ?_
          refine DK_is false (by simp) ?_
          refine DK_q (JO_q rfl rfl (Jq_pick_f rfl rfl rfl)) ?_
          refine DK_nil ?_
          refine At_then ?_
          refine Tc_f rfl ?_
          refine Tc_skipA ?_
          refine At_then ?_
          refine Tc_seq ?_
          refine Tc_free 0 ?_
          refine Tc_free 1 ?_
          refine Tc_free 4 ?_
          refine Tc_free 5 ?_
          refine Tc_norm [(5, some (D.ptr 2 0)), (7, some (D.ptr 3 0)), (8, some (D.val (.int .i64 2)))] [none, none, some ⟨25, [Leaf.val (.bool c.neg), natL c.n, natL c.d], none, none⟩, some ⟨27, [Leaf.val (.bool false), natL ([]), natL ([]), Leaf.val (.bool false), natL ([]), natL ([])], none, none⟩, none, none] ⟨rfl, rfl, rfl, trivial⟩ rfl ?_
          refine Tc_drawK 0 [none, none, none, none, none, none, none, none, none, none, none, none, none, none, none, none] [] follows (by kernel_rfl) ?_
          refine DK_q (JO_q rfl rfl (Jq_move rfl rfl)) ?_
          refine DK_q (JO_q rfl rfl (Jq_neq rfl rfl rfl (b := true) (rfl))) ?_
          refine DK_q (JO_q rfl rfl (Jq_move rfl rfl)) ?_
          refine DK_skip rfl rfl rfl ?_
          refine DK_skip rfl rfl rfl ?_
          refine DK_skip rfl rfl rfl ?_
          refine DK_skipU rfl rfl rfl ?_
          refine DK_skipU rfl rfl rfl ?_
          refine DK_skipU rfl rfl rfl ?_
          refine DK_skipU rfl rfl rfl ?_
          refine DK_skipU rfl rfl rfl ?_
          refine DK_skipU rfl rfl rfl ?_
          refine DK_skipU rfl rfl rfl ?_
          refine DK_skip rfl rfl rfl ?_
          refine DK_q (JO_q rfl rfl (Jq_pick_t rfl rfl rfl)) ?_
          refine DK_q (JO_q rfl rfl (Jq_assign rfl rfl)) ?_
          refine DK_nil ?_
          refine At_then ?_
          exact Tc_ret1 (fun _ _ h => h) rfl rfl rfl
    · skip
      refine Tl_q (JO_skip rfl rfl rfl) rfl ?_
      refine Tl_q (JO_skip rfl rfl rfl) rfl ?_
      refine Tl_q (JO_skip rfl rfl rfl) rfl ?_
      refine Tl_q (JO_q rfl rfl (Jq_pick_t rfl rfl rfl)) rfl ?_
      refine Tl_end ?_
      refine At_then ?_
      refine Tc_t rfl ?_
      refine Tc_seq ?_
      refine Tc_region ?_
      refine Tl_q (JO_q rfl rfl (Jq_assign rfl rfl)) rfl ?_
      refine Tl_end ?_
      refine At_then ?_
      exact Tc_ret1 (fun _ _ h => h) rfl rfl rfl
  · skip
    refine Tl_q (JO_skip rfl rfl rfl) rfl ?_
    refine Tl_q (JO_skip rfl rfl rfl) rfl ?_
    refine Tl_q (JO_skip rfl rfl rfl) rfl ?_
    refine Tl_q (JO_q rfl rfl (Jq_pick_t rfl rfl rfl)) rfl ?_
    refine Tl_q (JO_q rfl rfl (Jq_move rfl rfl)) rfl ?_
    refine Tl_q (JO_skip rfl rfl rfl) rfl ?_
    refine Tl_q (JO_skip rfl rfl rfl) rfl ?_
    refine Tl_q (JO_skip rfl rfl rfl) rfl ?_
    refine Tl_q (JO_q rfl rfl (Jq_pick_t rfl rfl rfl)) rfl ?_
    refine Tl_end ?_
    refine At_then ?_
    refine Tc_t rfl ?_
    refine Tc_seq ?_
    refine Tc_region ?_
    refine Tl_q (JO_q rfl rfl (Jq_assign rfl rfl)) rfl ?_
    refine Tl_end ?_
    refine At_then ?_
    exact Tc_ret1 (fun _ _ h => h) rfl rfl rfl

end Go.Proofs.Ytpabkdpijcbkgaa
