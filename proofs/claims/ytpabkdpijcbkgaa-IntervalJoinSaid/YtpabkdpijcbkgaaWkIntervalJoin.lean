/- Walk: a law of chapter 6. -/
import Derived.Test.YtpabkdpijcbkgaaWkL
namespace Go.Proofs.Ytpabkdpijcbkgaa
open Go Go.RowKit Rc


set_option maxRecDepth 10000 in
set_option maxHeartbeats 2000000 in
theorem law_join (x0 x1 y0 y1 : Qr) (n : Nat) (hn : n < 256) : Ctr Try.prog 5 [iV x0 x1, iV y0 y1, V.one (Leaf.val (.int .u8 n))] (R.one (V.one (Leaf.val (.bool (true))))) := by
  refine Ctr.of_body Try.func5 rfl Try.ntmps5 (Nat.le_of_ble_eq_true rfl) (fun w0 A0 => ?_)
  refine Tc_seq ?_
  refine Tc_region ?_
  refine Tl_e (JO_e rfl rfl (Je_box (n := 0) rfl rfl rfl)) rfl rfl ?_
  refine Tl_e (JO_e rfl rfl (Je_box (n := 1) rfl rfl rfl)) rfl rfl ?_
  refine Tl_q (JO_q rfl rfl (Jq_assign rfl rfl)) rfl ?_
  refine Tl_end ?_
  refine At_then ?_
  refine Tc_seq ?_
  refine Tc_seq ?_
  refine Tc_region ?_
  refine Tl_e (JO_e rfl rfl (Je_call rfl fn9 rfl (l6awake))) rfl rfl ?_
  refine Tl_q (JO_q rfl rfl (Jq_not rfl rfl (c := false) rfl)) rfl ?_
  refine Tl_end ?_
  refine At_then ?_
  refine Tc_f rfl ?_
  refine Tc_skipA ?_
  refine At_then ?_
  refine Tc_seq ?_
  refine Tc_seq ?_
  refine Tc_region ?_
  refine Tl_q (JO_q rfl rfl (Jq_load_agg rfl rfl rfl (by decide) ty27 (by decide) (Nat.le_of_ble_eq_true rfl) rfl)) rfl ?_
  refine Tl_e (JO_e rfl rfl (Je_call rfl fn10 rfl (l6small x0 x1))) rfl rfl ?_
  refine Tl_q (JO_q rfl rfl (Jq_not rfl rfl (c := _) rfl)) rfl ?_
  refine Tl_q (JO_q rfl rfl (Jq_move rfl rfl)) rfl ?_
  refine Tl_two (fun hb18 => ?_) (fun hb18 => ?_)
  · skip
    refine Tl_q (JO_qg rfl rfl rfl rfl (Jq_load_agg rfl rfl rfl (by decide) ty27 (by decide) (Nat.le_of_ble_eq_true rfl) rfl)) rfl ?_
    refine Tl_e (JO_eg rfl rfl rfl rfl (Je_call rfl fn10 rfl (l6small y0 y1))) rfl rfl ?_
    refine Tl_q (JO_qg rfl rfl rfl rfl (Jq_not rfl rfl (c := _) rfl)) rfl ?_
    refine Tl_q (JO_q rfl rfl (Jq_pick_f rfl rfl rfl)) rfl ?_
    refine Tl_end ?_
    refine At_then ?_
    refine Tc_cond rfl (fun hc22 => ?_) (fun hc22 => ?_)
    · skip
      refine Tc_seq ?_
      refine Tc_region ?_
      refine Tl_q (JO_q rfl rfl (Jq_assign rfl rfl)) rfl ?_
      refine Tl_end ?_
      refine At_then ?_
      exact Tc_ret1 (fun _ _ h => h) rfl rfl rfl
    · skip
      refine Tc_skipA ?_
      refine At_then ?_
      refine Tc_seq ?_
      obtain ⟨hfx0, hfx1, hlx⟩ := smI_facts hb18
      haveI ibx0 : Br x0.q 2 := Br.q hfx0
      haveI ibx1 : Br x1.q 2 := Br.q hfx1
      obtain ⟨hfy0, hfy1, hly⟩ := smI_facts hc22
      haveI iby0 : Br y0.q 2 := Br.q hfy0
      haveI iby1 : Br y1.q 2 := Br.q hfy1
      refine Tc_norm [(2, some (D.val (.int .u8 (n : Int)))), (3, some (D.ptr 0 0)), (4, some (D.ptr 1 0))] [some ⟨27, [Leaf.val (.bool x0.neg), natL x0.n, natL x0.d, Leaf.val (.bool x1.neg), natL x1.n, natL x1.d], none, none⟩, some ⟨27, [Leaf.val (.bool y0.neg), natL y0.n, natL y0.d, Leaf.val (.bool y1.neg), natL y1.n, natL y1.d], none, none⟩] ⟨rfl, rfl, rfl, trivial⟩ rfl ?_
      refine Tc_region ?_
      refine Tl_q (JO_q rfl rfl (Jq_load_agg rfl rfl rfl (by decide) ty27 (by decide) (Nat.le_of_ble_eq_true rfl) rfl)) rfl ?_
      refine Tl_q (JO_q rfl rfl (Jq_load_agg rfl rfl rfl (by decide) ty27 (by decide) (Nat.le_of_ble_eq_true rfl) rfl)) rfl ?_
      refine Tl_e (JO_e rfl rfl (Je_call rfl fn21 rfl (ijoin x0 (x0.q) rfl (hfx0.mono (by omega)) x1 (x1.q) rfl (hfx1.mono (by omega)) y0 (y0.q) rfl (hfy0.mono (by omega)) y1 (y1.q) rfl (hfy1.mono (by omega))))) rfl rfl ?_
      refine Tl_e (JO_e rfl rfl (Je_alloc (n := 2) rfl tz27 rfl)) rfl rfl ?_
      refine Tl_e (JO_e rfl rfl (Je_store rfl rfl rfl rfl ty27 rfl (by decide) (Nat.le_of_ble_eq_true rfl) rfl)) rfl rfl ?_
      refine Tl_end ?_
      refine At_then ?_
      refine Tc_seq ?_
      by_cases hm : mx x0.q y0.q ≤ mn x1.q y1.q
      · skip
        refine Tc_region ?_
        refine Tl_q (JO_q rfl rfl (Jq_load_agg rfl rfl rfl (by decide) ty27 (by decide) (Nat.le_of_ble_eq_true rfl) rfl)) rfl ?_
        refine Tl_q (JO_q rfl rfl (Jq_load_agg rfl rfl rfl (by decide) ty27 (by decide) (Nat.le_of_ble_eq_true rfl) rfl)) rfl ?_
        refine Tl_e (JO_e rfl rfl (Je_call rfl fn22 rfl (imeet_ok x0 (x0.q) rfl (hfx0.mono (by omega)) x1 (x1.q) rfl (hfx1.mono (by omega)) y0 (y0.q) rfl (hfy0.mono (by omega)) y1 (y1.q) rfl (hfy1.mono (by omega)) hm))) rfl rfl ?_
        refine Tl_q (JO_q rfl rfl (Jq_move rfl rfl)) rfl ?_
        refine Tl_q (JO_q rfl rfl (Jq_extract rfl rfl rfl)) rfl ?_
        refine Tl_q (JO_q rfl rfl (Jq_extract rfl rfl rfl)) rfl ?_
        refine Tl_e (JO_e rfl rfl (Je_alloc (n := 3) rfl tz27 rfl)) rfl rfl ?_
        refine Tl_e (JO_e rfl rfl (Je_store rfl rfl rfl rfl ty27 rfl (by decide) (Nat.le_of_ble_eq_true rfl) rfl)) rfl rfl ?_
        refine Tl_q (JO_q rfl rfl (Jq_assign rfl rfl)) rfl ?_
        refine Tl_end ?_
        refine At_then ?_
        refine Tc_seq ?_
        refine Tc_norm [(2, some (D.val (.int .u8 (n : Int)))), (3, some (D.ptr 0 0)), (4, some (D.ptr 1 0)), (7, some (D.ptr 2 0)), (8, some (D.ptr 3 0)), (9, some (D.val (.int .i64 0)))] [some ⟨27, [Leaf.val (.bool x0.neg), natL x0.n, natL x0.d, Leaf.val (.bool x1.neg), natL x1.n, natL x1.d], none, none⟩, some ⟨27, [Leaf.val (.bool y0.neg), natL y0.n, natL y0.d, Leaf.val (.bool y1.neg), natL y1.n, natL y1.d], none, none⟩, some ⟨27, [Leaf.val (.bool (cneg (mn x0.q y0.q))), natL (limbs (cnum (mn x0.q y0.q))), natL (limbs (cden (mn x0.q y0.q))), Leaf.val (.bool (cneg (mx x1.q y1.q))), natL (limbs (cnum (mx x1.q y1.q))), natL (limbs (cden (mx x1.q y1.q)))], none, none⟩, some ⟨27, [Leaf.val (.bool (cneg (mx x0.q y0.q))), natL (limbs (cnum (mx x0.q y0.q))), natL (limbs (cden (mx x0.q y0.q))), Leaf.val (.bool (cneg (mn x1.q y1.q))), natL (limbs (cnum (mn x1.q y1.q))), natL (limbs (cden (mn x1.q y1.q)))], none, none⟩] ⟨rfl, rfl, rfl, rfl, rfl, rfl, trivial⟩ rfl ?_
        refine Tc_region ?_
        refine Tl_q (JO_q rfl rfl (Jq_load_agg rfl rfl rfl (by decide) ty27 (by decide) (Nat.le_of_ble_eq_true rfl) rfl)) rfl ?_
        refine Tl_q (JO_q rfl rfl (Jq_load_agg rfl rfl rfl (by decide) ty27 (by decide) (Nat.le_of_ble_eq_true rfl) rfl)) rfl ?_
        refine Tl_e (JO_e rfl rfl (Je_call rfl fn23 rfl (rimeet_ok x0 (x0.q) rfl (hfx0.mono (by omega)) x1 (x1.q) rfl (hfx1.mono (by omega)) y0 (y0.q) rfl (hfy0.mono (by omega)) y1 (y1.q) rfl (hfy1.mono (by omega)) hm))) rfl rfl ?_
        refine Tl_q (JO_q rfl rfl (Jq_move rfl rfl)) rfl ?_
        refine Tl_q (JO_q rfl rfl (Jq_extract rfl rfl rfl)) rfl ?_
        refine Tl_q (JO_q rfl rfl (Jq_extract rfl rfl rfl)) rfl ?_
        refine Tl_e (JO_e rfl rfl (Je_alloc (n := 4) rfl tz27 rfl)) rfl rfl ?_
        refine Tl_e (JO_e rfl rfl (Je_store rfl rfl rfl rfl ty27 rfl (by decide) (Nat.le_of_ble_eq_true rfl) rfl)) rfl rfl ?_
        refine Tl_q (JO_q rfl rfl (Jq_assign rfl rfl)) rfl ?_
        refine Tl_end ?_
        refine At_then ?_
        refine Tc_seq ?_
        refine Tc_seq ?_
        refine Tc_norm [(2, some (D.val (.int .u8 (n : Int)))), (3, some (D.ptr 0 0)), (4, some (D.ptr 1 0)), (7, some (D.ptr 2 0)), (8, some (D.ptr 3 0)), (9, some (D.val (.int .i64 0))), (10, some (D.ptr 4 0)), (11, some (D.val (.int .i64 0)))] [some ⟨27, [Leaf.val (.bool x0.neg), natL x0.n, natL x0.d, Leaf.val (.bool x1.neg), natL x1.n, natL x1.d], none, none⟩, some ⟨27, [Leaf.val (.bool y0.neg), natL y0.n, natL y0.d, Leaf.val (.bool y1.neg), natL y1.n, natL y1.d], none, none⟩, some ⟨27, [Leaf.val (.bool (cneg (mn x0.q y0.q))), natL (limbs (cnum (mn x0.q y0.q))), natL (limbs (cden (mn x0.q y0.q))), Leaf.val (.bool (cneg (mx x1.q y1.q))), natL (limbs (cnum (mx x1.q y1.q))), natL (limbs (cden (mx x1.q y1.q)))], none, none⟩, some ⟨27, [Leaf.val (.bool (cneg (mx x0.q y0.q))), natL (limbs (cnum (mx x0.q y0.q))), natL (limbs (cden (mx x0.q y0.q))), Leaf.val (.bool (cneg (mn x1.q y1.q))), natL (limbs (cnum (mn x1.q y1.q))), natL (limbs (cden (mn x1.q y1.q)))], none, none⟩, some ⟨27, [Leaf.val (.bool (cneg (mx x0.q y0.q))), natL (limbs (cnum (mx x0.q y0.q))), natL (limbs (cden (mx x0.q y0.q))), Leaf.val (.bool (cneg (mn x1.q y1.q))), natL (limbs (cnum (mn x1.q y1.q))), natL (limbs (cden (mn x1.q y1.q)))], none, none⟩] ⟨rfl, rfl, rfl, rfl, rfl, rfl, rfl, rfl, trivial⟩ rfl ?_
        refine Tc_drawK 0 [none, none, none, none, none, none, none, none, none, none, none, none, none, none, none, none, none, none, none, none, none, none, none, none, none, none, none, none, none, none, none, none, none, none, none, none, none, none] [] follows (by kernel_rfl) ?_
        refine DK_q (JO_q rfl rfl (Jq_load_agg rfl rfl rfl (by decide) ty27 (by decide) (Nat.le_of_ble_eq_true rfl) rfl)) ?_
        refine DK_q (JO_q rfl rfl (Jq_load_agg rfl rfl rfl (by decide) ty27 (by decide) (Nat.le_of_ble_eq_true rfl) rfl)) ?_
        refine DK_q (JO_q rfl rfl (Jq_load_agg rfl rfl rfl (by decide) ty27 (by decide) (Nat.le_of_ble_eq_true rfl) rfl)) ?_
        refine DK_c rfl rfl (Jd_call rfl fn24 rfl (rijoin x0 (x0.q) rfl (hfx0.mono (by omega)) x1 (x1.q) rfl (hfx1.mono (by omega)) y0 (y0.q) rfl (hfy0.mono (by omega)) y1 (y1.q) rfl (hfy1.mono (by omega)))) ?_
        refine DK_c rfl rfl (Jd_call rfl fn13 rfl (risame (qOf (mn x0.q y0.q)) (qOf (mx x1.q y1.q)) (qOf (mn x0.q y0.q)) (qOf (mx x1.q y1.q)))) ?_
        refine DK_is true (sm rfl rfl) ?_
        refine DK_q (JO_q rfl rfl (Jq_not rfl rfl (c := false) rfl)) ?_
        refine DK_q (JO_q rfl rfl (Jq_move rfl rfl)) ?_
        refine DK_q (JO_qg rfl rfl rfl rfl (Jq_move rfl rfl)) ?_
        refine DK_q (JO_qg rfl rfl rfl rfl (Jq_move rfl rfl)) ?_
        refine DK_q (JO_qg rfl rfl rfl rfl (Jq_neq rfl rfl rfl (b := false) (rfl))) ?_
        refine DK_q (JO_q rfl rfl (Jq_pick_f rfl rfl rfl)) ?_
        refine DK_q (JO_q rfl rfl (Jq_move rfl rfl)) ?_
        refine DK_q (JO_qg rfl rfl rfl rfl (Jq_load_agg rfl rfl rfl (by decide) ty27 (by decide) (Nat.le_of_ble_eq_true rfl) rfl)) ?_
        refine DK_q (JO_qg rfl rfl rfl rfl (Jq_load_agg rfl rfl rfl (by decide) ty27 (by decide) (Nat.le_of_ble_eq_true rfl) rfl)) ?_
        refine DK_cg rfl rfl rfl rfl (Jd_call rfl fn13 rfl (risame (qOf (mx x0.q y0.q)) (qOf (mn x1.q y1.q)) (qOf (mx x0.q y0.q)) (qOf (mn x1.q y1.q)))) ?_
        refine DK_is true (sm rfl rfl) ?_
        refine DK_q (JO_qg rfl rfl rfl rfl (Jq_not rfl rfl (c := false) rfl)) ?_
        refine DK_q (JO_q rfl rfl (Jq_pick_f rfl rfl rfl)) ?_
        refine DK_q (JO_q rfl rfl (Jq_move rfl rfl)) ?_
        refine DK_q (JO_qg rfl rfl rfl rfl (Jq_load_agg rfl rfl rfl (by decide) ty27 (by decide) (Nat.le_of_ble_eq_true rfl) rfl)) ?_
        refine DK_q (JO_qg rfl rfl rfl rfl (Jq_load_agg rfl rfl rfl (by decide) ty27 (by decide) (Nat.le_of_ble_eq_true rfl) rfl)) ?_
        refine DK_cg rfl rfl rfl rfl (Jd_call rfl fn25 rfl (iwithin x0 (x0.q) rfl (hfx0.mono (by omega)) x1 (x1.q) rfl (hfx1.mono (by omega)) y0 (y0.q) rfl (hfy0.mono (by omega)) y1 (y1.q) rfl (hfy1.mono (by omega)))) ?_
        refine DK_q (JO_qg rfl rfl rfl rfl (Jq_load_agg rfl rfl rfl (by decide) ty27 (by decide) (Nat.le_of_ble_eq_true rfl) rfl)) ?_
        refine DK_q (JO_qg rfl rfl rfl rfl (Jq_load_agg rfl rfl rfl (by decide) ty27 (by decide) (Nat.le_of_ble_eq_true rfl) rfl)) ?_
        refine DK_cg rfl rfl rfl rfl (Jd_call rfl fn26 rfl (riwithin x0 (x0.q) rfl (hfx0.mono (by omega)) x1 (x1.q) rfl (hfx1.mono (by omega)) y0 (y0.q) rfl (hfy0.mono (by omega)) y1 (y1.q) rfl (hfy1.mono (by omega)))) ?_
        refine DK_q (JO_qg rfl rfl rfl rfl (Jq_neq_bool rfl rfl rfl un4 (d := _) (rfl))) ?_
        refine DK_is false (by simp) ?_
        refine DK_q (JO_q rfl rfl (Jq_pick_f rfl rfl rfl)) ?_
        refine DK_q (JO_q rfl rfl (Jq_move rfl rfl)) ?_
        refine DK_q (JO_qg rfl rfl rfl rfl (Jq_load_agg rfl rfl rfl (by decide) ty27 (by decide) (Nat.le_of_ble_eq_true rfl) rfl)) ?_
        refine DK_q (JO_qg rfl rfl rfl rfl (Jq_load_agg rfl rfl rfl (by decide) ty27 (by decide) (Nat.le_of_ble_eq_true rfl) rfl)) ?_
        refine DK_cg rfl rfl rfl rfl (Jd_call rfl fn25 rfl (iwithin x0 (x0.q) rfl (hfx0.mono (by omega)) x1 (x1.q) rfl (hfx1.mono (by omega)) (qOf (mn x0.q y0.q)) (mn x0.q y0.q) (qOf_q _) (Br.use (by omega)) (qOf (mx x1.q y1.q)) (mx x1.q y1.q) (qOf_q _) (Br.use (by omega)))) ?_
        refine DK_is true (wt (mn_le_l _ _) (le_mx_l _ _)) ?_
        refine DK_q (JO_qg rfl rfl rfl rfl (Jq_not rfl rfl (c := false) rfl)) ?_
        refine DK_q (JO_q rfl rfl (Jq_pick_f rfl rfl rfl)) ?_
        refine DK_q (JO_q rfl rfl (Jq_move rfl rfl)) ?_
        refine DK_q (JO_qg rfl rfl rfl rfl (Jq_load_agg rfl rfl rfl (by decide) ty27 (by decide) (Nat.le_of_ble_eq_true rfl) rfl)) ?_
        refine DK_q (JO_qg rfl rfl rfl rfl (Jq_load_agg rfl rfl rfl (by decide) ty27 (by decide) (Nat.le_of_ble_eq_true rfl) rfl)) ?_
        refine DK_cg rfl rfl rfl rfl (Jd_call rfl fn25 rfl (iwithin y0 (y0.q) rfl (hfy0.mono (by omega)) y1 (y1.q) rfl (hfy1.mono (by omega)) (qOf (mn x0.q y0.q)) (mn x0.q y0.q) (qOf_q _) (Br.use (by omega)) (qOf (mx x1.q y1.q)) (mx x1.q y1.q) (qOf_q _) (Br.use (by omega)))) ?_
        refine DK_is true (wt (mn_le_r _ _) (le_mx_r _ _)) ?_
        refine DK_q (JO_qg rfl rfl rfl rfl (Jq_not rfl rfl (c := false) rfl)) ?_
        refine DK_q (JO_q rfl rfl (Jq_pick_f rfl rfl rfl)) ?_
        refine DK_nil ?_
        refine At_then ?_
        refine Tc_f rfl ?_
        refine Tc_skipA ?_
        refine At_then ?_
        refine Tc_seq ?_
        refine Tc_free 4 ?_
        refine Tc_norm [(2, some (D.val (.int .u8 (n : Int)))), (3, some (D.ptr 0 0)), (4, some (D.ptr 1 0)), (7, some (D.ptr 2 0)), (8, some (D.ptr 3 0)), (9, some (D.val (.int .i64 0)))] [some ⟨27, [Leaf.val (.bool x0.neg), natL x0.n, natL x0.d, Leaf.val (.bool x1.neg), natL x1.n, natL x1.d], none, none⟩, some ⟨27, [Leaf.val (.bool y0.neg), natL y0.n, natL y0.d, Leaf.val (.bool y1.neg), natL y1.n, natL y1.d], none, none⟩, some ⟨27, [Leaf.val (.bool (cneg (mn x0.q y0.q))), natL (limbs (cnum (mn x0.q y0.q))), natL (limbs (cden (mn x0.q y0.q))), Leaf.val (.bool (cneg (mx x1.q y1.q))), natL (limbs (cnum (mx x1.q y1.q))), natL (limbs (cden (mx x1.q y1.q)))], none, none⟩, some ⟨27, [Leaf.val (.bool (cneg (mx x0.q y0.q))), natL (limbs (cnum (mx x0.q y0.q))), natL (limbs (cden (mx x0.q y0.q))), Leaf.val (.bool (cneg (mn x1.q y1.q))), natL (limbs (cnum (mn x1.q y1.q))), natL (limbs (cden (mn x1.q y1.q)))], none, none⟩, none] ⟨rfl, rfl, rfl, rfl, rfl, rfl, trivial⟩ rfl ?_
        refine Tc_region ?_
        refine Tl_q (JO_q rfl rfl (Jq_load_agg rfl rfl rfl (by decide) ty27 (by decide) (Nat.le_of_ble_eq_true rfl) rfl)) rfl ?_
        refine Tl_q (JO_q rfl rfl (Jq_move rfl rfl)) rfl ?_
        refine Tl_e (JO_e rfl rfl (Je_call rfl fn16 rfl (l6at (qOf (mn x0.q y0.q)) (mn x0.q y0.q) (qOf_q _) (Br.use (by omega)) (qOf (mx x1.q y1.q)) (mx x1.q y1.q) (qOf_q _) (Br.use (by omega)) n (by omega)))) rfl rfl ?_
        refine Tl_e (JO_e rfl rfl (Je_alloc (n := 5) rfl tz25 rfl)) rfl rfl ?_
        refine Tl_e (JO_e rfl rfl (Je_store rfl rfl rfl rfl ty25 rfl (by decide) (Nat.le_of_ble_eq_true rfl) rfl)) rfl rfl ?_
        refine Tl_end ?_
        refine At_then ?_
        refine Tc_seq ?_
        by_cases hA : (decide (cmpq x0.q (atp n (mn x0.q y0.q) (mx x1.q y1.q)) ≤ 0) && decide (cmpq (atp n (mn x0.q y0.q) (mx x1.q y1.q)) x1.q ≤ 0)) = true
        · skip
          by_cases hB : (decide (cmpq y0.q (atp n (mn x0.q y0.q) (mx x1.q y1.q)) ≤ 0) && decide (cmpq (atp n (mn x0.q y0.q) (mx x1.q y1.q)) y1.q ≤ 0)) = true
          · skip
            refine Tc_drawK 0 [none, none, none, none, none, none, none, none, none, none, none, none, none, none, none, none, none] [] follows (by kernel_rfl) ?_
            refine DK_q (JO_q rfl rfl (Jq_move rfl rfl)) ?_
            refine DK_q (JO_q rfl rfl (Jq_eql rfl rfl rfl (b := true) (rfl))) ?_
            refine DK_q (JO_q rfl rfl (Jq_move rfl rfl)) ?_
            refine DK_q (JO_qg rfl rfl rfl rfl (Jq_load_agg rfl rfl rfl (by decide) ty27 (by decide) (Nat.le_of_ble_eq_true rfl) rfl)) ?_
            refine DK_q (JO_qg rfl rfl rfl rfl (Jq_load_agg rfl rfl rfl (by decide) ty25 (by decide) (Nat.le_of_ble_eq_true rfl) rfl)) ?_
            refine DK_cg rfl rfl rfl rfl (Jd_call rfl fn17 rfl (icontains (qOf (mx x0.q y0.q)) (mx x0.q y0.q) (qOf_q _) (Br.use (by omega)) (qOf (mn x1.q y1.q)) (mn x1.q y1.q) (qOf_q _) (Br.use (by omega)) (qOf (atp n (mn x0.q y0.q) (mx x1.q y1.q))) (atp n (mn x0.q y0.q) (mx x1.q y1.q)) (qOf_q _) (Br.use (by omega)))) ?_
            refine DK_is true (meet_ct hA hB) ?_
            refine DK_q (JO_q rfl rfl (Jq_pick_t rfl rfl rfl)) ?_
            refine DK_q (JO_q rfl rfl (Jq_load_agg rfl rfl rfl (by decide) ty27 (by decide) (Nat.le_of_ble_eq_true rfl) rfl)) ?_
            refine DK_q (JO_q rfl rfl (Jq_load_agg rfl rfl rfl (by decide) ty25 (by decide) (Nat.le_of_ble_eq_true rfl) rfl)) ?_
            refine DK_c rfl rfl (Jd_call rfl fn17 rfl (icontains x0 (x0.q) rfl (hfx0.mono (by omega)) x1 (x1.q) rfl (hfx1.mono (by omega)) (qOf (atp n (mn x0.q y0.q) (mx x1.q y1.q))) (atp n (mn x0.q y0.q) (mx x1.q y1.q)) (qOf_q _) (Br.use (by omega)))) ?_
            refine DK_is true (hA) ?_
            refine DK_q (JO_q rfl rfl (Jq_move rfl rfl)) ?_
            refine DK_q (JO_qg rfl rfl rfl rfl (Jq_load_agg rfl rfl rfl (by decide) ty27 (by decide) (Nat.le_of_ble_eq_true rfl) rfl)) ?_
            refine DK_q (JO_qg rfl rfl rfl rfl (Jq_load_agg rfl rfl rfl (by decide) ty25 (by decide) (Nat.le_of_ble_eq_true rfl) rfl)) ?_
            refine DK_cg rfl rfl rfl rfl (Jd_call rfl fn17 rfl (icontains y0 (y0.q) rfl (hfy0.mono (by omega)) y1 (y1.q) rfl (hfy1.mono (by omega)) (qOf (atp n (mn x0.q y0.q) (mx x1.q y1.q))) (atp n (mn x0.q y0.q) (mx x1.q y1.q)) (qOf_q _) (Br.use (by omega)))) ?_
            refine DK_is true (hB) ?_
            refine DK_q (JO_q rfl rfl (Jq_pick_t rfl rfl rfl)) ?_
            refine DK_q (JO_q rfl rfl (Jq_eql_bool rfl rfl rfl un4 (d := _) (rfl))) ?_
            refine DK_q (JO_q rfl rfl (Jq_assign rfl rfl)) ?_
            refine DK_nil ?_
            refine At_then ?_
            exact Tc_ret1 (fun _ _ h => h) rfl rfl rfl
          · skip
            refine Tc_free 2 ?_
            refine Tc_norm [(3, some (D.ptr 0 0)), (4, some (D.ptr 1 0)), (8, some (D.ptr 3 0)), (9, some (D.val (.int .i64 0))), (12, some (D.ptr 5 0))] [some ⟨27, [Leaf.val (.bool x0.neg), natL x0.n, natL x0.d, Leaf.val (.bool x1.neg), natL x1.n, natL x1.d], none, none⟩, some ⟨27, [Leaf.val (.bool y0.neg), natL y0.n, natL y0.d, Leaf.val (.bool y1.neg), natL y1.n, natL y1.d], none, none⟩, none, some ⟨27, [Leaf.val (.bool (cneg (mx x0.q y0.q))), natL (limbs (cnum (mx x0.q y0.q))), natL (limbs (cden (mx x0.q y0.q))), Leaf.val (.bool (cneg (mn x1.q y1.q))), natL (limbs (cnum (mn x1.q y1.q))), natL (limbs (cden (mn x1.q y1.q)))], none, none⟩, none, some ⟨25, [Leaf.val (.bool (cneg (atp n (mn x0.q y0.q) (mx x1.q y1.q)))), natL (limbs (cnum (atp n (mn x0.q y0.q) (mx x1.q y1.q)))), natL (limbs (cden (atp n (mn x0.q y0.q) (mx x1.q y1.q))))], none, none⟩] ⟨rfl, rfl, rfl, rfl, rfl, trivial⟩ rfl ?_
            refine Tc_drawK 0 [none, none, none, none, none, none, none, none, none, none, none, none, none, none, none, none, none] [] follows (by kernel_rfl) ?_
            refine DK_q (JO_q rfl rfl (Jq_move rfl rfl)) ?_
            refine DK_q (JO_q rfl rfl (Jq_eql rfl rfl rfl (b := true) (rfl))) ?_
            refine DK_q (JO_q rfl rfl (Jq_move rfl rfl)) ?_
            refine DK_q (JO_qg rfl rfl rfl rfl (Jq_load_agg rfl rfl rfl (by decide) ty27 (by decide) (Nat.le_of_ble_eq_true rfl) rfl)) ?_
            refine DK_q (JO_qg rfl rfl rfl rfl (Jq_load_agg rfl rfl rfl (by decide) ty25 (by decide) (Nat.le_of_ble_eq_true rfl) rfl)) ?_
            refine DK_cg rfl rfl rfl rfl (Jd_call rfl fn17 rfl (icontains (qOf (mx x0.q y0.q)) (mx x0.q y0.q) (qOf_q _) (Br.use (by omega)) (qOf (mn x1.q y1.q)) (mn x1.q y1.q) (qOf_q _) (Br.use (by omega)) (qOf (atp n (mn x0.q y0.q) (mx x1.q y1.q))) (atp n (mn x0.q y0.q) (mx x1.q y1.q)) (qOf_q _) (Br.use (by omega)))) ?_
            refine DK_is false (meet_ct_b hB) ?_
            refine DK_q (JO_q rfl rfl (Jq_pick_t rfl rfl rfl)) ?_
            refine DK_q (JO_q rfl rfl (Jq_load_agg rfl rfl rfl (by decide) ty27 (by decide) (Nat.le_of_ble_eq_true rfl) rfl)) ?_
            refine DK_q (JO_q rfl rfl (Jq_load_agg rfl rfl rfl (by decide) ty25 (by decide) (Nat.le_of_ble_eq_true rfl) rfl)) ?_
            refine DK_c rfl rfl (Jd_call rfl fn17 rfl (icontains x0 (x0.q) rfl (hfx0.mono (by omega)) x1 (x1.q) rfl (hfx1.mono (by omega)) (qOf (atp n (mn x0.q y0.q) (mx x1.q y1.q))) (atp n (mn x0.q y0.q) (mx x1.q y1.q)) (qOf_q _) (Br.use (by omega)))) ?_
            refine DK_is true (hA) ?_
            refine DK_q (JO_q rfl rfl (Jq_move rfl rfl)) ?_
            refine DK_q (JO_qg rfl rfl rfl rfl (Jq_load_agg rfl rfl rfl (by decide) ty27 (by decide) (Nat.le_of_ble_eq_true rfl) rfl)) ?_
            refine DK_q (JO_qg rfl rfl rfl rfl (Jq_load_agg rfl rfl rfl (by decide) ty25 (by decide) (Nat.le_of_ble_eq_true rfl) rfl)) ?_
            refine DK_cg rfl rfl rfl rfl (Jd_call rfl fn17 rfl (icontains y0 (y0.q) rfl (hfy0.mono (by omega)) y1 (y1.q) rfl (hfy1.mono (by omega)) (qOf (atp n (mn x0.q y0.q) (mx x1.q y1.q))) (atp n (mn x0.q y0.q) (mx x1.q y1.q)) (qOf_q _) (Br.use (by omega)))) ?_
            refine DK_is false ((Bool.not_eq_true _).mp hB) ?_
            refine DK_q (JO_q rfl rfl (Jq_pick_t rfl rfl rfl)) ?_
            refine DK_q (JO_q rfl rfl (Jq_eql_bool rfl rfl rfl un4 (d := _) (rfl))) ?_
            refine DK_q (JO_q rfl rfl (Jq_assign rfl rfl)) ?_
            refine DK_nil ?_
            refine At_then ?_
            exact Tc_ret1 (fun _ _ h => h) rfl rfl rfl
        · skip
          refine Tc_free 2 ?_
          refine Tc_norm [(3, some (D.ptr 0 0)), (4, some (D.ptr 1 0)), (8, some (D.ptr 3 0)), (9, some (D.val (.int .i64 0))), (12, some (D.ptr 5 0))] [some ⟨27, [Leaf.val (.bool x0.neg), natL x0.n, natL x0.d, Leaf.val (.bool x1.neg), natL x1.n, natL x1.d], none, none⟩, some ⟨27, [Leaf.val (.bool y0.neg), natL y0.n, natL y0.d, Leaf.val (.bool y1.neg), natL y1.n, natL y1.d], none, none⟩, none, some ⟨27, [Leaf.val (.bool (cneg (mx x0.q y0.q))), natL (limbs (cnum (mx x0.q y0.q))), natL (limbs (cden (mx x0.q y0.q))), Leaf.val (.bool (cneg (mn x1.q y1.q))), natL (limbs (cnum (mn x1.q y1.q))), natL (limbs (cden (mn x1.q y1.q)))], none, none⟩, none, some ⟨25, [Leaf.val (.bool (cneg (atp n (mn x0.q y0.q) (mx x1.q y1.q)))), natL (limbs (cnum (atp n (mn x0.q y0.q) (mx x1.q y1.q)))), natL (limbs (cden (atp n (mn x0.q y0.q) (mx x1.q y1.q))))], none, none⟩] ⟨rfl, rfl, rfl, rfl, rfl, trivial⟩ rfl ?_
          refine Tc_drawK 0 [none, none, none, none, none, none, none, none, none, none, none, none, none, none, none, none, none] [] follows (by kernel_rfl) ?_
          refine DK_q (JO_q rfl rfl (Jq_move rfl rfl)) ?_
          refine DK_q (JO_q rfl rfl (Jq_eql rfl rfl rfl (b := true) (rfl))) ?_
          refine DK_q (JO_q rfl rfl (Jq_move rfl rfl)) ?_
          refine DK_q (JO_qg rfl rfl rfl rfl (Jq_load_agg rfl rfl rfl (by decide) ty27 (by decide) (Nat.le_of_ble_eq_true rfl) rfl)) ?_
          refine DK_q (JO_qg rfl rfl rfl rfl (Jq_load_agg rfl rfl rfl (by decide) ty25 (by decide) (Nat.le_of_ble_eq_true rfl) rfl)) ?_
          refine DK_cg rfl rfl rfl rfl (Jd_call rfl fn17 rfl (icontains (qOf (mx x0.q y0.q)) (mx x0.q y0.q) (qOf_q _) (Br.use (by omega)) (qOf (mn x1.q y1.q)) (mn x1.q y1.q) (qOf_q _) (Br.use (by omega)) (qOf (atp n (mn x0.q y0.q) (mx x1.q y1.q))) (atp n (mn x0.q y0.q) (mx x1.q y1.q)) (qOf_q _) (Br.use (by omega)))) ?_
          refine DK_is false (meet_ct_a hA) ?_
          refine DK_q (JO_q rfl rfl (Jq_pick_t rfl rfl rfl)) ?_
          refine DK_q (JO_q rfl rfl (Jq_load_agg rfl rfl rfl (by decide) ty27 (by decide) (Nat.le_of_ble_eq_true rfl) rfl)) ?_
          refine DK_q (JO_q rfl rfl (Jq_load_agg rfl rfl rfl (by decide) ty25 (by decide) (Nat.le_of_ble_eq_true rfl) rfl)) ?_
          refine DK_c rfl rfl (Jd_call rfl fn17 rfl (icontains x0 (x0.q) rfl (hfx0.mono (by omega)) x1 (x1.q) rfl (hfx1.mono (by omega)) (qOf (atp n (mn x0.q y0.q) (mx x1.q y1.q))) (atp n (mn x0.q y0.q) (mx x1.q y1.q)) (qOf_q _) (Br.use (by omega)))) ?_
          refine DK_is false ((Bool.not_eq_true _).mp hA) ?_
          refine DK_q (JO_q rfl rfl (Jq_move rfl rfl)) ?_
          refine DK_skip rfl rfl rfl ?_
          refine DK_skip rfl rfl rfl ?_
          refine DK_skip rfl rfl rfl ?_
          refine DK_q (JO_q rfl rfl (Jq_pick_f rfl rfl rfl)) ?_
          refine DK_q (JO_q rfl rfl (Jq_eql_bool rfl rfl rfl un4 (d := _) (rfl))) ?_
          refine DK_q (JO_q rfl rfl (Jq_assign rfl rfl)) ?_
          refine DK_nil ?_
          refine At_then ?_
          exact Tc_ret1 (fun _ _ h => h) rfl rfl rfl
      · skip
        refine Tc_norm [(2, some (D.val (.int .u8 (n : Int)))), (3, some (D.ptr 0 0)), (4, some (D.ptr 1 0)), (7, some (D.ptr 2 0))] [some ⟨27, [Leaf.val (.bool x0.neg), natL x0.n, natL x0.d, Leaf.val (.bool x1.neg), natL x1.n, natL x1.d], none, none⟩, some ⟨27, [Leaf.val (.bool y0.neg), natL y0.n, natL y0.d, Leaf.val (.bool y1.neg), natL y1.n, natL y1.d], none, none⟩, some ⟨27, [Leaf.val (.bool (cneg (mn x0.q y0.q))), natL (limbs (cnum (mn x0.q y0.q))), natL (limbs (cden (mn x0.q y0.q))), Leaf.val (.bool (cneg (mx x1.q y1.q))), natL (limbs (cnum (mx x1.q y1.q))), natL (limbs (cden (mx x1.q y1.q)))], none, none⟩] ⟨rfl, rfl, rfl, rfl, trivial⟩ rfl ?_
        refine Tc_region ?_
        refine Tl_q (JO_q rfl rfl (Jq_load_agg rfl rfl rfl (by decide) ty27 (by decide) (Nat.le_of_ble_eq_true rfl) rfl)) rfl ?_
        refine Tl_q (JO_q rfl rfl (Jq_load_agg rfl rfl rfl (by decide) ty27 (by decide) (Nat.le_of_ble_eq_true rfl) rfl)) rfl ?_
        refine Tl_e (JO_e rfl rfl (Je_call rfl fn22 rfl (imeet_bad x0 (x0.q) rfl (hfx0.mono (by omega)) x1 (x1.q) rfl (hfx1.mono (by omega)) y0 (y0.q) rfl (hfy0.mono (by omega)) y1 (y1.q) rfl (hfy1.mono (by omega)) (Rat.not_le.1 hm)))) rfl rfl ?_
        refine Tl_q (JO_q rfl rfl (Jq_move rfl rfl)) rfl ?_
        refine Tl_q (JO_q rfl rfl (Jq_extract rfl rfl rfl)) rfl ?_
        refine Tl_q (JO_q rfl rfl (Jq_extract rfl rfl rfl)) rfl ?_
        refine Tl_e (JO_e rfl rfl (Je_alloc (n := 3) rfl tz27 rfl)) rfl rfl ?_
        refine Tl_e (JO_e rfl rfl (Je_store rfl rfl rfl rfl ty27 rfl (by decide) (Nat.le_of_ble_eq_true rfl) rfl)) rfl rfl ?_
        refine Tl_q (JO_q rfl rfl (Jq_assign rfl rfl)) rfl ?_
        refine Tl_end ?_
        refine At_then ?_
        refine Tc_seq ?_
        refine Tc_norm [(2, some (D.val (.int .u8 (n : Int)))), (3, some (D.ptr 0 0)), (4, some (D.ptr 1 0)), (7, some (D.ptr 2 0)), (8, some (D.ptr 3 0)), (9, some (D.val (.int .i64 10)))] [some ⟨27, [Leaf.val (.bool x0.neg), natL x0.n, natL x0.d, Leaf.val (.bool x1.neg), natL x1.n, natL x1.d], none, none⟩, some ⟨27, [Leaf.val (.bool y0.neg), natL y0.n, natL y0.d, Leaf.val (.bool y1.neg), natL y1.n, natL y1.d], none, none⟩, some ⟨27, [Leaf.val (.bool (cneg (mn x0.q y0.q))), natL (limbs (cnum (mn x0.q y0.q))), natL (limbs (cden (mn x0.q y0.q))), Leaf.val (.bool (cneg (mx x1.q y1.q))), natL (limbs (cnum (mx x1.q y1.q))), natL (limbs (cden (mx x1.q y1.q)))], none, none⟩, some ⟨27, [Leaf.val (.bool false), natL ([]), natL ([]), Leaf.val (.bool false), natL ([]), natL ([])], none, none⟩] ⟨rfl, rfl, rfl, rfl, rfl, rfl, trivial⟩ rfl ?_
        refine Tc_region ?_
        refine Tl_q (JO_q rfl rfl (Jq_load_agg rfl rfl rfl (by decide) ty27 (by decide) (Nat.le_of_ble_eq_true rfl) rfl)) rfl ?_
        refine Tl_q (JO_q rfl rfl (Jq_load_agg rfl rfl rfl (by decide) ty27 (by decide) (Nat.le_of_ble_eq_true rfl) rfl)) rfl ?_
        refine Tl_e (JO_e rfl rfl (Je_call rfl fn23 rfl (rimeet_bad x0 (x0.q) rfl (hfx0.mono (by omega)) x1 (x1.q) rfl (hfx1.mono (by omega)) y0 (y0.q) rfl (hfy0.mono (by omega)) y1 (y1.q) rfl (hfy1.mono (by omega)) (Rat.not_le.1 hm)))) rfl rfl ?_
        refine Tl_q (JO_q rfl rfl (Jq_move rfl rfl)) rfl ?_
        refine Tl_q (JO_q rfl rfl (Jq_extract rfl rfl rfl)) rfl ?_
        refine Tl_q (JO_q rfl rfl (Jq_extract rfl rfl rfl)) rfl ?_
        refine Tl_e (JO_e rfl rfl (Je_alloc (n := 4) rfl tz27 rfl)) rfl rfl ?_
        refine Tl_e (JO_e rfl rfl (Je_store rfl rfl rfl rfl ty27 rfl (by decide) (Nat.le_of_ble_eq_true rfl) rfl)) rfl rfl ?_
        refine Tl_q (JO_q rfl rfl (Jq_assign rfl rfl)) rfl ?_
        refine Tl_end ?_
        refine At_then ?_
        refine Tc_seq ?_
        refine Tc_seq ?_
        refine Tc_norm [(2, some (D.val (.int .u8 (n : Int)))), (3, some (D.ptr 0 0)), (4, some (D.ptr 1 0)), (7, some (D.ptr 2 0)), (8, some (D.ptr 3 0)), (9, some (D.val (.int .i64 10))), (10, some (D.ptr 4 0)), (11, some (D.val (.int .i64 10)))] [some ⟨27, [Leaf.val (.bool x0.neg), natL x0.n, natL x0.d, Leaf.val (.bool x1.neg), natL x1.n, natL x1.d], none, none⟩, some ⟨27, [Leaf.val (.bool y0.neg), natL y0.n, natL y0.d, Leaf.val (.bool y1.neg), natL y1.n, natL y1.d], none, none⟩, some ⟨27, [Leaf.val (.bool (cneg (mn x0.q y0.q))), natL (limbs (cnum (mn x0.q y0.q))), natL (limbs (cden (mn x0.q y0.q))), Leaf.val (.bool (cneg (mx x1.q y1.q))), natL (limbs (cnum (mx x1.q y1.q))), natL (limbs (cden (mx x1.q y1.q)))], none, none⟩, some ⟨27, [Leaf.val (.bool false), natL ([]), natL ([]), Leaf.val (.bool false), natL ([]), natL ([])], none, none⟩, some ⟨27, [Leaf.val (.bool false), natL ([]), natL ([]), Leaf.val (.bool false), natL ([]), natL ([])], none, none⟩] ⟨rfl, rfl, rfl, rfl, rfl, rfl, rfl, rfl, trivial⟩ rfl ?_
        refine Tc_drawK 0 [none, none, none, none, none, none, none, none, none, none, none, none, none, none, none, none, none, none, none, none, none, none, none, none, none, none, none, none, none, none, none, none, none, none, none, none, none, none] [] follows (by kernel_rfl) ?_
        refine DK_q (JO_q rfl rfl (Jq_load_agg rfl rfl rfl (by decide) ty27 (by decide) (Nat.le_of_ble_eq_true rfl) rfl)) ?_
        refine DK_q (JO_q rfl rfl (Jq_load_agg rfl rfl rfl (by decide) ty27 (by decide) (Nat.le_of_ble_eq_true rfl) rfl)) ?_
        refine DK_q (JO_q rfl rfl (Jq_load_agg rfl rfl rfl (by decide) ty27 (by decide) (Nat.le_of_ble_eq_true rfl) rfl)) ?_
        refine DK_c rfl rfl (Jd_call rfl fn24 rfl (rijoin x0 (x0.q) rfl (hfx0.mono (by omega)) x1 (x1.q) rfl (hfx1.mono (by omega)) y0 (y0.q) rfl (hfy0.mono (by omega)) y1 (y1.q) rfl (hfy1.mono (by omega)))) ?_
        refine DK_c rfl rfl (Jd_call rfl fn13 rfl (risame (qOf (mn x0.q y0.q)) (qOf (mx x1.q y1.q)) (qOf (mn x0.q y0.q)) (qOf (mx x1.q y1.q)))) ?_
        refine DK_is true (sm rfl rfl) ?_
        refine DK_q (JO_q rfl rfl (Jq_not rfl rfl (c := false) rfl)) ?_
        refine DK_q (JO_q rfl rfl (Jq_move rfl rfl)) ?_
        refine DK_q (JO_qg rfl rfl rfl rfl (Jq_move rfl rfl)) ?_
        refine DK_q (JO_qg rfl rfl rfl rfl (Jq_move rfl rfl)) ?_
        refine DK_q (JO_qg rfl rfl rfl rfl (Jq_neq rfl rfl rfl (b := false) (rfl))) ?_
        refine DK_q (JO_q rfl rfl (Jq_pick_f rfl rfl rfl)) ?_
        refine DK_q (JO_q rfl rfl (Jq_move rfl rfl)) ?_
        refine DK_q (JO_qg rfl rfl rfl rfl (Jq_load_agg rfl rfl rfl (by decide) ty27 (by decide) (Nat.le_of_ble_eq_true rfl) rfl)) ?_
        refine DK_q (JO_qg rfl rfl rfl rfl (Jq_load_agg rfl rfl rfl (by decide) ty27 (by decide) (Nat.le_of_ble_eq_true rfl) rfl)) ?_
        refine DK_cg rfl rfl rfl rfl (Jd_call rfl fn13 rfl (risame qZero qZero qZero qZero)) ?_
        refine DK_is true (sm_self _ _) ?_
        refine DK_q (JO_qg rfl rfl rfl rfl (Jq_not rfl rfl (c := false) rfl)) ?_
        refine DK_q (JO_q rfl rfl (Jq_pick_f rfl rfl rfl)) ?_
        refine DK_q (JO_q rfl rfl (Jq_move rfl rfl)) ?_
        refine DK_q (JO_qg rfl rfl rfl rfl (Jq_load_agg rfl rfl rfl (by decide) ty27 (by decide) (Nat.le_of_ble_eq_true rfl) rfl)) ?_
        refine DK_q (JO_qg rfl rfl rfl rfl (Jq_load_agg rfl rfl rfl (by decide) ty27 (by decide) (Nat.le_of_ble_eq_true rfl) rfl)) ?_
        refine DK_cg rfl rfl rfl rfl (Jd_call rfl fn25 rfl (iwithin x0 (x0.q) rfl (hfx0.mono (by omega)) x1 (x1.q) rfl (hfx1.mono (by omega)) y0 (y0.q) rfl (hfy0.mono (by omega)) y1 (y1.q) rfl (hfy1.mono (by omega)))) ?_
        refine DK_q (JO_qg rfl rfl rfl rfl (Jq_load_agg rfl rfl rfl (by decide) ty27 (by decide) (Nat.le_of_ble_eq_true rfl) rfl)) ?_
        refine DK_q (JO_qg rfl rfl rfl rfl (Jq_load_agg rfl rfl rfl (by decide) ty27 (by decide) (Nat.le_of_ble_eq_true rfl) rfl)) ?_
        refine DK_cg rfl rfl rfl rfl (Jd_call rfl fn26 rfl (riwithin x0 (x0.q) rfl (hfx0.mono (by omega)) x1 (x1.q) rfl (hfx1.mono (by omega)) y0 (y0.q) rfl (hfy0.mono (by omega)) y1 (y1.q) rfl (hfy1.mono (by omega)))) ?_
        refine DK_q (JO_qg rfl rfl rfl rfl (Jq_neq_bool rfl rfl rfl un4 (d := _) (rfl))) ?_
        refine DK_is false (by simp) ?_
        refine DK_q (JO_q rfl rfl (Jq_pick_f rfl rfl rfl)) ?_
        refine DK_q (JO_q rfl rfl (Jq_move rfl rfl)) ?_
        refine DK_q (JO_qg rfl rfl rfl rfl (Jq_load_agg rfl rfl rfl (by decide) ty27 (by decide) (Nat.le_of_ble_eq_true rfl) rfl)) ?_
        refine DK_q (JO_qg rfl rfl rfl rfl (Jq_load_agg rfl rfl rfl (by decide) ty27 (by decide) (Nat.le_of_ble_eq_true rfl) rfl)) ?_
        refine DK_cg rfl rfl rfl rfl (Jd_call rfl fn25 rfl (iwithin x0 (x0.q) rfl (hfx0.mono (by omega)) x1 (x1.q) rfl (hfx1.mono (by omega)) (qOf (mn x0.q y0.q)) (mn x0.q y0.q) (qOf_q _) (Br.use (by omega)) (qOf (mx x1.q y1.q)) (mx x1.q y1.q) (qOf_q _) (Br.use (by omega)))) ?_
        refine DK_is true (wt (mn_le_l _ _) (le_mx_l _ _)) ?_
        refine DK_q (JO_qg rfl rfl rfl rfl (Jq_not rfl rfl (c := false) rfl)) ?_
        refine DK_q (JO_q rfl rfl (Jq_pick_f rfl rfl rfl)) ?_
        refine DK_q (JO_q rfl rfl (Jq_move rfl rfl)) ?_
        refine DK_q (JO_qg rfl rfl rfl rfl (Jq_load_agg rfl rfl rfl (by decide) ty27 (by decide) (Nat.le_of_ble_eq_true rfl) rfl)) ?_
        refine DK_q (JO_qg rfl rfl rfl rfl (Jq_load_agg rfl rfl rfl (by decide) ty27 (by decide) (Nat.le_of_ble_eq_true rfl) rfl)) ?_
        refine DK_cg rfl rfl rfl rfl (Jd_call rfl fn25 rfl (iwithin y0 (y0.q) rfl (hfy0.mono (by omega)) y1 (y1.q) rfl (hfy1.mono (by omega)) (qOf (mn x0.q y0.q)) (mn x0.q y0.q) (qOf_q _) (Br.use (by omega)) (qOf (mx x1.q y1.q)) (mx x1.q y1.q) (qOf_q _) (Br.use (by omega)))) ?_
        refine DK_is true (wt (mn_le_r _ _) (le_mx_r _ _)) ?_
        refine DK_q (JO_qg rfl rfl rfl rfl (Jq_not rfl rfl (c := false) rfl)) ?_
        refine DK_q (JO_q rfl rfl (Jq_pick_f rfl rfl rfl)) ?_
        refine DK_nil ?_
        refine At_then ?_
        refine Tc_f rfl ?_
        refine Tc_skipA ?_
        refine At_then ?_
        refine Tc_seq ?_
        refine Tc_free 4 ?_
        refine Tc_norm [(2, some (D.val (.int .u8 (n : Int)))), (3, some (D.ptr 0 0)), (4, some (D.ptr 1 0)), (7, some (D.ptr 2 0)), (8, some (D.ptr 3 0)), (9, some (D.val (.int .i64 10)))] [some ⟨27, [Leaf.val (.bool x0.neg), natL x0.n, natL x0.d, Leaf.val (.bool x1.neg), natL x1.n, natL x1.d], none, none⟩, some ⟨27, [Leaf.val (.bool y0.neg), natL y0.n, natL y0.d, Leaf.val (.bool y1.neg), natL y1.n, natL y1.d], none, none⟩, some ⟨27, [Leaf.val (.bool (cneg (mn x0.q y0.q))), natL (limbs (cnum (mn x0.q y0.q))), natL (limbs (cden (mn x0.q y0.q))), Leaf.val (.bool (cneg (mx x1.q y1.q))), natL (limbs (cnum (mx x1.q y1.q))), natL (limbs (cden (mx x1.q y1.q)))], none, none⟩, some ⟨27, [Leaf.val (.bool false), natL ([]), natL ([]), Leaf.val (.bool false), natL ([]), natL ([])], none, none⟩, none] ⟨rfl, rfl, rfl, rfl, rfl, rfl, trivial⟩ rfl ?_
        refine Tc_region ?_
        refine Tl_q (JO_q rfl rfl (Jq_load_agg rfl rfl rfl (by decide) ty27 (by decide) (Nat.le_of_ble_eq_true rfl) rfl)) rfl ?_
        refine Tl_q (JO_q rfl rfl (Jq_move rfl rfl)) rfl ?_
        refine Tl_e (JO_e rfl rfl (Je_call rfl fn16 rfl (l6at (qOf (mn x0.q y0.q)) (mn x0.q y0.q) (qOf_q _) (Br.use (by omega)) (qOf (mx x1.q y1.q)) (mx x1.q y1.q) (qOf_q _) (Br.use (by omega)) n (by omega)))) rfl rfl ?_
        refine Tl_e (JO_e rfl rfl (Je_alloc (n := 5) rfl tz25 rfl)) rfl rfl ?_
        refine Tl_e (JO_e rfl rfl (Je_store rfl rfl rfl rfl ty25 rfl (by decide) (Nat.le_of_ble_eq_true rfl) rfl)) rfl rfl ?_
        refine Tl_end ?_
        refine At_then ?_
        refine Tc_seq ?_
        by_cases hA : (decide (cmpq x0.q (atp n (mn x0.q y0.q) (mx x1.q y1.q)) ≤ 0) && decide (cmpq (atp n (mn x0.q y0.q) (mx x1.q y1.q)) x1.q ≤ 0)) = true
        · skip
          by_cases hB : (decide (cmpq y0.q (atp n (mn x0.q y0.q) (mx x1.q y1.q)) ≤ 0) && decide (cmpq (atp n (mn x0.q y0.q) (mx x1.q y1.q)) y1.q ≤ 0)) = true
          · skip
            refine Tc_drawK 0 [none, none, none, none, none, none, none, none, none, none, none, none, none, none, none, none, none] [] follows (by kernel_rfl) ?_
            refine DK_q (JO_q rfl rfl (Jq_move rfl rfl)) ?_
            refine DK_q (JO_q rfl rfl (Jq_eql rfl rfl rfl (b := false) (rfl))) ?_
            refine DK_q (JO_q rfl rfl (Jq_move rfl rfl)) ?_
            refine DK_skip rfl rfl rfl ?_
            refine DK_skip rfl rfl rfl ?_
            refine DK_skip rfl rfl rfl ?_
            refine DK_q (JO_q rfl rfl (Jq_pick_f rfl rfl rfl)) ?_
            refine DK_q (JO_q rfl rfl (Jq_load_agg rfl rfl rfl (by decide) ty27 (by decide) (Nat.le_of_ble_eq_true rfl) rfl)) ?_
            refine DK_q (JO_q rfl rfl (Jq_load_agg rfl rfl rfl (by decide) ty25 (by decide) (Nat.le_of_ble_eq_true rfl) rfl)) ?_
            refine DK_c rfl rfl (Jd_call rfl fn17 rfl (icontains x0 (x0.q) rfl (hfx0.mono (by omega)) x1 (x1.q) rfl (hfx1.mono (by omega)) (qOf (atp n (mn x0.q y0.q) (mx x1.q y1.q))) (atp n (mn x0.q y0.q) (mx x1.q y1.q)) (qOf_q _) (Br.use (by omega)))) ?_
            refine DK_is true (hA) ?_
            refine DK_q (JO_q rfl rfl (Jq_move rfl rfl)) ?_
            exact absurd (meet_no hA hB) hm
          · skip
            refine Tc_free 2 ?_
            refine Tc_norm [(3, some (D.ptr 0 0)), (4, some (D.ptr 1 0)), (8, some (D.ptr 3 0)), (9, some (D.val (.int .i64 10))), (12, some (D.ptr 5 0))] [some ⟨27, [Leaf.val (.bool x0.neg), natL x0.n, natL x0.d, Leaf.val (.bool x1.neg), natL x1.n, natL x1.d], none, none⟩, some ⟨27, [Leaf.val (.bool y0.neg), natL y0.n, natL y0.d, Leaf.val (.bool y1.neg), natL y1.n, natL y1.d], none, none⟩, none, some ⟨27, [Leaf.val (.bool false), natL ([]), natL ([]), Leaf.val (.bool false), natL ([]), natL ([])], none, none⟩, none, some ⟨25, [Leaf.val (.bool (cneg (atp n (mn x0.q y0.q) (mx x1.q y1.q)))), natL (limbs (cnum (atp n (mn x0.q y0.q) (mx x1.q y1.q)))), natL (limbs (cden (atp n (mn x0.q y0.q) (mx x1.q y1.q))))], none, none⟩] ⟨rfl, rfl, rfl, rfl, rfl, trivial⟩ rfl ?_
            refine Tc_drawK 0 [none, none, none, none, none, none, none, none, none, none, none, none, none, none, none, none, none] [] follows (by kernel_rfl) ?_
            refine DK_q (JO_q rfl rfl (Jq_move rfl rfl)) ?_
            refine DK_q (JO_q rfl rfl (Jq_eql rfl rfl rfl (b := false) (rfl))) ?_
            refine DK_q (JO_q rfl rfl (Jq_move rfl rfl)) ?_
            refine DK_skip rfl rfl rfl ?_
            refine DK_skip rfl rfl rfl ?_
            refine DK_skip rfl rfl rfl ?_
            refine DK_q (JO_q rfl rfl (Jq_pick_f rfl rfl rfl)) ?_
            refine DK_q (JO_q rfl rfl (Jq_load_agg rfl rfl rfl (by decide) ty27 (by decide) (Nat.le_of_ble_eq_true rfl) rfl)) ?_
            refine DK_q (JO_q rfl rfl (Jq_load_agg rfl rfl rfl (by decide) ty25 (by decide) (Nat.le_of_ble_eq_true rfl) rfl)) ?_
            refine DK_c rfl rfl (Jd_call rfl fn17 rfl (icontains x0 (x0.q) rfl (hfx0.mono (by omega)) x1 (x1.q) rfl (hfx1.mono (by omega)) (qOf (atp n (mn x0.q y0.q) (mx x1.q y1.q))) (atp n (mn x0.q y0.q) (mx x1.q y1.q)) (qOf_q _) (Br.use (by omega)))) ?_
            refine DK_is true (hA) ?_
            refine DK_q (JO_q rfl rfl (Jq_move rfl rfl)) ?_
            refine DK_q (JO_qg rfl rfl rfl rfl (Jq_load_agg rfl rfl rfl (by decide) ty27 (by decide) (Nat.le_of_ble_eq_true rfl) rfl)) ?_
            refine DK_q (JO_qg rfl rfl rfl rfl (Jq_load_agg rfl rfl rfl (by decide) ty25 (by decide) (Nat.le_of_ble_eq_true rfl) rfl)) ?_
            refine DK_cg rfl rfl rfl rfl (Jd_call rfl fn17 rfl (icontains y0 (y0.q) rfl (hfy0.mono (by omega)) y1 (y1.q) rfl (hfy1.mono (by omega)) (qOf (atp n (mn x0.q y0.q) (mx x1.q y1.q))) (atp n (mn x0.q y0.q) (mx x1.q y1.q)) (qOf_q _) (Br.use (by omega)))) ?_
            refine DK_is false ((Bool.not_eq_true _).mp hB) ?_
            refine DK_q (JO_q rfl rfl (Jq_pick_t rfl rfl rfl)) ?_
            refine DK_q (JO_q rfl rfl (Jq_eql_bool rfl rfl rfl un4 (d := _) (rfl))) ?_
            refine DK_q (JO_q rfl rfl (Jq_assign rfl rfl)) ?_
            refine DK_nil ?_
            refine At_then ?_
            exact Tc_ret1 (fun _ _ h => h) rfl rfl rfl
        · skip
          refine Tc_free 2 ?_
          refine Tc_norm [(3, some (D.ptr 0 0)), (4, some (D.ptr 1 0)), (8, some (D.ptr 3 0)), (9, some (D.val (.int .i64 10))), (12, some (D.ptr 5 0))] [some ⟨27, [Leaf.val (.bool x0.neg), natL x0.n, natL x0.d, Leaf.val (.bool x1.neg), natL x1.n, natL x1.d], none, none⟩, some ⟨27, [Leaf.val (.bool y0.neg), natL y0.n, natL y0.d, Leaf.val (.bool y1.neg), natL y1.n, natL y1.d], none, none⟩, none, some ⟨27, [Leaf.val (.bool false), natL ([]), natL ([]), Leaf.val (.bool false), natL ([]), natL ([])], none, none⟩, none, some ⟨25, [Leaf.val (.bool (cneg (atp n (mn x0.q y0.q) (mx x1.q y1.q)))), natL (limbs (cnum (atp n (mn x0.q y0.q) (mx x1.q y1.q)))), natL (limbs (cden (atp n (mn x0.q y0.q) (mx x1.q y1.q))))], none, none⟩] ⟨rfl, rfl, rfl, rfl, rfl, trivial⟩ rfl ?_
          refine Tc_drawK 0 [none, none, none, none, none, none, none, none, none, none, none, none, none, none, none, none, none] [] follows (by kernel_rfl) ?_
          refine DK_q (JO_q rfl rfl (Jq_move rfl rfl)) ?_
          refine DK_q (JO_q rfl rfl (Jq_eql rfl rfl rfl (b := false) (rfl))) ?_
          refine DK_q (JO_q rfl rfl (Jq_move rfl rfl)) ?_
          refine DK_skip rfl rfl rfl ?_
          refine DK_skip rfl rfl rfl ?_
          refine DK_skip rfl rfl rfl ?_
          refine DK_q (JO_q rfl rfl (Jq_pick_f rfl rfl rfl)) ?_
          refine DK_q (JO_q rfl rfl (Jq_load_agg rfl rfl rfl (by decide) ty27 (by decide) (Nat.le_of_ble_eq_true rfl) rfl)) ?_
          refine DK_q (JO_q rfl rfl (Jq_load_agg rfl rfl rfl (by decide) ty25 (by decide) (Nat.le_of_ble_eq_true rfl) rfl)) ?_
          refine DK_c rfl rfl (Jd_call rfl fn17 rfl (icontains x0 (x0.q) rfl (hfx0.mono (by omega)) x1 (x1.q) rfl (hfx1.mono (by omega)) (qOf (atp n (mn x0.q y0.q) (mx x1.q y1.q))) (atp n (mn x0.q y0.q) (mx x1.q y1.q)) (qOf_q _) (Br.use (by omega)))) ?_
          refine DK_is false ((Bool.not_eq_true _).mp hA) ?_
          refine DK_q (JO_q rfl rfl (Jq_move rfl rfl)) ?_
          refine DK_skip rfl rfl rfl ?_
          refine DK_skip rfl rfl rfl ?_
          refine DK_skip rfl rfl rfl ?_
          refine DK_q (JO_q rfl rfl (Jq_pick_f rfl rfl rfl)) ?_
          refine DK_q (JO_q rfl rfl (Jq_eql_bool rfl rfl rfl un4 (d := _) (rfl))) ?_
          refine DK_q (JO_q rfl rfl (Jq_assign rfl rfl)) ?_
          refine DK_nil ?_
          refine At_then ?_
          exact Tc_ret1 (fun _ _ h => h) rfl rfl rfl
  · skip
    refine Tl_q (JO_skip rfl rfl rfl) rfl ?_
    refine Tl_q (JO_skip rfl rfl rfl) rfl ?_
    refine Tl_q (JO_skip rfl rfl rfl) rfl ?_
    refine Tl_q (JO_q rfl rfl (Jq_pick_t rfl rfl rfl)) rfl ?_
    refine Tl_end ?_
    refine At_then ?_
    refine Tc_t rfl ?_
    refine Tc_seq ?_
    refine Tc_region ?_
    refine Tl_q (JO_q rfl rfl (Jq_assign rfl rfl)) rfl ?_
    refine Tl_end ?_
    refine At_then ?_
    exact Tc_ret1 (fun _ _ h => h) rfl rfl rfl

end Go.Proofs.Ytpabkdpijcbkgaa
