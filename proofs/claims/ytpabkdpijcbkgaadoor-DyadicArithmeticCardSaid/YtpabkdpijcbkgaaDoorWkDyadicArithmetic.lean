/- Walk: a law of chapter 5. -/
import Derived.Test.YtpabkdpijcbkgaaDoorWkP
import Derived.Test.YtpabkdpijcbkgaaDoorLaw5
import Derived.Test.YtpabkdpijcbkgaaDoorFactsB
set_option linter.unusedSimpArgs false
set_option linter.unusedVariables false
namespace Go.Proofs.YtpabkdpijcbkgaaDoor
open Go Go.RowKit Rc


set_option maxRecDepth 10000 in
set_option maxHeartbeats 2000000 in
theorem law_arith_b (s : Bool) (l : List Nat) (e : Int) (hs : Small l) (t : Bool) (m : List Nat) (f : Int) (hm : Small m) (hN : ¬ (smallD s l e = true ∧ smallD t m f = true)) : Ctr Tryd.prog 8 [V.agg [Leaf.val (.bool s), natL l, Leaf.val (.int .i64 e)], V.agg [Leaf.val (.bool t), natL m, Leaf.val (.int .i64 f)]] (R.one (V.one (Leaf.val (.bool (true))))) := by
  refine Ctr.of_body Tryd.func8 rfl Tryd.ntmps8 (Nat.le_of_ble_eq_true rfl) (fun w0 A0 => ?_)
  refine Tc_seq ?_
  refine Tc_region ?_
  refine Tl_e (JO_e rfl rfl (Je_box (n := 0) rfl rfl rfl)) rfl rfl ?_
  refine Tl_e (JO_e rfl rfl (Je_box (n := 1) rfl rfl rfl)) rfl rfl ?_
  refine Tl_q (JO_q rfl rfl (Jq_assign rfl rfl)) rfl ?_
  refine Tl_end ?_
  refine At_then ?_
  refine Tc_seq ?_
  refine Tc_seq ?_
  refine Tc_region ?_
  refine Tl_e (JO_e rfl rfl (Je_call rfl fn10 rfl (l5awake))) rfl rfl ?_
  refine Tl_q (JO_q rfl rfl (Jq_not rfl rfl (c := false) rfl)) rfl ?_
  refine Tl_end ?_
  refine At_then ?_
  refine Tc_f rfl ?_
  refine Tc_skipA ?_
  refine At_then ?_
  refine Tc_seq ?_
  refine Tc_seq ?_
  by_cases v1 : smallD s l e = true
  · skip
    refine Tc_region ?_
    refine Tl_q (JO_q rfl rfl (Jq_load_agg rfl rfl rfl (by decide) ty29 (by decide) (Nat.le_of_ble_eq_true rfl) rfl)) rfl ?_
    refine Tl_e (JO_e rfl rfl (Je_call rfl fn33 rfl (l5small s l e hs))) rfl rfl ?_
    refine Tl_is true (v1) ?_
    refine Tl_q (JO_q rfl rfl (Jq_not rfl rfl (c := false) rfl)) rfl ?_
    refine Tl_q (JO_q rfl rfl (Jq_move rfl rfl)) rfl ?_
    refine Tl_q (JO_qg rfl rfl rfl rfl (Jq_load_agg rfl rfl rfl (by decide) ty29 (by decide) (Nat.le_of_ble_eq_true rfl) rfl)) rfl ?_
    refine Tl_e (JO_eg rfl rfl rfl rfl (Je_call rfl fn33 rfl (l5small t m f hm))) rfl rfl ?_
    refine Tl_is false (by cases h : smallD t m f <;> simp_all) ?_
    refine Tl_q (JO_qg rfl rfl rfl rfl (Jq_not rfl rfl (c := true) rfl)) rfl ?_
    refine Tl_q (JO_q rfl rfl (Jq_pick_f rfl rfl rfl)) rfl ?_
    refine Tl_end ?_
    refine At_then ?_
    refine Tc_t rfl ?_
    refine Tc_seq ?_
    refine Tc_region ?_
    refine Tl_q (JO_q rfl rfl (Jq_assign rfl rfl)) rfl ?_
    refine Tl_end ?_
    refine At_then ?_
    exact Tc_ret1 (fun _ _ h => h) rfl rfl rfl
  · skip
    refine Tc_norm [(2, some (D.ptr 0 0)), (3, some (D.ptr 1 0))] [some ⟨29, [Leaf.val (.bool s), natL l, Leaf.val (.int .i64 e)], none, none⟩, some ⟨29, [Leaf.val (.bool t), natL m, Leaf.val (.int .i64 f)], none, none⟩] ⟨rfl, rfl, trivial⟩ rfl ?_
    refine Tc_region ?_
    refine Tl_q (JO_q rfl rfl (Jq_load_agg rfl rfl rfl (by decide) ty29 (by decide) (Nat.le_of_ble_eq_true rfl) rfl)) rfl ?_
    refine Tl_e (JO_e rfl rfl (Je_call rfl fn33 rfl (l5small s l e hs))) rfl rfl ?_
    refine Tl_is false ((by simpa using v1)) ?_
    refine Tl_q (JO_q rfl rfl (Jq_not rfl rfl (c := true) rfl)) rfl ?_
    refine Tl_q (JO_q rfl rfl (Jq_move rfl rfl)) rfl ?_
    refine Tl_q (JO_skip rfl rfl rfl) rfl ?_
    refine Tl_q (JO_skip rfl rfl rfl) rfl ?_
    refine Tl_q (JO_skip rfl rfl rfl) rfl ?_
    refine Tl_q (JO_q rfl rfl (Jq_pick_t rfl rfl rfl)) rfl ?_
    refine Tl_end ?_
    refine At_then ?_
    refine Tc_t rfl ?_
    refine Tc_seq ?_
    refine Tc_region ?_
    refine Tl_q (JO_q rfl rfl (Jq_assign rfl rfl)) rfl ?_
    refine Tl_end ?_
    refine At_then ?_
    exact Tc_ret1 (fun _ _ h => h) rfl rfl rfl

set_option maxRecDepth 10000 in
set_option maxHeartbeats 2000000 in
theorem law_arith_s (a b : Dy) (v1 : smallD a.neg (limbs a.mag) a.exp = true) (v2 : smallD b.neg (limbs b.mag) b.exp = true) : Ctr Tryd.prog 8 [dV a, dV b] (R.one (V.one (Leaf.val (.bool (true))))) := by
  refine Ctr.of_body Tryd.func8 rfl Tryd.ntmps8 (Nat.le_of_ble_eq_true rfl) (fun w0 A0 => ?_)
  obtain ⟨_, _, n1, p1, q1⟩ := smallD_facts v1
  obtain ⟨_, _, n2, p2, q2⟩ := smallD_facts v2
  have hm := mul_small n1 n2 p1 q1 p2 q2
  haveI ia : Bd a 3 := ⟨⟨n1, by omega, by omega⟩⟩
  haveI ib : Bd b 3 := ⟨⟨n2, by omega, by omega⟩⟩
  refine Tc_seq ?_
  refine Tc_region ?_
  refine Tl_e (JO_e rfl rfl (Je_box (n := 0) rfl rfl rfl)) rfl rfl ?_
  refine Tl_e (JO_e rfl rfl (Je_box (n := 1) rfl rfl rfl)) rfl rfl ?_
  refine Tl_q (JO_q rfl rfl (Jq_assign rfl rfl)) rfl ?_
  refine Tl_end ?_
  refine At_then ?_
  refine Tc_seq ?_
  refine Tc_seq ?_
  refine Tc_region ?_
  refine Tl_e (JO_e rfl rfl (Je_call rfl fn10 rfl (l5awake))) rfl rfl ?_
  refine Tl_q (JO_q rfl rfl (Jq_not rfl rfl (c := false) rfl)) rfl ?_
  refine Tl_end ?_
  refine At_then ?_
  refine Tc_f rfl ?_
  refine Tc_skipA ?_
  refine At_then ?_
  refine Tc_seq ?_
  refine Tc_seq ?_
  refine Tc_region ?_
  refine Tl_q (JO_q rfl rfl (Jq_load_agg rfl rfl rfl (by decide) ty29 (by decide) (Nat.le_of_ble_eq_true rfl) rfl)) rfl ?_
  refine Tl_e (JO_e rfl rfl (Je_call rfl fn33 rfl (l5small a.neg (limbs (a.mag)) a.exp (small_limbs _)))) rfl rfl ?_
  refine Tl_is true (v1) ?_
  refine Tl_q (JO_q rfl rfl (Jq_not rfl rfl (c := false) rfl)) rfl ?_
  refine Tl_q (JO_q rfl rfl (Jq_move rfl rfl)) rfl ?_
  refine Tl_q (JO_qg rfl rfl rfl rfl (Jq_load_agg rfl rfl rfl (by decide) ty29 (by decide) (Nat.le_of_ble_eq_true rfl) rfl)) rfl ?_
  refine Tl_e (JO_eg rfl rfl rfl rfl (Je_call rfl fn33 rfl (l5small b.neg (limbs (b.mag)) b.exp (small_limbs _)))) rfl rfl ?_
  refine Tl_is true (v2) ?_
  refine Tl_q (JO_qg rfl rfl rfl rfl (Jq_not rfl rfl (c := false) rfl)) rfl ?_
  refine Tl_q (JO_q rfl rfl (Jq_pick_f rfl rfl rfl)) rfl ?_
  refine Tl_end ?_
  refine At_then ?_
  refine Tc_f rfl ?_
  refine Tc_skipA ?_
  refine At_then ?_
  refine Tc_seq ?_
  refine Tc_norm [(2, some (D.ptr 0 0)), (3, some (D.ptr 1 0))] [some ⟨29, [Leaf.val (.bool a.neg), natL (limbs (a.mag)), Leaf.val (.int .i64 a.exp)], none, none⟩, some ⟨29, [Leaf.val (.bool b.neg), natL (limbs (b.mag)), Leaf.val (.int .i64 b.exp)], none, none⟩] ⟨rfl, rfl, trivial⟩ rfl ?_
  refine Tc_region ?_
  refine Tl_q (JO_q rfl rfl (Jq_load_agg rfl rfl rfl (by decide) ty29 (by decide) (Nat.le_of_ble_eq_true rfl) rfl)) rfl ?_
  refine Tl_q (JO_q rfl rfl (Jq_load_agg rfl rfl rfl (by decide) ty29 (by decide) (Nat.le_of_ble_eq_true rfl) rfl)) rfl ?_
  refine Tl_e (JO_e rfl rfl (Je_call rfl fn35 rfl (dadd a b (Bd.use (by omega)) (Bd.use (by omega))))) rfl rfl ?_
  refine Tl_q (JO_q rfl rfl (Jq_move rfl rfl)) rfl ?_
  refine Tl_q (JO_q rfl rfl (Jq_extract rfl rfl rfl)) rfl ?_
  refine Tl_q (JO_q rfl rfl (Jq_extract rfl rfl rfl)) rfl ?_
  refine Tl_e (JO_e rfl rfl (Je_alloc (n := 2) rfl tz29 rfl)) rfl rfl ?_
  refine Tl_e (JO_e rfl rfl (Je_store rfl rfl rfl rfl ty29 rfl (by decide) (Nat.le_of_ble_eq_true rfl) rfl)) rfl rfl ?_
  refine Tl_q (JO_q rfl rfl (Jq_assign rfl rfl)) rfl ?_
  refine Tl_end ?_
  refine At_then ?_
  refine Tc_seq ?_
  refine Tc_norm [(2, some (D.ptr 0 0)), (3, some (D.ptr 1 0)), (5, some (D.ptr 2 0)), (6, some (D.val (.int .i64 (eOf (addOk a b)))))] [some ⟨29, [Leaf.val (.bool a.neg), natL (limbs (a.mag)), Leaf.val (.int .i64 a.exp)], none, none⟩, some ⟨29, [Leaf.val (.bool b.neg), natL (limbs (b.mag)), Leaf.val (.int .i64 b.exp)], none, none⟩, some ⟨29, [Leaf.val (.bool ((addD a b).neg)), natL (limbs ((addD a b).mag)), Leaf.val (.int .i64 ((addD a b).exp))], none, none⟩] ⟨rfl, rfl, rfl, rfl, trivial⟩ rfl ?_
  refine Tc_region ?_
  refine Tl_q (JO_q rfl rfl (Jq_load_agg rfl rfl rfl (by decide) ty29 (by decide) (Nat.le_of_ble_eq_true rfl) rfl)) rfl ?_
  refine Tl_q (JO_q rfl rfl (Jq_load_agg rfl rfl rfl (by decide) ty29 (by decide) (Nat.le_of_ble_eq_true rfl) rfl)) rfl ?_
  refine Tl_e (JO_e rfl rfl (Je_call rfl fn36 rfl (dmul a b (Bd.use (by omega)) (Bd.use (by omega))))) rfl rfl ?_
  refine Tl_q (JO_q rfl rfl (Jq_move rfl rfl)) rfl ?_
  refine Tl_q (JO_q rfl rfl (Jq_extract rfl rfl rfl)) rfl ?_
  refine Tl_q (JO_q rfl rfl (Jq_extract rfl rfl rfl)) rfl ?_
  refine Tl_e (JO_e rfl rfl (Je_alloc (n := 3) rfl tz29 rfl)) rfl rfl ?_
  refine Tl_e (JO_e rfl rfl (Je_store rfl rfl rfl rfl ty29 rfl (by decide) (Nat.le_of_ble_eq_true rfl) rfl)) rfl rfl ?_
  refine Tl_q (JO_q rfl rfl (Jq_assign rfl rfl)) rfl ?_
  refine Tl_end ?_
  refine At_then ?_
  refine Tc_seq ?_
  refine Tc_norm [(2, some (D.ptr 0 0)), (3, some (D.ptr 1 0)), (5, some (D.ptr 2 0)), (6, some (D.val (.int .i64 (eOf (addOk a b))))), (7, some (D.ptr 3 0)), (8, some (D.val (.int .i64 (eOf (mulOk a b)))))] [some ⟨29, [Leaf.val (.bool a.neg), natL (limbs (a.mag)), Leaf.val (.int .i64 a.exp)], none, none⟩, some ⟨29, [Leaf.val (.bool b.neg), natL (limbs (b.mag)), Leaf.val (.int .i64 b.exp)], none, none⟩, some ⟨29, [Leaf.val (.bool ((addD a b).neg)), natL (limbs ((addD a b).mag)), Leaf.val (.int .i64 ((addD a b).exp))], none, none⟩, some ⟨29, [Leaf.val (.bool ((mulD a b).neg)), natL (limbs ((mulD a b).mag)), Leaf.val (.int .i64 ((mulD a b).exp))], none, none⟩] ⟨rfl, rfl, rfl, rfl, rfl, rfl, trivial⟩ rfl ?_
  refine Tc_drawK 2 [none, none, none, none, some 4, some 5, some 4, some 5] [4, 5] follows (by kernel_rfl) ?_
  refine DK_q (JO_q rfl rfl (Jq_load_agg rfl rfl rfl (by decide) ty29 (by decide) (Nat.le_of_ble_eq_true rfl) rfl)) ?_
  refine DK_c rfl rfl (Jd_call rfl fn21 rfl (rdrat a (Bd.use (by omega)))) ?_
  refine DK_q (JO_q rfl rfl (Jq_load_agg rfl rfl rfl (by decide) ty29 (by decide) (Nat.le_of_ble_eq_true rfl) rfl)) ?_
  refine DK_c rfl rfl (Jd_call rfl fn21 rfl (rdrat b (Bd.use (by omega)))) ?_
  refine DK_s 4 rfl rfl rfl (Jd_alloc (i := 4) rfl tz25 rfl) ?_
  refine DK_s 5 rfl rfl rfl (Jd_alloc (i := 5) rfl tz25 rfl) ?_
  refine DK_s 4 rfl rfl rfl (Jd_store rfl rfl rfl rfl ty25 rfl (by decide) (Nat.le_of_ble_eq_true rfl) rfl) ?_
  refine DK_s 5 rfl rfl rfl (Jd_store rfl rfl rfl rfl ty25 rfl (by decide) (Nat.le_of_ble_eq_true rfl) rfl) ?_
  refine DK_nil ?_
  refine At_then ?_
  refine Tc_seq ?_
  refine Tc_seq ?_
  refine Tc_norm [(2, some (D.ptr 0 0)), (3, some (D.ptr 1 0)), (5, some (D.ptr 2 0)), (6, some (D.val (.int .i64 (eOf (addOk a b))))), (7, some (D.ptr 3 0)), (8, some (D.val (.int .i64 (eOf (mulOk a b))))), (9, some (D.ptr 4 0)), (10, some (D.ptr 5 0))] [some ⟨29, [Leaf.val (.bool a.neg), natL (limbs (a.mag)), Leaf.val (.int .i64 a.exp)], none, none⟩, some ⟨29, [Leaf.val (.bool b.neg), natL (limbs (b.mag)), Leaf.val (.int .i64 b.exp)], none, none⟩, some ⟨29, [Leaf.val (.bool ((addD a b).neg)), natL (limbs ((addD a b).mag)), Leaf.val (.int .i64 ((addD a b).exp))], none, none⟩, some ⟨29, [Leaf.val (.bool ((mulD a b).neg)), natL (limbs ((mulD a b).mag)), Leaf.val (.int .i64 ((mulD a b).exp))], none, none⟩, some ⟨25, [Leaf.val (.bool (cneg (dq a))), natL (limbs (cnum (dq a))), natL (limbs (cden (dq a)))], none, none⟩, some ⟨25, [Leaf.val (.bool (cneg (dq b))), natL (limbs (cnum (dq b))), natL (limbs (cden (dq b)))], none, none⟩] ⟨rfl, rfl, rfl, rfl, rfl, rfl, rfl, rfl, trivial⟩ rfl ?_
  refine Tc_drawK 0 [none, none, none, none, none, none, none, none, none, none, none, none, none, none, none, none, none, none, none, none, none, none, none, none, none] [] follows (by kernel_rfl) ?_
  refine DK_q (JO_q rfl rfl (Jq_move rfl rfl)) ?_
  refine DK_q (JO_q rfl rfl (Jq_neq rfl rfl rfl (b := _) (rfl))) ?_
  refine DK_is false (by rw [hm.2]; rfl) ?_
  refine DK_q (JO_q rfl rfl (Jq_move rfl rfl)) ?_
  refine DK_q (JO_qg rfl rfl rfl rfl (Jq_move rfl rfl)) ?_
  refine DK_q (JO_qg rfl rfl rfl rfl (Jq_neq rfl rfl rfl (b := _) (rfl))) ?_
  refine DK_is false (by rw [hm.1]; rfl) ?_
  refine DK_q (JO_q rfl rfl (Jq_pick_f rfl rfl rfl)) ?_
  refine DK_q (JO_q rfl rfl (Jq_move rfl rfl)) ?_
  refine DK_q (JO_qg rfl rfl rfl rfl (Jq_load_agg rfl rfl rfl (by decide) ty29 (by decide) (Nat.le_of_ble_eq_true rfl) rfl)) ?_
  refine DK_cg rfl rfl rfl rfl (Jd_call rfl fn30 rfl (dvalid ((addD a b).neg) (limbs ((addD a b).mag)) ((addD a b).exp) (small_limbs _))) ?_
  refine DK_is true (isD_nrm _ _ _) ?_
  refine DK_q (JO_qg rfl rfl rfl rfl (Jq_not rfl rfl (c := false) rfl)) ?_
  refine DK_q (JO_q rfl rfl (Jq_pick_f rfl rfl rfl)) ?_
  refine DK_q (JO_q rfl rfl (Jq_move rfl rfl)) ?_
  refine DK_q (JO_qg rfl rfl rfl rfl (Jq_load_agg rfl rfl rfl (by decide) ty29 (by decide) (Nat.le_of_ble_eq_true rfl) rfl)) ?_
  refine DK_cg rfl rfl rfl rfl (Jd_call rfl fn30 rfl (dvalid ((mulD a b).neg) (limbs ((mulD a b).mag)) ((mulD a b).exp) (small_limbs _))) ?_
  refine DK_is true (isD_nrm _ _ _) ?_
  refine DK_q (JO_qg rfl rfl rfl rfl (Jq_not rfl rfl (c := false) rfl)) ?_
  refine DK_q (JO_q rfl rfl (Jq_pick_f rfl rfl rfl)) ?_
  refine DK_q (JO_q rfl rfl (Jq_move rfl rfl)) ?_
  refine DK_q (JO_qg rfl rfl rfl rfl (Jq_load_agg rfl rfl rfl (by decide) ty29 (by decide) (Nat.le_of_ble_eq_true rfl) rfl)) ?_
  refine DK_q (JO_qg rfl rfl rfl rfl (Jq_load_agg rfl rfl rfl (by decide) ty29 (by decide) (Nat.le_of_ble_eq_true rfl) rfl)) ?_
  refine DK_cg rfl rfl rfl rfl (Jd_call rfl fn37 rfl (dcmp a b (Bd.use (by omega)) (Bd.use (by omega)))) ?_
  refine DK_q (JO_qg rfl rfl rfl rfl (Jq_load_agg rfl rfl rfl (by decide) ty25 (by decide) (Nat.le_of_ble_eq_true rfl) rfl)) ?_
  refine DK_q (JO_qg rfl rfl rfl rfl (Jq_load_agg rfl rfl rfl (by decide) ty25 (by decide) (Nat.le_of_ble_eq_true rfl) rfl)) ?_
  refine DK_cg rfl rfl rfl rfl (Jd_call rfl fn22 rfl (rqcmp (qOf (dq a)) (dq a) (qOf_q _) (Br.use (by omega)) (qOf (dq b)) (dq b) (qOf_q _) (Br.use (by omega)))) ?_
  refine DK_q (JO_qg rfl rfl rfl rfl (Jq_neq rfl rfl rfl (b := _) (rfl))) ?_
  refine DK_is false (by rw [cmp_dq]; simp) ?_
  refine DK_q (JO_q rfl rfl (Jq_pick_f rfl rfl rfl)) ?_
  refine DK_nil ?_
  refine At_then ?_
  refine Tc_f rfl ?_
  refine Tc_skipA ?_
  refine At_then ?_
  refine Tc_seq ?_
  refine Tc_free 0 ?_
  refine Tc_free 1 ?_
  refine Tc_norm [(5, some (D.ptr 2 0)), (7, some (D.ptr 3 0)), (9, some (D.ptr 4 0)), (10, some (D.ptr 5 0))] [none, none, some ⟨29, [Leaf.val (.bool ((addD a b).neg)), natL (limbs ((addD a b).mag)), Leaf.val (.int .i64 ((addD a b).exp))], none, none⟩, some ⟨29, [Leaf.val (.bool ((mulD a b).neg)), natL (limbs ((mulD a b).mag)), Leaf.val (.int .i64 ((mulD a b).exp))], none, none⟩, some ⟨25, [Leaf.val (.bool (cneg (dq a))), natL (limbs (cnum (dq a))), natL (limbs (cden (dq a)))], none, none⟩, some ⟨25, [Leaf.val (.bool (cneg (dq b))), natL (limbs (cnum (dq b))), natL (limbs (cden (dq b)))], none, none⟩] ⟨rfl, rfl, rfl, rfl, trivial⟩ rfl ?_
  refine Tc_drawK 0 [none, none, none, none, none, none, none, none, none, none, none, none, none, none, none] [] follows (by kernel_rfl) ?_
  refine DK_q (JO_q rfl rfl (Jq_load_agg rfl rfl rfl (by decide) ty29 (by decide) (Nat.le_of_ble_eq_true rfl) rfl)) ?_
  refine DK_c rfl rfl (Jd_call rfl fn21 rfl (rdrat (addD a b) (Bd.use (by omega)))) ?_
  refine DK_q (JO_q rfl rfl (Jq_load_agg rfl rfl rfl (by decide) ty25 (by decide) (Nat.le_of_ble_eq_true rfl) rfl)) ?_
  refine DK_q (JO_q rfl rfl (Jq_load_agg rfl rfl rfl (by decide) ty25 (by decide) (Nat.le_of_ble_eq_true rfl) rfl)) ?_
  refine DK_c rfl rfl (Jd_call rfl fn38 rfl (rqadd (qOf (dq a)) (dq a) (qOf_q _) (Br.use (by omega)) (qOf (dq b)) (dq b) (qOf_q _) (Br.use (by omega)))) ?_
  refine DK_c rfl rfl (Jd_call rfl fn31 rfl (rqsame (qOf (dq (addD a b))) (qOf ((dq a) + (dq b))))) ?_
  refine DK_is true (by rw [dq_addD hm.2]; exact sameQ_refl' _) ?_
  refine DK_q (JO_q rfl rfl (Jq_move rfl rfl)) ?_
  refine DK_q (JO_qg rfl rfl rfl rfl (Jq_load_agg rfl rfl rfl (by decide) ty29 (by decide) (Nat.le_of_ble_eq_true rfl) rfl)) ?_
  refine DK_cg rfl rfl rfl rfl (Jd_call rfl fn21 rfl (rdrat (mulD a b) (Bd.use (by omega)))) ?_
  refine DK_q (JO_qg rfl rfl rfl rfl (Jq_load_agg rfl rfl rfl (by decide) ty25 (by decide) (Nat.le_of_ble_eq_true rfl) rfl)) ?_
  refine DK_q (JO_qg rfl rfl rfl rfl (Jq_load_agg rfl rfl rfl (by decide) ty25 (by decide) (Nat.le_of_ble_eq_true rfl) rfl)) ?_
  refine DK_cg rfl rfl rfl rfl (Jd_call rfl fn27 rfl (rqmul (qOf (dq a)) (dq a) (qOf_q _) (Br.use (by omega)) (qOf (dq b)) (dq b) (qOf_q _) (Br.use (by omega)))) ?_
  refine DK_cg rfl rfl rfl rfl (Jd_call rfl fn31 rfl (rqsame (qOf (dq (mulD a b))) (qOf ((dq a) * (dq b))))) ?_
  refine DK_is true (by rw [dq_mulD hm.1]; exact sameQ_refl' _) ?_
  refine DK_q (JO_q rfl rfl (Jq_pick_t rfl rfl rfl)) ?_
  refine DK_q (JO_q rfl rfl (Jq_assign rfl rfl)) ?_
  refine DK_nil ?_
  refine At_then ?_
  exact Tc_ret1 (fun _ _ h => h) rfl rfl rfl

theorem law_arith (s : Bool) (l : List Nat) (e : Int) (hs : Small l) (t : Bool) (m : List Nat) (f : Int) (hm : Small m) : Ctr Tryd.prog 8 [V.agg [Leaf.val (.bool s), natL l, Leaf.val (.int .i64 e)], V.agg [Leaf.val (.bool t), natL m, Leaf.val (.int .i64 f)]] (R.one (V.one (Leaf.val (.bool (true))))) := by
  by_cases hN : smallD s l e = true ∧ smallD t m f = true
  · obtain ⟨v1, v2⟩ := hN
    have hc := (isD_canon hs (smallD_isD v1)).1
    have hd := (isD_canon hm (smallD_isD v2)).1
    have h := law_arith_s ⟨s, val l, e⟩ ⟨t, val m, f⟩ (by show smallD s (limbs (val l)) e = true; rw [← hc]; exact v1) (by show smallD t (limbs (val m)) f = true; rw [← hd]; exact v2)
    have e2 : dV ⟨s, val l, e⟩ = V.agg [Leaf.val (.bool s), natL l, Leaf.val (.int .i64 e)] := by show V.agg [Leaf.val (.bool s), natL (limbs (val l)), Leaf.val (.int .i64 e)] = _; rw [← hc]
    have e3 : dV ⟨t, val m, f⟩ = V.agg [Leaf.val (.bool t), natL m, Leaf.val (.int .i64 f)] := by show V.agg [Leaf.val (.bool t), natL (limbs (val m)), Leaf.val (.int .i64 f)] = _; rw [← hd]
    rwa [e2, e3] at h
  · exact law_arith_b s l e hs t m f hm hN

end Go.Proofs.YtpabkdpijcbkgaaDoor
