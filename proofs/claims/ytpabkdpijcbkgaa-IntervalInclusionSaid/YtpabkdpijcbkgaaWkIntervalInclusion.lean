/- Walk: a law of chapter 6. -/
import Derived.Test.YtpabkdpijcbkgaaWkL
namespace Go.Proofs.Ytpabkdpijcbkgaa
open Go Go.RowKit Rc


set_option maxRecDepth 10000 in
set_option maxHeartbeats 2000000 in
theorem law_incl (x0 x1 y0 y1 : Qr) (n : Nat) (hn : n < 256) : Ctr Try.prog 7 [iV x0 x1, iV y0 y1, V.one (Leaf.val (.int .u8 n))] (R.one (V.one (Leaf.val (.bool (true))))) := by
  refine Ctr.of_body Try.func7 rfl Try.ntmps7 (Nat.le_of_ble_eq_true rfl) (fun w0 A0 => ?_)
  refine Tc_seq ?_
  refine Tc_region ?_
  refine Tl_e (JO_e rfl rfl (Je_box (n := 0) rfl rfl rfl)) rfl rfl ?_
  refine Tl_e (JO_e rfl rfl (Je_box (n := 1) rfl rfl rfl)) rfl rfl ?_
  refine Tl_q (JO_q rfl rfl (Jq_assign rfl rfl)) rfl ?_
  refine Tl_end ?_
  refine At_then ?_
  refine Tc_seq ?_
  refine Tc_seq ?_
  refine Tc_region ?_
  refine Tl_e (JO_e rfl rfl (Je_call rfl fn9 rfl (l6awake))) rfl rfl ?_
  refine Tl_q (JO_q rfl rfl (Jq_not rfl rfl (c := false) rfl)) rfl ?_
  refine Tl_end ?_
  refine At_then ?_
  refine Tc_f rfl ?_
  refine Tc_skipA ?_
  refine At_then ?_
  refine Tc_seq ?_
  refine Tc_seq ?_
  refine Tc_region ?_
  refine Tl_q (JO_q rfl rfl (Jq_load_agg rfl rfl rfl (by decide) ty27 (by decide) (Nat.le_of_ble_eq_true rfl) rfl)) rfl ?_
  refine Tl_e (JO_e rfl rfl (Je_call rfl fn10 rfl (l6small x0 x1))) rfl rfl ?_
  refine Tl_q (JO_q rfl rfl (Jq_not rfl rfl (c := _) rfl)) rfl ?_
  refine Tl_q (JO_q rfl rfl (Jq_move rfl rfl)) rfl ?_
  refine Tl_two (fun hb20 => ?_) (fun hb20 => ?_)
  · skip
    refine Tl_q (JO_qg rfl rfl rfl rfl (Jq_load_agg rfl rfl rfl (by decide) ty27 (by decide) (Nat.le_of_ble_eq_true rfl) rfl)) rfl ?_
    refine Tl_e (JO_eg rfl rfl rfl rfl (Je_call rfl fn10 rfl (l6small y0 y1))) rfl rfl ?_
    refine Tl_q (JO_qg rfl rfl rfl rfl (Jq_not rfl rfl (c := _) rfl)) rfl ?_
    refine Tl_q (JO_q rfl rfl (Jq_pick_f rfl rfl rfl)) rfl ?_
    refine Tl_end ?_
    refine At_then ?_
    refine Tc_cond rfl (fun hc24 => ?_) (fun hc24 => ?_)
    · skip
      refine Tc_seq ?_
      refine Tc_region ?_
      refine Tl_q (JO_q rfl rfl (Jq_assign rfl rfl)) rfl ?_
      refine Tl_end ?_
      refine At_then ?_
      exact Tc_ret1 (fun _ _ h => h) rfl rfl rfl
    · skip
      refine Tc_skipA ?_
      refine At_then ?_
      refine Tc_seq ?_
      obtain ⟨hfx0, hfx1, hlx⟩ := smI_facts hb20
      haveI ibx0 : Br x0.q 2 := Br.q hfx0
      haveI ibx1 : Br x1.q 2 := Br.q hfx1
      obtain ⟨hfy0, hfy1, hly⟩ := smI_facts hc24
      haveI iby0 : Br y0.q 2 := Br.q hfy0
      haveI iby1 : Br y1.q 2 := Br.q hfy1
      refine Tc_norm [(2, some (D.val (.int .u8 (n : Int)))), (3, some (D.ptr 0 0)), (4, some (D.ptr 1 0))] [some ⟨27, [Leaf.val (.bool x0.neg), natL x0.n, natL x0.d, Leaf.val (.bool x1.neg), natL x1.n, natL x1.d], none, none⟩, some ⟨27, [Leaf.val (.bool y0.neg), natL y0.n, natL y0.d, Leaf.val (.bool y1.neg), natL y1.n, natL y1.d], none, none⟩] ⟨rfl, rfl, rfl, trivial⟩ rfl ?_
      refine Tc_region ?_
      refine Tl_q (JO_q rfl rfl (Jq_load_agg rfl rfl rfl (by decide) ty27 (by decide) (Nat.le_of_ble_eq_true rfl) rfl)) rfl ?_
      refine Tl_q (JO_q rfl rfl (Jq_move rfl rfl)) rfl ?_
      refine Tl_e (JO_e rfl rfl (Je_call rfl fn16 rfl (l6at x0 (x0.q) rfl (hfx0.mono (by omega)) x1 (x1.q) rfl (hfx1.mono (by omega)) n (by omega)))) rfl rfl ?_
      refine Tl_e (JO_e rfl rfl (Je_alloc (n := 2) rfl tz25 rfl)) rfl rfl ?_
      refine Tl_e (JO_e rfl rfl (Je_store rfl rfl rfl rfl ty25 rfl (by decide) (Nat.le_of_ble_eq_true rfl) rfl)) rfl rfl ?_
      refine Tl_end ?_
      refine At_then ?_
      refine Tc_seq ?_
      have hx := atp_in n hlx
      have hi1 := mul_incl hx.1 hx.2 Rat.le_refl (Rat.le_refl (a := y0.q)) hly (Rat.le_refl (a := y1.q))
      have hi2 := mul_incl (Rat.le_refl (a := y0.q)) hly (Rat.le_refl (a := y1.q)) (Rat.le_refl (a := x0.q)) hx.1 hx.2
      rw [← plo_comm x0.q x1.q y0.q y1.q, ← phi_comm x0.q x1.q y0.q y1.q] at hi2
      refine Tc_region ?_
      refine Tl_q (JO_q rfl rfl (Jq_fieldAddr rfl rfl fo27_0 rfl)) rfl ?_
      refine Tl_q (JO_q rfl rfl (Jq_load_agg rfl rfl rfl (by decide) ty25 (by decide) (Nat.le_of_ble_eq_true rfl) rfl)) rfl ?_
      refine Tl_q (JO_q rfl rfl (Jq_load_agg rfl rfl rfl (by decide) ty25 (by decide) (Nat.le_of_ble_eq_true rfl) rfl)) rfl ?_
      refine Tl_e (JO_e rfl rfl (Je_call rfl fn28 rfl (imake_ok x0 (x0.q) rfl (hfx0.mono (by omega)) (qOf (atp n x0.q x1.q)) (atp n x0.q x1.q) (qOf_q _) (Br.use (by omega)) hx.1))) rfl rfl ?_
      refine Tl_q (JO_q rfl rfl (Jq_move rfl rfl)) rfl ?_
      refine Tl_q (JO_q rfl rfl (Jq_extract rfl rfl rfl)) rfl ?_
      refine Tl_q (JO_q rfl rfl (Jq_extract rfl rfl rfl)) rfl ?_
      refine Tl_e (JO_e rfl rfl (Je_alloc (n := 3) rfl tz27 rfl)) rfl rfl ?_
      refine Tl_e (JO_e rfl rfl (Je_store rfl rfl rfl rfl ty27 rfl (by decide) (Nat.le_of_ble_eq_true rfl) rfl)) rfl rfl ?_
      refine Tl_q (JO_q rfl rfl (Jq_assign rfl rfl)) rfl ?_
      refine Tl_end ?_
      refine At_then ?_
      refine Tc_seq ?_
      refine Tc_norm [(3, some (D.ptr 0 0)), (4, some (D.ptr 1 0)), (7, some (D.ptr 2 0)), (8, some (D.ptr 3 0)), (9, some (D.val (.int .i64 0)))] [some ⟨27, [Leaf.val (.bool x0.neg), natL x0.n, natL x0.d, Leaf.val (.bool x1.neg), natL x1.n, natL x1.d], none, none⟩, some ⟨27, [Leaf.val (.bool y0.neg), natL y0.n, natL y0.d, Leaf.val (.bool y1.neg), natL y1.n, natL y1.d], none, none⟩, some ⟨25, [Leaf.val (.bool (cneg (atp n x0.q x1.q))), natL (limbs (cnum (atp n x0.q x1.q))), natL (limbs (cden (atp n x0.q x1.q)))], none, none⟩, some ⟨27, [Leaf.val (.bool (cneg x0.q)), natL (limbs (cnum x0.q)), natL (limbs (cden x0.q)), Leaf.val (.bool (cneg (atp n x0.q x1.q))), natL (limbs (cnum (atp n x0.q x1.q))), natL (limbs (cden (atp n x0.q x1.q)))], none, none⟩] ⟨rfl, rfl, rfl, rfl, rfl, trivial⟩ rfl ?_
      refine Tc_region ?_
      refine Tl_q (JO_q rfl rfl (Jq_load_agg rfl rfl rfl (by decide) ty25 (by decide) (Nat.le_of_ble_eq_true rfl) rfl)) rfl ?_
      refine Tl_q (JO_q rfl rfl (Jq_fieldAddr rfl rfl fo27_1 rfl)) rfl ?_
      refine Tl_q (JO_q rfl rfl (Jq_load_agg rfl rfl rfl (by decide) ty25 (by decide) (Nat.le_of_ble_eq_true rfl) rfl)) rfl ?_
      refine Tl_e (JO_e rfl rfl (Je_call rfl fn28 rfl (imake_ok (qOf (atp n x0.q x1.q)) (atp n x0.q x1.q) (qOf_q _) (Br.use (by omega)) x1 (x1.q) rfl (hfx1.mono (by omega)) hx.2))) rfl rfl ?_
      refine Tl_q (JO_q rfl rfl (Jq_move rfl rfl)) rfl ?_
      refine Tl_q (JO_q rfl rfl (Jq_extract rfl rfl rfl)) rfl ?_
      refine Tl_q (JO_q rfl rfl (Jq_extract rfl rfl rfl)) rfl ?_
      refine Tl_e (JO_e rfl rfl (Je_alloc (n := 4) rfl tz27 rfl)) rfl rfl ?_
      refine Tl_e (JO_e rfl rfl (Je_store rfl rfl rfl rfl ty27 rfl (by decide) (Nat.le_of_ble_eq_true rfl) rfl)) rfl rfl ?_
      refine Tl_q (JO_q rfl rfl (Jq_assign rfl rfl)) rfl ?_
      refine Tl_end ?_
      refine At_then ?_
      refine Tc_seq ?_
      refine Tc_seq ?_
      refine Tc_free 2 ?_
      refine Tc_norm [(3, some (D.ptr 0 0)), (4, some (D.ptr 1 0)), (8, some (D.ptr 3 0)), (9, some (D.val (.int .i64 0))), (10, some (D.ptr 4 0)), (11, some (D.val (.int .i64 0)))] [some ⟨27, [Leaf.val (.bool x0.neg), natL x0.n, natL x0.d, Leaf.val (.bool x1.neg), natL x1.n, natL x1.d], none, none⟩, some ⟨27, [Leaf.val (.bool y0.neg), natL y0.n, natL y0.d, Leaf.val (.bool y1.neg), natL y1.n, natL y1.d], none, none⟩, none, some ⟨27, [Leaf.val (.bool (cneg x0.q)), natL (limbs (cnum x0.q)), natL (limbs (cden x0.q)), Leaf.val (.bool (cneg (atp n x0.q x1.q))), natL (limbs (cnum (atp n x0.q x1.q))), natL (limbs (cden (atp n x0.q x1.q)))], none, none⟩, some ⟨27, [Leaf.val (.bool (cneg (atp n x0.q x1.q))), natL (limbs (cnum (atp n x0.q x1.q))), natL (limbs (cden (atp n x0.q x1.q))), Leaf.val (.bool (cneg x1.q)), natL (limbs (cnum x1.q)), natL (limbs (cden x1.q))], none, none⟩] ⟨rfl, rfl, rfl, rfl, rfl, rfl, trivial⟩ rfl ?_
      refine Tc_region ?_
      refine Tl_q (JO_q rfl rfl (Jq_move rfl rfl)) rfl ?_
      refine Tl_q (JO_q rfl rfl (Jq_neq rfl rfl rfl (b := false) (rfl))) rfl ?_
      refine Tl_q (JO_q rfl rfl (Jq_move rfl rfl)) rfl ?_
      refine Tl_q (JO_qg rfl rfl rfl rfl (Jq_move rfl rfl)) rfl ?_
      refine Tl_q (JO_qg rfl rfl rfl rfl (Jq_neq rfl rfl rfl (b := false) (rfl))) rfl ?_
      refine Tl_q (JO_q rfl rfl (Jq_pick_f rfl rfl rfl)) rfl ?_
      refine Tl_end ?_
      refine At_then ?_
      refine Tc_f rfl ?_
      refine Tc_skipA ?_
      refine At_then ?_
      refine Tc_seq ?_
      refine Tc_drawK 3 [none, none, none, none, none, none, none, none, some 5, some 6, some 7, some 5, some 6, some 7] [5, 6, 7] follows (by kernel_rfl) ?_
      refine DK_q (JO_q rfl rfl (Jq_load_agg rfl rfl rfl (by decide) ty27 (by decide) (Nat.le_of_ble_eq_true rfl) rfl)) ?_
      refine DK_q (JO_q rfl rfl (Jq_load_agg rfl rfl rfl (by decide) ty27 (by decide) (Nat.le_of_ble_eq_true rfl) rfl)) ?_
      refine DK_c rfl rfl (Jd_call rfl fn33 rfl (iadd x0 (x0.q) rfl (hfx0.mono (by omega)) x1 (x1.q) rfl (hfx1.mono (by omega)) y0 (y0.q) rfl (hfy0.mono (by omega)) y1 (y1.q) rfl (hfy1.mono (by omega)))) ?_
      refine DK_q (JO_q rfl rfl (Jq_load_agg rfl rfl rfl (by decide) ty27 (by decide) (Nat.le_of_ble_eq_true rfl) rfl)) ?_
      refine DK_q (JO_q rfl rfl (Jq_load_agg rfl rfl rfl (by decide) ty27 (by decide) (Nat.le_of_ble_eq_true rfl) rfl)) ?_
      refine DK_c rfl rfl (Jd_call rfl fn11 rfl (imul x0 (x0.q) rfl (hfx0.mono (by omega)) x1 (x1.q) rfl (hfx1.mono (by omega)) y0 (y0.q) rfl (hfy0.mono (by omega)) y1 (y1.q) rfl (hfy1.mono (by omega)))) ?_
      refine DK_q (JO_q rfl rfl (Jq_load_agg rfl rfl rfl (by decide) ty27 (by decide) (Nat.le_of_ble_eq_true rfl) rfl)) ?_
      refine DK_c rfl rfl (Jd_call rfl fn12 rfl (irelu x0 (x0.q) rfl (hfx0.mono (by omega)) x1 (x1.q) rfl (hfx1.mono (by omega)))) ?_
      refine DK_s 5 rfl rfl rfl (Jd_alloc (i := 5) rfl tz27 rfl) ?_
      refine DK_s 6 rfl rfl rfl (Jd_alloc (i := 6) rfl tz27 rfl) ?_
      refine DK_s 7 rfl rfl rfl (Jd_alloc (i := 7) rfl tz27 rfl) ?_
      refine DK_s 5 rfl rfl rfl (Jd_store rfl rfl rfl rfl ty27 rfl (by decide) (Nat.le_of_ble_eq_true rfl) rfl) ?_
      refine DK_s 6 rfl rfl rfl (Jd_store rfl rfl rfl rfl ty27 rfl (by decide) (Nat.le_of_ble_eq_true rfl) rfl) ?_
      refine DK_s 7 rfl rfl rfl (Jd_store rfl rfl rfl rfl ty27 rfl (by decide) (Nat.le_of_ble_eq_true rfl) rfl) ?_
      refine DK_nil ?_
      refine At_then ?_
      refine Tc_seq ?_
      refine Tc_free 0 ?_
      refine Tc_norm [(4, some (D.ptr 1 0)), (8, some (D.ptr 3 0)), (10, some (D.ptr 4 0)), (12, some (D.ptr 5 0)), (13, some (D.ptr 6 0)), (14, some (D.ptr 7 0))] [none, some ⟨27, [Leaf.val (.bool y0.neg), natL y0.n, natL y0.d, Leaf.val (.bool y1.neg), natL y1.n, natL y1.d], none, none⟩, none, some ⟨27, [Leaf.val (.bool (cneg x0.q)), natL (limbs (cnum x0.q)), natL (limbs (cden x0.q)), Leaf.val (.bool (cneg (atp n x0.q x1.q))), natL (limbs (cnum (atp n x0.q x1.q))), natL (limbs (cden (atp n x0.q x1.q)))], none, none⟩, some ⟨27, [Leaf.val (.bool (cneg (atp n x0.q x1.q))), natL (limbs (cnum (atp n x0.q x1.q))), natL (limbs (cden (atp n x0.q x1.q))), Leaf.val (.bool (cneg x1.q)), natL (limbs (cnum x1.q)), natL (limbs (cden x1.q))], none, none⟩, some ⟨27, [Leaf.val (.bool (cneg (x0.q + y0.q))), natL (limbs (cnum (x0.q + y0.q))), natL (limbs (cden (x0.q + y0.q))), Leaf.val (.bool (cneg (x1.q + y1.q))), natL (limbs (cnum (x1.q + y1.q))), natL (limbs (cden (x1.q + y1.q)))], none, none⟩, some ⟨27, [Leaf.val (.bool (cneg (mn (mn (mn (x0.q * y0.q) (x0.q * y1.q)) (x1.q * y0.q)) (x1.q * y1.q)))), natL (limbs (cnum (mn (mn (mn (x0.q * y0.q) (x0.q * y1.q)) (x1.q * y0.q)) (x1.q * y1.q)))), natL (limbs (cden (mn (mn (mn (x0.q * y0.q) (x0.q * y1.q)) (x1.q * y0.q)) (x1.q * y1.q)))), Leaf.val (.bool (cneg (mx (mx (mx (x0.q * y0.q) (x0.q * y1.q)) (x1.q * y0.q)) (x1.q * y1.q)))), natL (limbs (cnum (mx (mx (mx (x0.q * y0.q) (x0.q * y1.q)) (x1.q * y0.q)) (x1.q * y1.q)))), natL (limbs (cden (mx (mx (mx (x0.q * y0.q) (x0.q * y1.q)) (x1.q * y0.q)) (x1.q * y1.q))))], none, none⟩, some ⟨27, [Leaf.val (.bool (cneg (mx 0 x0.q))), natL (limbs (cnum (mx 0 x0.q))), natL (limbs (cden (mx 0 x0.q))), Leaf.val (.bool (cneg (mx 0 x1.q))), natL (limbs (cnum (mx 0 x1.q))), natL (limbs (cden (mx 0 x1.q)))], none, none⟩] ⟨rfl, rfl, rfl, rfl, rfl, rfl, trivial⟩ rfl ?_
      refine Tc_drawK 0 [none, none, none, none, none, none, none, none, none, none, none, none, none, none, none, none, none, none, none, none, none, none, none, none, none, none] [] follows (by kernel_rfl) ?_
      refine DK_q (JO_q rfl rfl (Jq_load_agg rfl rfl rfl (by decide) ty27 (by decide) (Nat.le_of_ble_eq_true rfl) rfl)) ?_
      refine DK_q (JO_q rfl rfl (Jq_load_agg rfl rfl rfl (by decide) ty27 (by decide) (Nat.le_of_ble_eq_true rfl) rfl)) ?_
      refine DK_c rfl rfl (Jd_call rfl fn33 rfl (iadd (qOf (x0.q)) (x0.q) (qOf_q _) (Br.use (by omega)) (qOf (atp n x0.q x1.q)) (atp n x0.q x1.q) (qOf_q _) (Br.use (by omega)) y0 (y0.q) rfl (hfy0.mono (by omega)) y1 (y1.q) rfl (hfy1.mono (by omega)))) ?_
      refine DK_q (JO_q rfl rfl (Jq_load_agg rfl rfl rfl (by decide) ty27 (by decide) (Nat.le_of_ble_eq_true rfl) rfl)) ?_
      refine DK_c rfl rfl (Jd_call rfl fn25 rfl (iwithin (qOf (x0.q + y0.q)) (x0.q + y0.q) (qOf_q _) (Br.use (by omega)) (qOf ((atp n x0.q x1.q) + y1.q)) ((atp n x0.q x1.q) + y1.q) (qOf_q _) (Br.use (by omega)) (qOf (x0.q + y0.q)) (x0.q + y0.q) (qOf_q _) (Br.use (by omega)) (qOf (x1.q + y1.q)) (x1.q + y1.q) (qOf_q _) (Br.use (by omega)))) ?_
      refine DK_is true (wt Rat.le_refl (Rat.add_le_add_right.2 hx.2)) ?_
      refine DK_q (JO_q rfl rfl (Jq_move rfl rfl)) ?_
      refine DK_q (JO_qg rfl rfl rfl rfl (Jq_load_agg rfl rfl rfl (by decide) ty27 (by decide) (Nat.le_of_ble_eq_true rfl) rfl)) ?_
      refine DK_q (JO_qg rfl rfl rfl rfl (Jq_load_agg rfl rfl rfl (by decide) ty27 (by decide) (Nat.le_of_ble_eq_true rfl) rfl)) ?_
      refine DK_cg rfl rfl rfl rfl (Jd_call rfl fn11 rfl (imul (qOf (atp n x0.q x1.q)) (atp n x0.q x1.q) (qOf_q _) (Br.use (by omega)) (qOf (x1.q)) (x1.q) (qOf_q _) (Br.use (by omega)) y0 (y0.q) rfl (hfy0.mono (by omega)) y1 (y1.q) rfl (hfy1.mono (by omega)))) ?_
      refine DK_q (JO_qg rfl rfl rfl rfl (Jq_load_agg rfl rfl rfl (by decide) ty27 (by decide) (Nat.le_of_ble_eq_true rfl) rfl)) ?_
      refine DK_cg rfl rfl rfl rfl (Jd_call rfl fn25 rfl (iwithin (qOf (mn (mn (mn ((atp n x0.q x1.q) * y0.q) ((atp n x0.q x1.q) * y1.q)) (x1.q * y0.q)) (x1.q * y1.q))) (mn (mn (mn ((atp n x0.q x1.q) * y0.q) ((atp n x0.q x1.q) * y1.q)) (x1.q * y0.q)) (x1.q * y1.q)) (qOf_q _) (Br.use (by omega)) (qOf (mx (mx (mx ((atp n x0.q x1.q) * y0.q) ((atp n x0.q x1.q) * y1.q)) (x1.q * y0.q)) (x1.q * y1.q))) (mx (mx (mx ((atp n x0.q x1.q) * y0.q) ((atp n x0.q x1.q) * y1.q)) (x1.q * y0.q)) (x1.q * y1.q)) (qOf_q _) (Br.use (by omega)) (qOf (mn (mn (mn (x0.q * y0.q) (x0.q * y1.q)) (x1.q * y0.q)) (x1.q * y1.q))) (mn (mn (mn (x0.q * y0.q) (x0.q * y1.q)) (x1.q * y0.q)) (x1.q * y1.q)) (qOf_q _) (Br.use (by omega)) (qOf (mx (mx (mx (x0.q * y0.q) (x0.q * y1.q)) (x1.q * y0.q)) (x1.q * y1.q))) (mx (mx (mx (x0.q * y0.q) (x0.q * y1.q)) (x1.q * y0.q)) (x1.q * y1.q)) (qOf_q _) (Br.use (by omega)))) ?_
      refine DK_is true (wt hi1.1 hi1.2) ?_
      refine DK_q (JO_q rfl rfl (Jq_pick_t rfl rfl rfl)) ?_
      refine DK_q (JO_q rfl rfl (Jq_move rfl rfl)) ?_
      refine DK_q (JO_qg rfl rfl rfl rfl (Jq_load_agg rfl rfl rfl (by decide) ty27 (by decide) (Nat.le_of_ble_eq_true rfl) rfl)) ?_
      refine DK_q (JO_qg rfl rfl rfl rfl (Jq_load_agg rfl rfl rfl (by decide) ty27 (by decide) (Nat.le_of_ble_eq_true rfl) rfl)) ?_
      refine DK_cg rfl rfl rfl rfl (Jd_call rfl fn11 rfl (imul y0 (y0.q) rfl (hfy0.mono (by omega)) y1 (y1.q) rfl (hfy1.mono (by omega)) (qOf (x0.q)) (x0.q) (qOf_q _) (Br.use (by omega)) (qOf (atp n x0.q x1.q)) (atp n x0.q x1.q) (qOf_q _) (Br.use (by omega)))) ?_
      refine DK_q (JO_qg rfl rfl rfl rfl (Jq_load_agg rfl rfl rfl (by decide) ty27 (by decide) (Nat.le_of_ble_eq_true rfl) rfl)) ?_
      refine DK_cg rfl rfl rfl rfl (Jd_call rfl fn25 rfl (iwithin (qOf (mn (mn (mn (y0.q * x0.q) (y0.q * (atp n x0.q x1.q))) (y1.q * x0.q)) (y1.q * (atp n x0.q x1.q)))) (mn (mn (mn (y0.q * x0.q) (y0.q * (atp n x0.q x1.q))) (y1.q * x0.q)) (y1.q * (atp n x0.q x1.q))) (qOf_q _) (Br.use (by omega)) (qOf (mx (mx (mx (y0.q * x0.q) (y0.q * (atp n x0.q x1.q))) (y1.q * x0.q)) (y1.q * (atp n x0.q x1.q)))) (mx (mx (mx (y0.q * x0.q) (y0.q * (atp n x0.q x1.q))) (y1.q * x0.q)) (y1.q * (atp n x0.q x1.q))) (qOf_q _) (Br.use (by omega)) (qOf (mn (mn (mn (x0.q * y0.q) (x0.q * y1.q)) (x1.q * y0.q)) (x1.q * y1.q))) (mn (mn (mn (x0.q * y0.q) (x0.q * y1.q)) (x1.q * y0.q)) (x1.q * y1.q)) (qOf_q _) (Br.use (by omega)) (qOf (mx (mx (mx (x0.q * y0.q) (x0.q * y1.q)) (x1.q * y0.q)) (x1.q * y1.q))) (mx (mx (mx (x0.q * y0.q) (x0.q * y1.q)) (x1.q * y0.q)) (x1.q * y1.q)) (qOf_q _) (Br.use (by omega)))) ?_
      refine DK_is true (wt hi2.1 hi2.2) ?_
      refine DK_q (JO_q rfl rfl (Jq_pick_t rfl rfl rfl)) ?_
      refine DK_q (JO_q rfl rfl (Jq_move rfl rfl)) ?_
      refine DK_q (JO_qg rfl rfl rfl rfl (Jq_load_agg rfl rfl rfl (by decide) ty27 (by decide) (Nat.le_of_ble_eq_true rfl) rfl)) ?_
      refine DK_cg rfl rfl rfl rfl (Jd_call rfl fn12 rfl (irelu (qOf (atp n x0.q x1.q)) (atp n x0.q x1.q) (qOf_q _) (Br.use (by omega)) (qOf (x1.q)) (x1.q) (qOf_q _) (Br.use (by omega)))) ?_
      refine DK_q (JO_qg rfl rfl rfl rfl (Jq_load_agg rfl rfl rfl (by decide) ty27 (by decide) (Nat.le_of_ble_eq_true rfl) rfl)) ?_
      refine DK_cg rfl rfl rfl rfl (Jd_call rfl fn25 rfl (iwithin (qOf (mx 0 (atp n x0.q x1.q))) (mx 0 (atp n x0.q x1.q)) (qOf_q _) (Br.use (by omega)) (qOf (mx 0 x1.q)) (mx 0 x1.q) (qOf_q _) (Br.use (by omega)) (qOf (mx 0 x0.q)) (mx 0 x0.q) (qOf_q _) (Br.use (by omega)) (qOf (mx 0 x1.q)) (mx 0 x1.q) (qOf_q _) (Br.use (by omega)))) ?_
      refine DK_is true (wt (mx_mono hx.1) (mx_mono Rat.le_refl)) ?_
      refine DK_q (JO_q rfl rfl (Jq_pick_t rfl rfl rfl)) ?_
      refine DK_q (JO_q rfl rfl (Jq_assign rfl rfl)) ?_
      refine DK_nil ?_
      refine At_then ?_
      exact Tc_ret1 (fun _ _ h => h) rfl rfl rfl
  · skip
    refine Tl_q (JO_skip rfl rfl rfl) rfl ?_
    refine Tl_q (JO_skip rfl rfl rfl) rfl ?_
    refine Tl_q (JO_skip rfl rfl rfl) rfl ?_
    refine Tl_q (JO_q rfl rfl (Jq_pick_t rfl rfl rfl)) rfl ?_
    refine Tl_end ?_
    refine At_then ?_
    refine Tc_t rfl ?_
    refine Tc_seq ?_
    refine Tc_region ?_
    refine Tl_q (JO_q rfl rfl (Jq_assign rfl rfl)) rfl ?_
    refine Tl_end ?_
    refine At_then ?_
    exact Tc_ret1 (fun _ _ h => h) rfl rfl rfl

end Go.Proofs.Ytpabkdpijcbkgaa
