/- Walk: a law of chapter 6. -/
import Derived.Test.YtpabkdpijcbkgaaWkL
namespace Go.Proofs.Ytpabkdpijcbkgaa
open Go Go.RowKit Rc


set_option maxRecDepth 10000 in
set_option maxHeartbeats 2000000 in
theorem law_mul (x0 x1 y0 y1 : Qr) (n : Nat) (hn : n < 65536) : Ctr Try.prog 3 [iV x0 x1, iV y0 y1, V.one (Leaf.val (.int .u16 n))] (R.one (V.one (Leaf.val (.bool (true))))) := by
  refine Ctr.of_body Try.func3 rfl Try.ntmps3 (Nat.le_of_ble_eq_true rfl) (fun w0 A0 => ?_)
  refine Tc_seq ?_
  refine Tc_region ?_
  refine Tl_e (JO_e rfl rfl (Je_box (n := 0) rfl rfl rfl)) rfl rfl ?_
  refine Tl_e (JO_e rfl rfl (Je_box (n := 1) rfl rfl rfl)) rfl rfl ?_
  refine Tl_q (JO_q rfl rfl (Jq_assign rfl rfl)) rfl ?_
  refine Tl_end ?_
  refine At_then ?_
  refine Tc_seq ?_
  refine Tc_seq ?_
  refine Tc_region ?_
  refine Tl_e (JO_e rfl rfl (Je_call rfl fn9 rfl (l6awake))) rfl rfl ?_
  refine Tl_q (JO_q rfl rfl (Jq_not rfl rfl (c := false) rfl)) rfl ?_
  refine Tl_end ?_
  refine At_then ?_
  refine Tc_f rfl ?_
  refine Tc_skipA ?_
  refine At_then ?_
  refine Tc_seq ?_
  refine Tc_seq ?_
  refine Tc_region ?_
  refine Tl_q (JO_q rfl rfl (Jq_load_agg rfl rfl rfl (by decide) ty27 (by decide) (Nat.le_of_ble_eq_true rfl) rfl)) rfl ?_
  refine Tl_e (JO_e rfl rfl (Je_call rfl fn10 rfl (l6small x0 x1))) rfl rfl ?_
  refine Tl_q (JO_q rfl rfl (Jq_not rfl rfl (c := _) rfl)) rfl ?_
  refine Tl_q (JO_q rfl rfl (Jq_move rfl rfl)) rfl ?_
  refine Tl_two (fun hb16 => ?_) (fun hb16 => ?_)
  · skip
    refine Tl_q (JO_qg rfl rfl rfl rfl (Jq_load_agg rfl rfl rfl (by decide) ty27 (by decide) (Nat.le_of_ble_eq_true rfl) rfl)) rfl ?_
    refine Tl_e (JO_eg rfl rfl rfl rfl (Je_call rfl fn10 rfl (l6small y0 y1))) rfl rfl ?_
    refine Tl_q (JO_qg rfl rfl rfl rfl (Jq_not rfl rfl (c := _) rfl)) rfl ?_
    refine Tl_q (JO_q rfl rfl (Jq_pick_f rfl rfl rfl)) rfl ?_
    refine Tl_end ?_
    refine At_then ?_
    refine Tc_cond rfl (fun hc20 => ?_) (fun hc20 => ?_)
    · skip
      refine Tc_seq ?_
      refine Tc_region ?_
      refine Tl_q (JO_q rfl rfl (Jq_assign rfl rfl)) rfl ?_
      refine Tl_end ?_
      refine At_then ?_
      exact Tc_ret1 (fun _ _ h => h) rfl rfl rfl
    · skip
      refine Tc_skipA ?_
      refine At_then ?_
      refine Tc_seq ?_
      obtain ⟨hfx0, hfx1, hlx⟩ := smI_facts hb16
      haveI ibx0 : Br x0.q 2 := Br.q hfx0
      haveI ibx1 : Br x1.q 2 := Br.q hfx1
      obtain ⟨hfy0, hfy1, hly⟩ := smI_facts hc20
      haveI iby0 : Br y0.q 2 := Br.q hfy0
      haveI iby1 : Br y1.q 2 := Br.q hfy1
      refine Tc_norm [(2, some (D.val (.int .u16 (n : Int)))), (3, some (D.ptr 0 0)), (4, some (D.ptr 1 0))] [some ⟨27, [Leaf.val (.bool x0.neg), natL x0.n, natL x0.d, Leaf.val (.bool x1.neg), natL x1.n, natL x1.d], none, none⟩, some ⟨27, [Leaf.val (.bool y0.neg), natL y0.n, natL y0.d, Leaf.val (.bool y1.neg), natL y1.n, natL y1.d], none, none⟩] ⟨rfl, rfl, rfl, trivial⟩ rfl ?_
      refine Tc_drawK 2 [none, none, none, none, none, some 2, some 3, some 2, some 3] [2, 3] follows (by kernel_rfl) ?_
      refine DK_q (JO_q rfl rfl (Jq_load_agg rfl rfl rfl (by decide) ty27 (by decide) (Nat.le_of_ble_eq_true rfl) rfl)) ?_
      refine DK_q (JO_q rfl rfl (Jq_load_agg rfl rfl rfl (by decide) ty27 (by decide) (Nat.le_of_ble_eq_true rfl) rfl)) ?_
      refine DK_c rfl rfl (Jd_call rfl fn11 rfl (imul x0 (x0.q) rfl (hfx0.mono (by omega)) x1 (x1.q) rfl (hfx1.mono (by omega)) y0 (y0.q) rfl (hfy0.mono (by omega)) y1 (y1.q) rfl (hfy1.mono (by omega)))) ?_
      refine DK_q (JO_q rfl rfl (Jq_load_agg rfl rfl rfl (by decide) ty27 (by decide) (Nat.le_of_ble_eq_true rfl) rfl)) ?_
      refine DK_c rfl rfl (Jd_call rfl fn12 rfl (irelu x0 (x0.q) rfl (hfx0.mono (by omega)) x1 (x1.q) rfl (hfx1.mono (by omega)))) ?_
      refine DK_s 2 rfl rfl rfl (Jd_alloc (i := 2) rfl tz27 rfl) ?_
      refine DK_s 3 rfl rfl rfl (Jd_alloc (i := 3) rfl tz27 rfl) ?_
      refine DK_s 2 rfl rfl rfl (Jd_store rfl rfl rfl rfl ty27 rfl (by decide) (Nat.le_of_ble_eq_true rfl) rfl) ?_
      refine DK_s 3 rfl rfl rfl (Jd_store rfl rfl rfl rfl ty27 rfl (by decide) (Nat.le_of_ble_eq_true rfl) rfl) ?_
      refine DK_nil ?_
      refine At_then ?_
      refine Tc_seq ?_
      refine Tc_seq ?_
      refine Tc_norm [(2, some (D.val (.int .u16 (n : Int)))), (3, some (D.ptr 0 0)), (4, some (D.ptr 1 0)), (7, some (D.ptr 2 0)), (8, some (D.ptr 3 0))] [some ⟨27, [Leaf.val (.bool x0.neg), natL x0.n, natL x0.d, Leaf.val (.bool x1.neg), natL x1.n, natL x1.d], none, none⟩, some ⟨27, [Leaf.val (.bool y0.neg), natL y0.n, natL y0.d, Leaf.val (.bool y1.neg), natL y1.n, natL y1.d], none, none⟩, some ⟨27, [Leaf.val (.bool (cneg (mn (mn (mn (x0.q * y0.q) (x0.q * y1.q)) (x1.q * y0.q)) (x1.q * y1.q)))), natL (limbs (cnum (mn (mn (mn (x0.q * y0.q) (x0.q * y1.q)) (x1.q * y0.q)) (x1.q * y1.q)))), natL (limbs (cden (mn (mn (mn (x0.q * y0.q) (x0.q * y1.q)) (x1.q * y0.q)) (x1.q * y1.q)))), Leaf.val (.bool (cneg (mx (mx (mx (x0.q * y0.q) (x0.q * y1.q)) (x1.q * y0.q)) (x1.q * y1.q)))), natL (limbs (cnum (mx (mx (mx (x0.q * y0.q) (x0.q * y1.q)) (x1.q * y0.q)) (x1.q * y1.q)))), natL (limbs (cden (mx (mx (mx (x0.q * y0.q) (x0.q * y1.q)) (x1.q * y0.q)) (x1.q * y1.q))))], none, none⟩, some ⟨27, [Leaf.val (.bool (cneg (mx 0 x0.q))), natL (limbs (cnum (mx 0 x0.q))), natL (limbs (cden (mx 0 x0.q))), Leaf.val (.bool (cneg (mx 0 x1.q))), natL (limbs (cnum (mx 0 x1.q))), natL (limbs (cden (mx 0 x1.q)))], none, none⟩] ⟨rfl, rfl, rfl, rfl, rfl, trivial⟩ rfl ?_
      refine Tc_drawK 0 [none, none, none, none, none, none, none, none, none, none, none, none, none] [] follows (by kernel_rfl) ?_
      refine DK_q (JO_q rfl rfl (Jq_load_agg rfl rfl rfl (by decide) ty27 (by decide) (Nat.le_of_ble_eq_true rfl) rfl)) ?_
      refine DK_q (JO_q rfl rfl (Jq_load_agg rfl rfl rfl (by decide) ty27 (by decide) (Nat.le_of_ble_eq_true rfl) rfl)) ?_
      refine DK_q (JO_q rfl rfl (Jq_load_agg rfl rfl rfl (by decide) ty27 (by decide) (Nat.le_of_ble_eq_true rfl) rfl)) ?_
      refine DK_c rfl rfl (Jd_call rfl fn14 rfl (rimul x0 (x0.q) rfl (hfx0.mono (by omega)) x1 (x1.q) rfl (hfx1.mono (by omega)) y0 (y0.q) rfl (hfy0.mono (by omega)) y1 (y1.q) rfl (hfy1.mono (by omega)))) ?_
      refine DK_c rfl rfl (Jd_call rfl fn13 rfl (risame (qOf (mn (mn (mn (x0.q * y0.q) (x0.q * y1.q)) (x1.q * y0.q)) (x1.q * y1.q))) (qOf (mx (mx (mx (x0.q * y0.q) (x0.q * y1.q)) (x1.q * y0.q)) (x1.q * y1.q))) (qOf (mn (mn (x0.q * y0.q) (x1.q * y0.q)) (mn (x0.q * y1.q) (x1.q * y1.q)))) (qOf (mx (mx (x0.q * y0.q) (x1.q * y0.q)) (mx (x0.q * y1.q) (x1.q * y1.q)))))) ?_
      refine DK_is true (sm (mul_same_lo x0.q x1.q y0.q y1.q) (mul_same_hi x0.q x1.q y0.q y1.q)) ?_
      refine DK_q (JO_q rfl rfl (Jq_not rfl rfl (c := false) rfl)) ?_
      refine DK_q (JO_q rfl rfl (Jq_move rfl rfl)) ?_
      refine DK_q (JO_qg rfl rfl rfl rfl (Jq_load_agg rfl rfl rfl (by decide) ty27 (by decide) (Nat.le_of_ble_eq_true rfl) rfl)) ?_
      refine DK_q (JO_qg rfl rfl rfl rfl (Jq_load_agg rfl rfl rfl (by decide) ty27 (by decide) (Nat.le_of_ble_eq_true rfl) rfl)) ?_
      refine DK_cg rfl rfl rfl rfl (Jd_call rfl fn15 rfl (rirelu x0 (x0.q) rfl (hfx0.mono (by omega)) x1 (x1.q) rfl (hfx1.mono (by omega)))) ?_
      refine DK_cg rfl rfl rfl rfl (Jd_call rfl fn13 rfl (risame (qOf (mx 0 x0.q)) (qOf (mx 0 x1.q)) (qOf (mx x0.q 0)) (qOf (mx x1.q 0)))) ?_
      refine DK_is true (sm (mx_comm _ _) (mx_comm _ _)) ?_
      refine DK_q (JO_qg rfl rfl rfl rfl (Jq_not rfl rfl (c := false) rfl)) ?_
      refine DK_q (JO_q rfl rfl (Jq_pick_f rfl rfl rfl)) ?_
      refine DK_nil ?_
      refine At_then ?_
      refine Tc_f rfl ?_
      refine Tc_skipA ?_
      refine At_then ?_
      refine Tc_seq ?_
      refine Tc_norm [(2, some (D.val (.int .u16 (n : Int)))), (3, some (D.ptr 0 0)), (4, some (D.ptr 1 0)), (7, some (D.ptr 2 0)), (8, some (D.ptr 3 0))] [some ⟨27, [Leaf.val (.bool x0.neg), natL x0.n, natL x0.d, Leaf.val (.bool x1.neg), natL x1.n, natL x1.d], none, none⟩, some ⟨27, [Leaf.val (.bool y0.neg), natL y0.n, natL y0.d, Leaf.val (.bool y1.neg), natL y1.n, natL y1.d], none, none⟩, some ⟨27, [Leaf.val (.bool (cneg (mn (mn (mn (x0.q * y0.q) (x0.q * y1.q)) (x1.q * y0.q)) (x1.q * y1.q)))), natL (limbs (cnum (mn (mn (mn (x0.q * y0.q) (x0.q * y1.q)) (x1.q * y0.q)) (x1.q * y1.q)))), natL (limbs (cden (mn (mn (mn (x0.q * y0.q) (x0.q * y1.q)) (x1.q * y0.q)) (x1.q * y1.q)))), Leaf.val (.bool (cneg (mx (mx (mx (x0.q * y0.q) (x0.q * y1.q)) (x1.q * y0.q)) (x1.q * y1.q)))), natL (limbs (cnum (mx (mx (mx (x0.q * y0.q) (x0.q * y1.q)) (x1.q * y0.q)) (x1.q * y1.q)))), natL (limbs (cden (mx (mx (mx (x0.q * y0.q) (x0.q * y1.q)) (x1.q * y0.q)) (x1.q * y1.q))))], none, none⟩, some ⟨27, [Leaf.val (.bool (cneg (mx 0 x0.q))), natL (limbs (cnum (mx 0 x0.q))), natL (limbs (cden (mx 0 x0.q))), Leaf.val (.bool (cneg (mx 0 x1.q))), natL (limbs (cnum (mx 0 x1.q))), natL (limbs (cden (mx 0 x1.q)))], none, none⟩] ⟨rfl, rfl, rfl, rfl, rfl, trivial⟩ rfl ?_
      refine Tc_drawK 2 [none, none, none, none, none, none, none, none, none, some 4, some 5, some 4, some 5] [4, 5] follows (by kernel_rfl) ?_
      refine DK_q (JO_q rfl rfl (Jq_load_agg rfl rfl rfl (by decide) ty27 (by decide) (Nat.le_of_ble_eq_true rfl) rfl)) ?_
      refine DK_q (JO_q rfl rfl (Jq_move rfl rfl)) ?_
      refine DK_q (JO_q rfl rfl (Jq_convert rfl rfl un5 us28 (r := ((n % 256 : Nat) : Int)) (wu8 (by omega)))) ?_
      refine DK_c rfl rfl (Jd_call rfl fn16 rfl (l6at x0 (x0.q) rfl (hfx0.mono (by omega)) x1 (x1.q) rfl (hfx1.mono (by omega)) (n % 256) (by omega))) ?_
      refine DK_q (JO_q rfl rfl (Jq_load_agg rfl rfl rfl (by decide) ty27 (by decide) (Nat.le_of_ble_eq_true rfl) rfl)) ?_
      refine DK_q (JO_q rfl rfl (Jq_move rfl rfl)) ?_
      refine DK_q (JO_q rfl rfl (Jq_shr rfl rfl rfl (by decide) (r := ((n / 256 : Nat) : Int)) (shr_nat n 8 rfl))) ?_
      refine DK_q (JO_q rfl rfl (Jq_convert rfl rfl un5 us28 (r := ((n / 256 : Nat) : Int)) (wu8 (by omega)))) ?_
      refine DK_c rfl rfl (Jd_call rfl fn16 rfl (l6at y0 (y0.q) rfl (hfy0.mono (by omega)) y1 (y1.q) rfl (hfy1.mono (by omega)) (n / 256) (by omega))) ?_
      refine DK_s 4 rfl rfl rfl (Jd_alloc (i := 4) rfl tz25 rfl) ?_
      refine DK_s 5 rfl rfl rfl (Jd_alloc (i := 5) rfl tz25 rfl) ?_
      refine DK_s 4 rfl rfl rfl (Jd_store rfl rfl rfl rfl ty25 rfl (by decide) (Nat.le_of_ble_eq_true rfl) rfl) ?_
      refine DK_s 5 rfl rfl rfl (Jd_store rfl rfl rfl rfl ty25 rfl (by decide) (Nat.le_of_ble_eq_true rfl) rfl) ?_
      refine DK_nil ?_
      refine At_then ?_
      refine Tc_seq ?_
      have hx := atp_in (n % 256) hlx; have hy := atp_in (n / 256) hly
      have hh := hull hx.1 hx.2 hy.1 hy.2
      refine Tc_free 0 ?_
      refine Tc_free 1 ?_
      refine Tc_norm [(7, some (D.ptr 2 0)), (8, some (D.ptr 3 0)), (9, some (D.ptr 4 0)), (10, some (D.ptr 5 0))] [none, none, some ⟨27, [Leaf.val (.bool (cneg (mn (mn (mn (x0.q * y0.q) (x0.q * y1.q)) (x1.q * y0.q)) (x1.q * y1.q)))), natL (limbs (cnum (mn (mn (mn (x0.q * y0.q) (x0.q * y1.q)) (x1.q * y0.q)) (x1.q * y1.q)))), natL (limbs (cden (mn (mn (mn (x0.q * y0.q) (x0.q * y1.q)) (x1.q * y0.q)) (x1.q * y1.q)))), Leaf.val (.bool (cneg (mx (mx (mx (x0.q * y0.q) (x0.q * y1.q)) (x1.q * y0.q)) (x1.q * y1.q)))), natL (limbs (cnum (mx (mx (mx (x0.q * y0.q) (x0.q * y1.q)) (x1.q * y0.q)) (x1.q * y1.q)))), natL (limbs (cden (mx (mx (mx (x0.q * y0.q) (x0.q * y1.q)) (x1.q * y0.q)) (x1.q * y1.q))))], none, none⟩, some ⟨27, [Leaf.val (.bool (cneg (mx 0 x0.q))), natL (limbs (cnum (mx 0 x0.q))), natL (limbs (cden (mx 0 x0.q))), Leaf.val (.bool (cneg (mx 0 x1.q))), natL (limbs (cnum (mx 0 x1.q))), natL (limbs (cden (mx 0 x1.q)))], none, none⟩, some ⟨25, [Leaf.val (.bool (cneg (atp (n % 256) x0.q x1.q))), natL (limbs (cnum (atp (n % 256) x0.q x1.q))), natL (limbs (cden (atp (n % 256) x0.q x1.q)))], none, none⟩, some ⟨25, [Leaf.val (.bool (cneg (atp (n / 256) y0.q y1.q))), natL (limbs (cnum (atp (n / 256) y0.q y1.q))), natL (limbs (cden (atp (n / 256) y0.q y1.q)))], none, none⟩] ⟨rfl, rfl, rfl, rfl, trivial⟩ rfl ?_
      refine Tc_drawK 0 [none, none, none, none, none, none, none, none, none, none, none, none, none] [] follows (by kernel_rfl) ?_
      refine DK_q (JO_q rfl rfl (Jq_load_agg rfl rfl rfl (by decide) ty27 (by decide) (Nat.le_of_ble_eq_true rfl) rfl)) ?_
      refine DK_q (JO_q rfl rfl (Jq_load_agg rfl rfl rfl (by decide) ty25 (by decide) (Nat.le_of_ble_eq_true rfl) rfl)) ?_
      refine DK_q (JO_q rfl rfl (Jq_load_agg rfl rfl rfl (by decide) ty25 (by decide) (Nat.le_of_ble_eq_true rfl) rfl)) ?_
      refine DK_c rfl rfl (Jd_call rfl fn18 rfl (rqmul (qOf (atp (n % 256) x0.q x1.q)) (atp (n % 256) x0.q x1.q) (qOf_q _) (Br.use (by omega)) (qOf (atp (n / 256) y0.q y1.q)) (atp (n / 256) y0.q y1.q) (qOf_q _) (Br.use (by omega)))) ?_
      refine DK_c rfl rfl (Jd_call rfl fn17 rfl (icontains (qOf (mn (mn (mn (x0.q * y0.q) (x0.q * y1.q)) (x1.q * y0.q)) (x1.q * y1.q))) (mn (mn (mn (x0.q * y0.q) (x0.q * y1.q)) (x1.q * y0.q)) (x1.q * y1.q)) (qOf_q _) (Br.use (by omega)) (qOf (mx (mx (mx (x0.q * y0.q) (x0.q * y1.q)) (x1.q * y0.q)) (x1.q * y1.q))) (mx (mx (mx (x0.q * y0.q) (x0.q * y1.q)) (x1.q * y0.q)) (x1.q * y1.q)) (qOf_q _) (Br.use (by omega)) (qOf ((atp (n % 256) x0.q x1.q) * (atp (n / 256) y0.q y1.q))) ((atp (n % 256) x0.q x1.q) * (atp (n / 256) y0.q y1.q)) (qOf_q _) (Br.use (by omega)))) ?_
      refine DK_is true (ct hh.1 hh.2) ?_
      refine DK_q (JO_q rfl rfl (Jq_move rfl rfl)) ?_
      refine DK_q (JO_qg rfl rfl rfl rfl (Jq_load_agg rfl rfl rfl (by decide) ty27 (by decide) (Nat.le_of_ble_eq_true rfl) rfl)) ?_
      refine DK_q (JO_qg rfl rfl rfl rfl (Jq_load_agg rfl rfl rfl (by decide) ty25 (by decide) (Nat.le_of_ble_eq_true rfl) rfl)) ?_
      refine DK_q (JO_qg rfl rfl rfl rfl (Jq_build rfl tz25 rfl pl25 rfl)) ?_
      refine DK_cg rfl rfl rfl rfl (Jd_call rfl fn19 rfl (rqmax (qOf (atp (n % 256) x0.q x1.q)) (atp (n % 256) x0.q x1.q) (qOf_q _) (Br.use (by omega)) qZero (0) qZero_q qZero_fit)) ?_
      refine DK_cg rfl rfl rfl rfl (Jd_call rfl fn17 rfl (icontains (qOf (mx 0 x0.q)) (mx 0 x0.q) (qOf_q _) (Br.use (by omega)) (qOf (mx 0 x1.q)) (mx 0 x1.q) (qOf_q _) (Br.use (by omega)) (qOf (mx (atp (n % 256) x0.q x1.q) (0))) (mx (atp (n % 256) x0.q x1.q) (0)) (qOf_q _) (Br.use (by omega)))) ?_
      refine DK_is true (ct (by rw [mx_comm _ 0]; exact mx_mono hx.1) (by rw [mx_comm _ 0]; exact mx_mono hx.2)) ?_
      refine DK_q (JO_q rfl rfl (Jq_pick_t rfl rfl rfl)) ?_
      refine DK_q (JO_q rfl rfl (Jq_assign rfl rfl)) ?_
      refine DK_nil ?_
      refine At_then ?_
      exact Tc_ret1 (fun _ _ h => h) rfl rfl rfl
  · skip
    refine Tl_q (JO_skip rfl rfl rfl) rfl ?_
    refine Tl_q (JO_skip rfl rfl rfl) rfl ?_
    refine Tl_q (JO_skip rfl rfl rfl) rfl ?_
    refine Tl_q (JO_q rfl rfl (Jq_pick_t rfl rfl rfl)) rfl ?_
    refine Tl_end ?_
    refine At_then ?_
    refine Tc_t rfl ?_
    refine Tc_seq ?_
    refine Tc_region ?_
    refine Tl_q (JO_q rfl rfl (Jq_assign rfl rfl)) rfl ?_
    refine Tl_end ?_
    refine At_then ?_
    exact Tc_ret1 (fun _ _ h => h) rfl rfl rfl

end Go.Proofs.Ytpabkdpijcbkgaa
