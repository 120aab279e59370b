/- Walk: a law of chapter 6. -/
import Derived.Test.YtpabkdpijcbkgaaWkL
namespace Go.Proofs.Ytpabkdpijcbkgaa
open Go Go.RowKit Rc


set_option maxRecDepth 10000 in
set_option maxHeartbeats 2000000 in
theorem law_sum (x0 x1 y0 y1 : Qr) (c : Qr) : Ctr Try.prog 8 [iV x0 x1, iV y0 y1, qV c] (R.one (V.one (Leaf.val (.bool (true))))) := by
  refine Ctr.of_body Try.func8 rfl Try.ntmps8 (Nat.le_of_ble_eq_true rfl) (fun w0 A0 => ?_)
  refine Tc_seq ?_
  refine Tc_region ?_
  refine Tl_e (JO_e rfl rfl (Je_box (n := 0) rfl rfl rfl)) rfl rfl ?_
  refine Tl_e (JO_e rfl rfl (Je_box (n := 1) rfl rfl rfl)) rfl rfl ?_
  refine Tl_e (JO_e rfl rfl (Je_box (n := 2) rfl rfl rfl)) rfl rfl ?_
  refine Tl_q (JO_q rfl rfl (Jq_assign rfl rfl)) rfl ?_
  refine Tl_end ?_
  refine At_then ?_
  refine Tc_seq ?_
  refine Tc_seq ?_
  refine Tc_region ?_
  refine Tl_e (JO_e rfl rfl (Je_call rfl fn9 rfl (l6awake))) rfl rfl ?_
  refine Tl_q (JO_q rfl rfl (Jq_not rfl rfl (c := false) rfl)) rfl ?_
  refine Tl_end ?_
  refine At_then ?_
  refine Tc_f rfl ?_
  refine Tc_skipA ?_
  refine At_then ?_
  refine Tc_seq ?_
  refine Tc_seq ?_
  refine Tc_region ?_
  refine Tl_q (JO_q rfl rfl (Jq_load_agg rfl rfl rfl (by decide) ty27 (by decide) (Nat.le_of_ble_eq_true rfl) rfl)) rfl ?_
  refine Tl_e (JO_e rfl rfl (Je_call rfl fn10 rfl (l6small x0 x1))) rfl rfl ?_
  refine Tl_q (JO_q rfl rfl (Jq_not rfl rfl (c := _) rfl)) rfl ?_
  refine Tl_q (JO_q rfl rfl (Jq_move rfl rfl)) rfl ?_
  refine Tl_two (fun hb17 => ?_) (fun hb17 => ?_)
  · skip
    refine Tl_q (JO_qg rfl rfl rfl rfl (Jq_load_agg rfl rfl rfl (by decide) ty27 (by decide) (Nat.le_of_ble_eq_true rfl) rfl)) rfl ?_
    refine Tl_e (JO_eg rfl rfl rfl rfl (Je_call rfl fn10 rfl (l6small y0 y1))) rfl rfl ?_
    refine Tl_q (JO_qg rfl rfl rfl rfl (Jq_not rfl rfl (c := _) rfl)) rfl ?_
    refine Tl_q (JO_q rfl rfl (Jq_pick_f rfl rfl rfl)) rfl ?_
    refine Tl_q (JO_q rfl rfl (Jq_move rfl rfl)) rfl ?_
    refine Tl_two (fun hb22 => ?_) (fun hb22 => ?_)
    · skip
      refine Tl_q (JO_qg rfl rfl rfl rfl (Jq_load_agg rfl rfl rfl (by decide) ty25 (by decide) (Nat.le_of_ble_eq_true rfl) rfl)) rfl ?_
      refine Tl_e (JO_eg rfl rfl rfl rfl (Je_call rfl fn27 rfl (l6short c))) rfl rfl ?_
      refine Tl_q (JO_qg rfl rfl rfl rfl (Jq_not rfl rfl (c := _) rfl)) rfl ?_
      refine Tl_q (JO_q rfl rfl (Jq_pick_f rfl rfl rfl)) rfl ?_
      refine Tl_end ?_
      refine At_then ?_
      refine Tc_cond rfl (fun hc26 => ?_) (fun hc26 => ?_)
      · skip
        refine Tc_seq ?_
        refine Tc_region ?_
        refine Tl_q (JO_q rfl rfl (Jq_assign rfl rfl)) rfl ?_
        refine Tl_end ?_
        refine At_then ?_
        exact Tc_ret1 (fun _ _ h => h) rfl rfl rfl
      · skip
        refine Tc_skipA ?_
        refine At_then ?_
        refine Tc_seq ?_
        obtain ⟨hfx0, hfx1, hlx⟩ := smI_facts hb17
        haveI ibx0 : Br x0.q 2 := Br.q hfx0
        haveI ibx1 : Br x1.q 2 := Br.q hfx1
        obtain ⟨hfy0, hfy1, hly⟩ := smI_facts hb22
        haveI iby0 : Br y0.q 2 := Br.q hfy0
        haveI iby1 : Br y1.q 2 := Br.q hfy1
        have hfc : Fit 2 c := sh_facts hc26
        haveI ibc : Br c.q 2 := Br.q hfc
        have hsc := scale_lo (t := c.q) hlx
        refine Tc_norm [(3, some (D.ptr 0 0)), (4, some (D.ptr 1 0)), (5, some (D.ptr 2 0))] [some ⟨27, [Leaf.val (.bool x0.neg), natL x0.n, natL x0.d, Leaf.val (.bool x1.neg), natL x1.n, natL x1.d], none, none⟩, some ⟨27, [Leaf.val (.bool y0.neg), natL y0.n, natL y0.d, Leaf.val (.bool y1.neg), natL y1.n, natL y1.d], none, none⟩, some ⟨25, [Leaf.val (.bool c.neg), natL c.n, natL c.d], none, none⟩] ⟨rfl, rfl, rfl, trivial⟩ rfl ?_
        refine Tc_drawK 3 [none, none, none, none, none, none, none, none, some 3, some 4, some 5, some 3, some 4, some 5] [3, 4, 5] follows (by kernel_rfl) ?_
        refine DK_q (JO_q rfl rfl (Jq_load_agg rfl rfl rfl (by decide) ty27 (by decide) (Nat.le_of_ble_eq_true rfl) rfl)) ?_
        refine DK_q (JO_q rfl rfl (Jq_load_agg rfl rfl rfl (by decide) ty27 (by decide) (Nat.le_of_ble_eq_true rfl) rfl)) ?_
        refine DK_c rfl rfl (Jd_call rfl fn33 rfl (iadd x0 (x0.q) rfl (hfx0.mono (by omega)) x1 (x1.q) rfl (hfx1.mono (by omega)) y0 (y0.q) rfl (hfy0.mono (by omega)) y1 (y1.q) rfl (hfy1.mono (by omega)))) ?_
        refine DK_q (JO_q rfl rfl (Jq_load_agg rfl rfl rfl (by decide) ty27 (by decide) (Nat.le_of_ble_eq_true rfl) rfl)) ?_
        refine DK_c rfl rfl (Jd_call rfl fn34 rfl (ineg x0 (x0.q) rfl (hfx0.mono (by omega)) x1 (x1.q) rfl (hfx1.mono (by omega)))) ?_
        refine DK_q (JO_q rfl rfl (Jq_load_agg rfl rfl rfl (by decide) ty27 (by decide) (Nat.le_of_ble_eq_true rfl) rfl)) ?_
        refine DK_q (JO_q rfl rfl (Jq_load_agg rfl rfl rfl (by decide) ty25 (by decide) (Nat.le_of_ble_eq_true rfl) rfl)) ?_
        refine DK_c rfl rfl (Jd_call rfl fn35 rfl (iscale x0 (x0.q) rfl (hfx0.mono (by omega)) x1 (x1.q) rfl (hfx1.mono (by omega)) c (c.q) rfl (hfc.mono (by omega)))) ?_
        refine DK_s 3 rfl rfl rfl (Jd_alloc (i := 3) rfl tz27 rfl) ?_
        refine DK_s 4 rfl rfl rfl (Jd_alloc (i := 4) rfl tz27 rfl) ?_
        refine DK_s 5 rfl rfl rfl (Jd_alloc (i := 5) rfl tz27 rfl) ?_
        refine DK_s 3 rfl rfl rfl (Jd_store rfl rfl rfl rfl ty27 rfl (by decide) (Nat.le_of_ble_eq_true rfl) rfl) ?_
        refine DK_s 4 rfl rfl rfl (Jd_store rfl rfl rfl rfl ty27 rfl (by decide) (Nat.le_of_ble_eq_true rfl) rfl) ?_
        refine DK_s 5 rfl rfl rfl (Jd_store rfl rfl rfl rfl ty27 rfl (by decide) (Nat.le_of_ble_eq_true rfl) rfl) ?_
        refine DK_nil ?_
        refine At_then ?_
        refine Tc_seq ?_
        refine Tc_seq ?_
        refine Tc_norm [(3, some (D.ptr 0 0)), (4, some (D.ptr 1 0)), (5, some (D.ptr 2 0)), (7, some (D.ptr 3 0)), (8, some (D.ptr 4 0)), (9, some (D.ptr 5 0))] [some ⟨27, [Leaf.val (.bool x0.neg), natL x0.n, natL x0.d, Leaf.val (.bool x1.neg), natL x1.n, natL x1.d], none, none⟩, some ⟨27, [Leaf.val (.bool y0.neg), natL y0.n, natL y0.d, Leaf.val (.bool y1.neg), natL y1.n, natL y1.d], none, none⟩, some ⟨25, [Leaf.val (.bool c.neg), natL c.n, natL c.d], none, none⟩, some ⟨27, [Leaf.val (.bool (cneg (x0.q + y0.q))), natL (limbs (cnum (x0.q + y0.q))), natL (limbs (cden (x0.q + y0.q))), Leaf.val (.bool (cneg (x1.q + y1.q))), natL (limbs (cnum (x1.q + y1.q))), natL (limbs (cden (x1.q + y1.q)))], none, none⟩, some ⟨27, [Leaf.val (.bool (cneg (-x1.q))), natL (limbs (cnum (-x1.q))), natL (limbs (cden (-x1.q))), Leaf.val (.bool (cneg (-x0.q))), natL (limbs (cnum (-x0.q))), natL (limbs (cden (-x0.q)))], none, none⟩, some ⟨27, [Leaf.val (.bool (cneg (scl c.q x0.q x1.q))), natL (limbs (cnum (scl c.q x0.q x1.q))), natL (limbs (cden (scl c.q x0.q x1.q))), Leaf.val (.bool (cneg (sch c.q x0.q x1.q))), natL (limbs (cnum (sch c.q x0.q x1.q))), natL (limbs (cden (sch c.q x0.q x1.q)))], none, none⟩] ⟨rfl, rfl, rfl, rfl, rfl, rfl, trivial⟩ rfl ?_
        refine Tc_drawK 0 [none, none, none, none, none, none, none, none, none, none, none, none, none, none, none, none, none, none, none, none, none] [] follows (by kernel_rfl) ?_
        refine DK_q (JO_q rfl rfl (Jq_load_agg rfl rfl rfl (by decide) ty27 (by decide) (Nat.le_of_ble_eq_true rfl) rfl)) ?_
        refine DK_q (JO_q rfl rfl (Jq_load_agg rfl rfl rfl (by decide) ty27 (by decide) (Nat.le_of_ble_eq_true rfl) rfl)) ?_
        refine DK_q (JO_q rfl rfl (Jq_load_agg rfl rfl rfl (by decide) ty27 (by decide) (Nat.le_of_ble_eq_true rfl) rfl)) ?_
        refine DK_c rfl rfl (Jd_call rfl fn36 rfl (riadd x0 (x0.q) rfl (hfx0.mono (by omega)) x1 (x1.q) rfl (hfx1.mono (by omega)) y0 (y0.q) rfl (hfy0.mono (by omega)) y1 (y1.q) rfl (hfy1.mono (by omega)))) ?_
        refine DK_c rfl rfl (Jd_call rfl fn13 rfl (risame (qOf (x0.q + y0.q)) (qOf (x1.q + y1.q)) (qOf (x0.q + y0.q)) (qOf (x1.q + y1.q)))) ?_
        refine DK_is true (sm rfl rfl) ?_
        refine DK_q (JO_q rfl rfl (Jq_not rfl rfl (c := false) rfl)) ?_
        refine DK_q (JO_q rfl rfl (Jq_move rfl rfl)) ?_
        refine DK_q (JO_qg rfl rfl rfl rfl (Jq_load_agg rfl rfl rfl (by decide) ty27 (by decide) (Nat.le_of_ble_eq_true rfl) rfl)) ?_
        refine DK_q (JO_qg rfl rfl rfl rfl (Jq_load_agg rfl rfl rfl (by decide) ty27 (by decide) (Nat.le_of_ble_eq_true rfl) rfl)) ?_
        refine DK_cg rfl rfl rfl rfl (Jd_call rfl fn37 rfl (rineg x0 (x0.q) rfl (hfx0.mono (by omega)) x1 (x1.q) rfl (hfx1.mono (by omega)))) ?_
        refine DK_cg rfl rfl rfl rfl (Jd_call rfl fn13 rfl (risame (qOf (-x1.q)) (qOf (-x0.q)) (qOf (-x1.q)) (qOf (-x0.q)))) ?_
        refine DK_is true (sm rfl rfl) ?_
        refine DK_q (JO_qg rfl rfl rfl rfl (Jq_not rfl rfl (c := false) rfl)) ?_
        refine DK_q (JO_q rfl rfl (Jq_pick_f rfl rfl rfl)) ?_
        refine DK_q (JO_q rfl rfl (Jq_move rfl rfl)) ?_
        refine DK_q (JO_qg rfl rfl rfl rfl (Jq_load_agg rfl rfl rfl (by decide) ty27 (by decide) (Nat.le_of_ble_eq_true rfl) rfl)) ?_
        refine DK_q (JO_qg rfl rfl rfl rfl (Jq_load_agg rfl rfl rfl (by decide) ty27 (by decide) (Nat.le_of_ble_eq_true rfl) rfl)) ?_
        refine DK_q (JO_qg rfl rfl rfl rfl (Jq_load_agg rfl rfl rfl (by decide) ty25 (by decide) (Nat.le_of_ble_eq_true rfl) rfl)) ?_
        refine DK_cg rfl rfl rfl rfl (Jd_call rfl fn38 rfl (riscale x0 (x0.q) rfl (hfx0.mono (by omega)) x1 (x1.q) rfl (hfx1.mono (by omega)) c (c.q) rfl (hfc.mono (by omega)))) ?_
        refine DK_cg rfl rfl rfl rfl (Jd_call rfl fn13 rfl (risame (qOf (scl c.q x0.q x1.q)) (qOf (sch c.q x0.q x1.q)) (qOf (mn (x0.q * c.q) (x1.q * c.q))) (qOf (mx (x0.q * c.q) (x1.q * c.q))))) ?_
        refine DK_is true (sm hsc.1 hsc.2) ?_
        refine DK_q (JO_qg rfl rfl rfl rfl (Jq_not rfl rfl (c := false) rfl)) ?_
        refine DK_q (JO_q rfl rfl (Jq_pick_f rfl rfl rfl)) ?_
        refine DK_nil ?_
        refine At_then ?_
        refine Tc_f rfl ?_
        refine Tc_skipA ?_
        refine At_then ?_
        refine Tc_seq ?_
        refine Tc_norm [(3, some (D.ptr 0 0)), (4, some (D.ptr 1 0)), (5, some (D.ptr 2 0)), (7, some (D.ptr 3 0)), (8, some (D.ptr 4 0)), (9, some (D.ptr 5 0))] [some ⟨27, [Leaf.val (.bool x0.neg), natL x0.n, natL x0.d, Leaf.val (.bool x1.neg), natL x1.n, natL x1.d], none, none⟩, some ⟨27, [Leaf.val (.bool y0.neg), natL y0.n, natL y0.d, Leaf.val (.bool y1.neg), natL y1.n, natL y1.d], none, none⟩, some ⟨25, [Leaf.val (.bool c.neg), natL c.n, natL c.d], none, none⟩, some ⟨27, [Leaf.val (.bool (cneg (x0.q + y0.q))), natL (limbs (cnum (x0.q + y0.q))), natL (limbs (cden (x0.q + y0.q))), Leaf.val (.bool (cneg (x1.q + y1.q))), natL (limbs (cnum (x1.q + y1.q))), natL (limbs (cden (x1.q + y1.q)))], none, none⟩, some ⟨27, [Leaf.val (.bool (cneg (-x1.q))), natL (limbs (cnum (-x1.q))), natL (limbs (cden (-x1.q))), Leaf.val (.bool (cneg (-x0.q))), natL (limbs (cnum (-x0.q))), natL (limbs (cden (-x0.q)))], none, none⟩, some ⟨27, [Leaf.val (.bool (cneg (scl c.q x0.q x1.q))), natL (limbs (cnum (scl c.q x0.q x1.q))), natL (limbs (cden (scl c.q x0.q x1.q))), Leaf.val (.bool (cneg (sch c.q x0.q x1.q))), natL (limbs (cnum (sch c.q x0.q x1.q))), natL (limbs (cden (sch c.q x0.q x1.q)))], none, none⟩] ⟨rfl, rfl, rfl, rfl, rfl, rfl, trivial⟩ rfl ?_
        refine Tc_drawK 2 [none, none, none, none, some 6, some 7, some 6, some 7] [6, 7] follows (by kernel_rfl) ?_
        refine DK_q (JO_q rfl rfl (Jq_load_agg rfl rfl rfl (by decide) ty27 (by decide) (Nat.le_of_ble_eq_true rfl) rfl)) ?_
        refine DK_c rfl rfl (Jd_call rfl fn16 rfl (l6at x0 (x0.q) rfl (hfx0.mono (by omega)) x1 (x1.q) rfl (hfx1.mono (by omega)) 100 (by omega))) ?_
        refine DK_q (JO_q rfl rfl (Jq_load_agg rfl rfl rfl (by decide) ty27 (by decide) (Nat.le_of_ble_eq_true rfl) rfl)) ?_
        refine DK_c rfl rfl (Jd_call rfl fn16 rfl (l6at y0 (y0.q) rfl (hfy0.mono (by omega)) y1 (y1.q) rfl (hfy1.mono (by omega)) 30 (by omega))) ?_
        refine DK_s 6 rfl rfl rfl (Jd_alloc (i := 6) rfl tz25 rfl) ?_
        refine DK_s 7 rfl rfl rfl (Jd_alloc (i := 7) rfl tz25 rfl) ?_
        refine DK_s 6 rfl rfl rfl (Jd_store rfl rfl rfl rfl ty25 rfl (by decide) (Nat.le_of_ble_eq_true rfl) rfl) ?_
        refine DK_s 7 rfl rfl rfl (Jd_store rfl rfl rfl rfl ty25 rfl (by decide) (Nat.le_of_ble_eq_true rfl) rfl) ?_
        refine DK_nil ?_
        refine At_then ?_
        refine Tc_seq ?_
        have hx := atp_in 100 hlx; have hy := atp_in 30 hly
        have hb := lin_between (y := c.q) hx.1 hx.2
        rw [← hsc.1, ← hsc.2] at hb
        refine Tc_free 0 ?_
        refine Tc_free 1 ?_
        refine Tc_norm [(5, some (D.ptr 2 0)), (7, some (D.ptr 3 0)), (8, some (D.ptr 4 0)), (9, some (D.ptr 5 0)), (10, some (D.ptr 6 0)), (11, some (D.ptr 7 0))] [none, none, some ⟨25, [Leaf.val (.bool c.neg), natL c.n, natL c.d], none, none⟩, some ⟨27, [Leaf.val (.bool (cneg (x0.q + y0.q))), natL (limbs (cnum (x0.q + y0.q))), natL (limbs (cden (x0.q + y0.q))), Leaf.val (.bool (cneg (x1.q + y1.q))), natL (limbs (cnum (x1.q + y1.q))), natL (limbs (cden (x1.q + y1.q)))], none, none⟩, some ⟨27, [Leaf.val (.bool (cneg (-x1.q))), natL (limbs (cnum (-x1.q))), natL (limbs (cden (-x1.q))), Leaf.val (.bool (cneg (-x0.q))), natL (limbs (cnum (-x0.q))), natL (limbs (cden (-x0.q)))], none, none⟩, some ⟨27, [Leaf.val (.bool (cneg (scl c.q x0.q x1.q))), natL (limbs (cnum (scl c.q x0.q x1.q))), natL (limbs (cden (scl c.q x0.q x1.q))), Leaf.val (.bool (cneg (sch c.q x0.q x1.q))), natL (limbs (cnum (sch c.q x0.q x1.q))), natL (limbs (cden (sch c.q x0.q x1.q)))], none, none⟩, some ⟨25, [Leaf.val (.bool (cneg (atp 100 x0.q x1.q))), natL (limbs (cnum (atp 100 x0.q x1.q))), natL (limbs (cden (atp 100 x0.q x1.q)))], none, none⟩, some ⟨25, [Leaf.val (.bool (cneg (atp 30 y0.q y1.q))), natL (limbs (cnum (atp 30 y0.q y1.q))), natL (limbs (cden (atp 30 y0.q y1.q)))], none, none⟩] ⟨rfl, rfl, rfl, rfl, rfl, rfl, trivial⟩ rfl ?_
        refine Tc_drawK 0 [none, none, none, none, none, none, none, none, none, none, none, none, none, none, none, none, none, none, none] [] follows (by kernel_rfl) ?_
        refine DK_q (JO_q rfl rfl (Jq_load_agg rfl rfl rfl (by decide) ty27 (by decide) (Nat.le_of_ble_eq_true rfl) rfl)) ?_
        refine DK_q (JO_q rfl rfl (Jq_load_agg rfl rfl rfl (by decide) ty25 (by decide) (Nat.le_of_ble_eq_true rfl) rfl)) ?_
        refine DK_q (JO_q rfl rfl (Jq_load_agg rfl rfl rfl (by decide) ty25 (by decide) (Nat.le_of_ble_eq_true rfl) rfl)) ?_
        refine DK_c rfl rfl (Jd_call rfl fn39 rfl (rqadd (qOf (atp 100 x0.q x1.q)) (atp 100 x0.q x1.q) (qOf_q _) (Br.use (by omega)) (qOf (atp 30 y0.q y1.q)) (atp 30 y0.q y1.q) (qOf_q _) (Br.use (by omega)))) ?_
        refine DK_c rfl rfl (Jd_call rfl fn17 rfl (icontains (qOf (x0.q + y0.q)) (x0.q + y0.q) (qOf_q _) (Br.use (by omega)) (qOf (x1.q + y1.q)) (x1.q + y1.q) (qOf_q _) (Br.use (by omega)) (qOf ((atp 100 x0.q x1.q) + (atp 30 y0.q y1.q))) ((atp 100 x0.q x1.q) + (atp 30 y0.q y1.q)) (qOf_q _) (Br.use (by omega)))) ?_
        refine DK_is true (ct (by grind) (by grind)) ?_
        refine DK_q (JO_q rfl rfl (Jq_move rfl rfl)) ?_
        refine DK_q (JO_qg rfl rfl rfl rfl (Jq_load_agg rfl rfl rfl (by decide) ty27 (by decide) (Nat.le_of_ble_eq_true rfl) rfl)) ?_
        refine DK_q (JO_qg rfl rfl rfl rfl (Jq_load_agg rfl rfl rfl (by decide) ty25 (by decide) (Nat.le_of_ble_eq_true rfl) rfl)) ?_
        refine DK_cg rfl rfl rfl rfl (Jd_call rfl fn40 rfl (rqneg (qOf (atp 100 x0.q x1.q)) (atp 100 x0.q x1.q) (qOf_q _) (Br.use (by omega)))) ?_
        refine DK_cg rfl rfl rfl rfl (Jd_call rfl fn17 rfl (icontains (qOf (-x1.q)) (-x1.q) (qOf_q _) (Br.use (by omega)) (qOf (-x0.q)) (-x0.q) (qOf_q _) (Br.use (by omega)) (qOf (-(atp 100 x0.q x1.q))) (-(atp 100 x0.q x1.q)) (qOf_q _) (Br.use (by omega)))) ?_
        refine DK_is true (ct (by grind) (by grind)) ?_
        refine DK_q (JO_q rfl rfl (Jq_pick_t rfl rfl rfl)) ?_
        refine DK_q (JO_q rfl rfl (Jq_move rfl rfl)) ?_
        refine DK_q (JO_qg rfl rfl rfl rfl (Jq_load_agg rfl rfl rfl (by decide) ty27 (by decide) (Nat.le_of_ble_eq_true rfl) rfl)) ?_
        refine DK_q (JO_qg rfl rfl rfl rfl (Jq_load_agg rfl rfl rfl (by decide) ty25 (by decide) (Nat.le_of_ble_eq_true rfl) rfl)) ?_
        refine DK_q (JO_qg rfl rfl rfl rfl (Jq_load_agg rfl rfl rfl (by decide) ty25 (by decide) (Nat.le_of_ble_eq_true rfl) rfl)) ?_
        refine DK_cg rfl rfl rfl rfl (Jd_call rfl fn18 rfl (rqmul (qOf (atp 100 x0.q x1.q)) (atp 100 x0.q x1.q) (qOf_q _) (Br.use (by omega)) c (c.q) rfl (hfc.mono (by omega)))) ?_
        refine DK_cg rfl rfl rfl rfl (Jd_call rfl fn17 rfl (icontains (qOf (scl c.q x0.q x1.q)) (scl c.q x0.q x1.q) (qOf_q _) (Br.use (by omega)) (qOf (sch c.q x0.q x1.q)) (sch c.q x0.q x1.q) (qOf_q _) (Br.use (by omega)) (qOf ((atp 100 x0.q x1.q) * (c.q))) ((atp 100 x0.q x1.q) * (c.q)) (qOf_q _) (Br.use (by omega)))) ?_
        refine DK_is true (ct hb.1 hb.2) ?_
        refine DK_q (JO_q rfl rfl (Jq_pick_t rfl rfl rfl)) ?_
        refine DK_q (JO_q rfl rfl (Jq_assign rfl rfl)) ?_
        refine DK_nil ?_
        refine At_then ?_
        exact Tc_ret1 (fun _ _ h => h) rfl rfl rfl
    · skip
      refine Tl_q (JO_skip rfl rfl rfl) rfl ?_
      refine Tl_q (JO_skip rfl rfl rfl) rfl ?_
      refine Tl_q (JO_skip rfl rfl rfl) rfl ?_
      refine Tl_q (JO_q rfl rfl (Jq_pick_t rfl rfl rfl)) rfl ?_
      refine Tl_end ?_
      refine At_then ?_
      refine Tc_t rfl ?_
      refine Tc_seq ?_
      refine Tc_region ?_
      refine Tl_q (JO_q rfl rfl (Jq_assign rfl rfl)) rfl ?_
      refine Tl_end ?_
      refine At_then ?_
      exact Tc_ret1 (fun _ _ h => h) rfl rfl rfl
  · skip
    refine Tl_q (JO_skip rfl rfl rfl) rfl ?_
    refine Tl_q (JO_skip rfl rfl rfl) rfl ?_
    refine Tl_q (JO_skip rfl rfl rfl) rfl ?_
    refine Tl_q (JO_q rfl rfl (Jq_pick_t rfl rfl rfl)) rfl ?_
    refine Tl_q (JO_q rfl rfl (Jq_move rfl rfl)) rfl ?_
    refine Tl_q (JO_skip rfl rfl rfl) rfl ?_
    refine Tl_q (JO_skip rfl rfl rfl) rfl ?_
    refine Tl_q (JO_skip rfl rfl rfl) rfl ?_
    refine Tl_q (JO_q rfl rfl (Jq_pick_t rfl rfl rfl)) rfl ?_
    refine Tl_end ?_
    refine At_then ?_
    refine Tc_t rfl ?_
    refine Tc_seq ?_
    refine Tc_region ?_
    refine Tl_q (JO_q rfl rfl (Jq_assign rfl rfl)) rfl ?_
    refine Tl_end ?_
    refine At_then ?_
    exact Tc_ret1 (fun _ _ h => h) rfl rfl rfl

end Go.Proofs.Ytpabkdpijcbkgaa
