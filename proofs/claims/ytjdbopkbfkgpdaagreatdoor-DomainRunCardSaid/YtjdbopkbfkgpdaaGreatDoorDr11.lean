/- Parts of the proof, 11: the texts WkN, WkO, WlR, WlT, as far as they are used. -/
import Derived.Test.YtjdbopkbfkgpdaaGreatDoorDr10
set_option linter.unusedSimpArgs false
set_option linter.unusedVariables false
namespace Go.Proofs.YtjdbopkbfkgpdaaGreatDoor
open Go Go.RowKit Rc
theorem zeros_w (n:Nat) (h:n≠0) (hl:(limbs n).length≤10000000000000):Ctr Tryz.prog 185 [V.one (natL (limbs n))] (R.one (V.one (Leaf.val (.int .i64 ((tz n:Nat):Int))))):=by
 have h1:=zeros_spec (limbs n) (small_limbs _) (by rw [val_limbs];exact h) hl
 rwa [val_limbs] at h1
theorem rShlZ (l:List Nat) (k:Int) (h0:0≤k) (hk:k≤1048576) (hs:Small l) (hl:l.length≤9000000000000) (m:Nat) (hm:val l = m):Ctr Tryz.prog 110 [V.one (natL l),V.one (Leaf.val (.int .i64 k))] (R.tup [V.one (natL (limbs (m * 2 ^ k.toNat))),V.one (Leaf.val (.int .i64 0))]):=by
 obtain ⟨n,rfl⟩:=Int.eq_ofNat_of_zero_le h0
 exact rShl_spec l n hs (by omega) hl m hm
theorem rbits_w (a:List Nat) (hsa:Small a) (hla:a.length≤10000000000000) (m:Nat) (hm:val a = m):Ctr Tryz.prog 173 [V.one (natL a)] (R.one (V.one (Leaf.val (.int .i64 ((bl m:Nat):Int))))):=by
 subst hm
 exact rbits_spec a hsa hla
set_option maxRecDepth 10000 in
theorem qnum (x:Qr) (r:Rat) (hr:x.q = r) (hfx:Fit 1000000000000 x):Ctr Tryz.prog 165 [qV x] (R.one (zV (zOf r.num))):=by
 refine Ctr.of_body Tryz.func165 rfl Tryz.ntmps165 (Nat.le_of_ble_eq_true rfl) (fun w0 A0=>?_)
 haveI ir:Br r 1000000000000:=Br.fitq hr hfx
 refine c_a (t_f rfl (Je_box (n:=0) rfl rfl rfl) (t_f rfl (Je_alloc (n:=1) rfl tz130 rfl) (cna (a_ FT 1 rfl (t_f rfl (Je_call rfl fn86 rfl (qcanon x (r) hr (hfx.mono (by omega)))) (t_f rfl (Je_alloc (n:=2) rfl tz34 rfl) (a_ FT 1 rfl (cna (a_ FT 4 rfl ?_)))))))))
 refine t_q rfl (Jq_build rfl tz130 rfl pl130 rfl) (a_ FT 1 rfl (c_n ?_))
 exact Tc_ret1 hq_ rfl (rA ty130 rfl rfl rfl rfl) rfl
set_option maxRecDepth 10000 in
theorem qden (x:Qr) (r:Rat) (hr:x.q = r) (hfx:Fit 1000000000000 x):Ctr Tryz.prog 166 [qV x] (R.one (V.one (natL (limbs r.den)))):=by
 refine Ctr.of_body Tryz.func166 rfl Tryz.ntmps166 (Nat.le_of_ble_eq_true rfl) (fun w0 A0=>?_)
 haveI ir:Br r 1000000000000:=Br.fitq hr hfx
 refine c_a (t_f rfl (Je_box (n:=0) rfl rfl rfl) (t_q rfl (Jq_assign_nil rfl) (cna (a_ FT 1 rfl (t_f rfl (Je_call rfl fn86 rfl (qcanon x (r) hr (hfx.mono (by omega)))) (t_f rfl (Je_call rfl fn131 rfl (qunder (qOf (r)) (Br.use (by omega)))) ?_))))))
 refine t_f rfl (Je_call rfl fn159 rfl (make_w (dl (qOf (r)).d) (small_dl (qOf (r)).hd) (len_dl (Br.use (r:=(r)) (Nat.le_refl _)).d (by omega)) (dn (val (qOf (r)).d)) (val_dl _))) (a_ FT 1 rfl (c_n ?_))
 exact Tc_ret1 hq_ rfl rfl (congrArg (fun n=>R.one (V.one (natL (limbs n)))) (dn_qOf r))
set_option maxRecDepth 10000 in
theorem rqden (x:Qr) (r:Rat) (hr:x.q = r) (hfx:Fit 1000000000000 x):Ctr Tryz.prog 145 [qV x] (R.one (V.one (natL (limbs r.den)))):=by
 refine Ctr.of_body Tryz.func145 rfl Tryz.ntmps145 (Nat.le_of_ble_eq_true rfl) (fun w0 A0=>?_)
 haveI ir:Br r 1000000000000:=Br.fitq hr hfx
 refine c_a (t_f rfl (Je_box (n:=0) rfl rfl rfl) (t_q rfl (Jq_assign_nil rfl) (cna (a_ FT 1 rfl (t_f rfl (Je_call rfl fn65 rfl (rqcanon x (r) hr (hfx.mono (by omega)))) (t_q rfl (Jq_fieldT rfl rfl ft34_2 ty32 rfl) (t_f rfl (Je_call rfl fn102 rfl (rqone (limbs (cden r)) (small_limbs _) (Br.use (r:=r) (by omega)).d)) (a_ FT 1 rfl (c_n ?_)))))))))
 exact Tc_ret1 hq_ rfl rfl (congrArg (fun n=>R.one (V.one (natL (limbs n)))) (dn_qOf r))
set_option maxRecDepth 10000 in
theorem dnormal (s:Bool) (l:List Nat) (e:Int) (hs:Small l) (hl:l.length≤100000000000) (he1:-1000000000000000≤e) (he2:e≤1000000000000000) (n:Nat) (hn:val l = n):Ctr Tryz.prog 169 [V.one (Leaf.val (.bool s)),V.one (natL l),V.one (Leaf.val (.int .i64 e))] (R.tup [dV (nrm s n e),V.one (Leaf.val (.bool (nok n e)))]):=by
 refine Ctr.of_body Tryz.func169 rfl Tryz.ntmps169 (Nat.le_of_ble_eq_true rfl) (fun w0 A0=>?_)
 haveI i0:Bn n 100000000000:=by subst hn;exact Bn.val hs hl
 have hb:=bl_le_len (Bn.use (n:=n) (Nat.le_refl _))
 have ht:=tz_le_len (Bn.use (n:=n) (Nat.le_refl _))
 refine c_a (t_f rfl (Je_alloc (n:=0) rfl tz117 rfl) (a_ FT 1 rfl (cna (a_ FT 1 rfl (t_f rfl (Je_call rfl fn159 rfl (make_w l hs (Nat.le_trans hl (by omega)) (n) hn)) (a_ FT 1 rfl (cns (c_a (a_ FT 1 rfl ?_)))))))))
 refine t_q rfl (Jq_len rfl rfl un32) ?_
 by_cases hn0:n = 0
 ·refine t_q rfl (Jq_eql rfl rfl rfl (b:=true) (eT (by rw [hn0,limbs_zero];rfl))) (c_n (Tc_t rfl (c_a (t_q rfl (Jq_build rfl tz117 rfl pl117 rfl) (a_ FT 2 rfl (c_n ?_))))))
  exact Tc_ret2 hq_ rfl (rA ty117 rfl rfl rfl rfl) rfl (by rw [hn0,nrm_zero,nok_zero,dV_zero];rfl)
 ·refine t_q rfl (Jq_eql rfl rfl rfl (b:=false) (eF (by have:=limbs_len_pos.2 hn0;omega))) (c_n (Tc_f rfl (c_b (c_a (a_ FT 1 rfl (t_f rfl (Je_call rfl fn185 rfl (zeros_w n hn0 (Bn.use (by omega)))) (a_ FT 1 rfl (cns (c_a ?_)))))))))
  refine a_ FT 2 rfl (t_q rfl (Jq_add rfl rfl rfl (r:=e + (tz n:Int)) (w64 rfl (by omega) (by omega))) (a_ FT 1 rfl (cna (a_ FT 1 rfl ?_))))
  by_cases h1:e + (tz n:Int) < -1048576
  ·refine t_q rfl (Jq_lss rfl rfl rfl (b:=true) (dT (by omega))) (a_ FT 4 rfl (c_n (Tc_t rfl (c_a (t_q rfl (Jq_build rfl tz117 rfl pl117 rfl) (a_ FT 2 rfl (c_n ?_)))))))
   exact Tc_ret2 hq_ rfl (rA ty117 rfl rfl rfl rfl) rfl (by rw [nrm_out hn0 (.inl h1),nok_out hn0 (.inl h1),dV_zero];rfl)
  ·refine t_q rfl (Jq_lss rfl rfl rfl (b:=false) (dF (by omega))) (a_ FT 2 rfl ?_)
   by_cases h2:1048576 < e + (tz n:Int)
   ·refine t_g rfl rfl rfl rfl (Jq_gtr rfl rfl rfl (b:=true) (dT (by omega))) (a_ FT 1 rfl (c_n (Tc_t rfl (c_a (t_q rfl (Jq_build rfl tz117 rfl pl117 rfl) (a_ FT 2 rfl (c_n ?_)))))))
    exact Tc_ret2 hq_ rfl (rA ty117 rfl rfl rfl rfl) rfl (by rw [nrm_out hn0 (.inr h2),nok_out hn0 (.inr h2),dV_zero];rfl)
   ·refine t_g rfl rfl rfl rfl (Jq_gtr rfl rfl rfl (b:=false) (dF (by omega))) (a_ FT 1 rfl (c_n (Tc_f rfl (c_b (c_a (a_ FT 3 rfl (t_f rfl (Je_call rfl fn186 rfl (dshr_spec n (tz n:Int) (by omega) (Bn.use (by omega)))) (a_ FT 1 rfl (t_q rfl (Jq_build rfl tz117 rfl pl117 rfl) ?_)))))))))
    refine a_ FT 2 rfl (c_n ?_)
    exact Tc_ret2 hq_ rfl (rA ty117 rfl rfl rfl rfl) rfl (by rw [nrm_in hn0 (by omega) (by omega),nok_in hn0 (by omega) (by omega)];rfl)
set_option maxRecDepth 10000 in
theorem dcanon (s:Bool) (l:List Nat) (e:Int) (hs:Small l) (hl:l.length≤100000000000) (he1:-1000000000000000≤e) (he2:e≤1000000000000000) (n:Nat) (hn:val l = n):Ctr Tryz.prog 148 [V.one (Leaf.val (.bool s)),V.one (natL l),V.one (Leaf.val (.int .i64 e))] (R.tup [dV (nrm s n e),V.one (Leaf.val (.bool (nok n e)))]):=by
 refine Ctr.of_body Tryz.func148 rfl Tryz.ntmps148 (Nat.le_of_ble_eq_true rfl) (fun w0 A0=>?_)
 haveI i0:Bn n 100000000000:=by subst hn;exact Bn.val hs hl
 have hb:=bl_le_len (Bn.use (n:=n) (Nat.le_refl _))
 have ht:=tz_le_len (Bn.use (n:=n) (Nat.le_refl _))
 refine c_a (t_f rfl (Je_alloc (n:=0) rfl tz117 rfl) (a_ FT 1 rfl (cna (a_ FT 1 rfl (t_f rfl (Je_call rfl fn139 rfl (rmake_w l hs (Nat.le_trans hl (by omega)) (n) hn)) (a_ FT 1 rfl (cns (c_a (a_ FT 1 rfl ?_)))))))))
 refine t_q rfl (Jq_len rfl rfl un32) ?_
 by_cases hn0:n = 0
 ·refine t_q rfl (Jq_eql rfl rfl rfl (b:=true) (eT (by rw [hn0,limbs_zero];rfl))) (c_n (Tc_t rfl (c_a (t_q rfl (Jq_build rfl tz117 rfl pl117 rfl) (a_ FT 2 rfl (c_n ?_))))))
  exact Tc_ret2 hq_ rfl (rA ty117 rfl rfl rfl rfl) rfl (by rw [hn0,nrm_zero,nok_zero,dV_zero];rfl)
 ·refine t_q rfl (Jq_eql rfl rfl rfl (b:=false) (eF (by have:=limbs_len_pos.2 hn0;omega))) (c_n (Tc_f rfl (c_b (Tc_seq (Tc_block ?_)))))
  refine Tc_loopR (fun m Γ H=>∃ (x:Nat) (f:Int),x = m∧Γ = [(0,some (D.bool s)),(1,some (D.v (V.one (natL (limbs x))))),(2,some (D.int f)),(6,some (D.ptr 0 0))]∧H = [some ⟨117,[Leaf.val (.bool false),nilL,Leaf.val (.int .i64 0)],none,none⟩]∧x≠0∧(limbs x).length≤100000000000∧f + bl x = e + bl n∧nrm s x f = nrm s n e∧nok x f = nok n e) ⟨n,e,rfl,rfl,rfl,hn0,Bn.use (Nat.le_refl _),rfl,rfl,rfl⟩ ⟨rfl,rfl,rfl,rfl,trivial⟩ ?_
  rintro m Γ H ⟨x,f,rfl,rfl,rfl,hx0,hxl,hf,hnr,hok⟩
  have hxb:=bl_le_len hxl;have hxp:=limbs_len_pos.2 hx0
  refine Tc_seq (c_a (a_ FT 1 rfl (t_q rfl (Jq_index1 rfl rfl rfl un32 ty157 (by omega) (by omega) (get_limb0 hx0)) (t_q rfl (Jq_load_ref rfl rfl ty157) (t_q rfl (Jq_and rfl rfl rfl (r:=((x % 4294967296 % 2:Nat):Int)) (and_one (Nat.mod_lt _ (by decide)))) ?_)))))
  by_cases h2:x % 2 = 0
  ·refine t_q rfl (Jq_eql rfl rfl rfl (b:=true) (eT (by omega))) (c_n (Tc_t rfl (c_b (Tc_block (c_a (a_ FT 1 rfl (t_f rfl (Je_call rfl fn174 rfl (rShr_spec (limbs x) 1 (small_limbs _) (by decide) (by omega) x (val_limbs _))) (a_ FT 4 rfl (c_n ?_)))))))))
   refine Tc_region (a_ FT 1 rfl (t_q rfl (Jq_add rfl rfl rfl (r:=f + 1) (w64 (by omega) (by omega) (by omega))) (a_ FT 1 rfl (Tl_end (At_block ?_)))))
   exact At_next (m':=x / 2 ^ 1) (by omega) ⟨x / 2 ^ 1,f + 1,rfl,rfl,rfl,by omega,Nat.le_trans (limbs_length_mono (Nat.div_le_self _ _)) hxl,by have:=bl_half (x:=x) (by omega);rw [Nat.pow_one];omega,(nrm_even hx0 h2).1.trans hnr,(nrm_even (s:=s) hx0 h2).2.trans hok⟩ ⟨rfl,rfl,rfl,rfl,trivial⟩
  ·refine t_q rfl (Jq_eql rfl rfl rfl (b:=false) (eF (by omega))) (c_n (Tc_f rfl (Tc_exitA (At_then_exit (At_then_exit (At_block_exit (At_then (Tc_seq (c_a ?_)))))))))
   refine a_ FT 1 rfl ?_
   by_cases h3:f < -1048576
   ·refine t_q rfl (Jq_lss rfl rfl rfl (b:=true) (dT (by omega))) (a_ FT 4 rfl (c_n (Tc_t rfl (c_a (t_q rfl (Jq_build rfl tz117 rfl pl117 rfl) (a_ FT 2 rfl (c_n ?_)))))))
    exact Tc_ret2 hq_ rfl (rA ty117 rfl rfl rfl rfl) rfl (by have h:=nrm_odd_out (s:=s) (n:=x) (by omega) (.inl h3);rw [← hnr,← hok,h.1,h.2,dV_zero];rfl)
   ·refine t_q rfl (Jq_lss rfl rfl rfl (b:=false) (dF (by omega))) (a_ FT 2 rfl ?_)
    by_cases h4:1048576 < f
    ·refine t_g rfl rfl rfl rfl (Jq_gtr rfl rfl rfl (b:=true) (dT (by omega))) (a_ FT 1 rfl (c_n (Tc_t rfl (c_a (t_q rfl (Jq_build rfl tz117 rfl pl117 rfl) (a_ FT 2 rfl (c_n ?_)))))))
     exact Tc_ret2 hq_ rfl (rA ty117 rfl rfl rfl rfl) rfl (by have h:=nrm_odd_out (s:=s) (n:=x) (by omega) (.inr h4);rw [← hnr,← hok,h.1,h.2,dV_zero];rfl)
    ·refine t_g rfl rfl rfl rfl (Jq_gtr rfl rfl rfl (b:=false) (dF (by omega))) (a_ FT 1 rfl (c_n (Tc_f rfl (c_b (c_a (a_ FT 3 rfl (t_q rfl (Jq_build rfl tz117 rfl pl117 rfl) (a_ FT 2 rfl (c_n ?_)))))))))
     exact Tc_ret2 hq_ rfl (rA ty117 rfl rfl rfl rfl) rfl (by have h:=nrm_odd_in (s:=s) (n:=x) (e:=f) (by omega) (by omega) (by omega);rw [← hnr,← hok,h.1,h.2];rfl)
set_option maxRecDepth 10000 in
theorem drat (d:Dy) (hd:Dfit 1000000000 d):Ctr Tryz.prog 89 [dV d] (R.one (qV (qOf (dq d)))):=by
 refine Ctr.of_body Tryz.func89 rfl Tryz.ntmps89 (Nat.le_of_ble_eq_true rfl) (fun w0 A0=>?_)
 haveI id:Bd d 1000000000:=⟨hd⟩
 have hlo:=hd.lo;have hhi:=hd.hi
 refine c_a (t_f rfl (Je_box (n:=0) rfl rfl rfl) (t_f rfl (Je_alloc (n:=1) rfl tz34 rfl) (cns (c_a (a_ FT 2 rfl ?_)))))
 by_cases h1:0≤d.exp
 ·refine t_q rfl (Jq_geq rfl rfl rfl (b:=true) (dT (by omega))) (c_n (Tc_t rfl (Tc_seq ?_)))
  haveI i1:Bn (d.mag * 2 ^ d.exp.toNat) (1000000000 + 32769):=Bn.shift 32769 inferInstance (by omega)
  refine Tc_drawK 0 [none,none,none,none,none,none,none,none,none,some 1] [1] follows (by kernel_rfl) (d_ FT 6 rfl (DK_c rfl rfl (Jd_call rfl fn133 rfl (dshl_spec d.mag d.exp (by omega) (Bn.use (by omega)))) (dq_ rfl rfl (Jq_build rfl tz34 rfl pl34 rfl) ?_)))
  refine DK_c rfl rfl (Jd_call rfl fn86 rfl (qcanon (Qr.mk d.neg (limbs (d.mag * 2 ^ d.exp.toNat)) [] (small_limbs _) Small.nil) (rq d.neg (d.mag * 2 ^ d.exp.toNat) (0)) (qr_eq (val_limbs _) rfl) (Fit.mk (Bn.use (by omega)) (Nat.zero_le _)))) (DK_s 1 rfl rfl rfl (Jd_store rfl rfl rfl rfl ty34 rfl (by decide) (Nat.le_of_ble_eq_true rfl) rfl) (DK_nil (At_then ?_)))
  exact Tc_ret1 hq_ rfl (rA ty34 rfl rfl rfl rfl) (by unfold dq;rw [if_pos h1];rfl)
 ·refine t_q rfl (Jq_geq rfl rfl rfl (b:=false) (dF (by omega))) (c_n (Tc_f rfl (c_b (Tc_seq ?_))))
  haveI i2:Bn (1 * 2 ^ (-d.exp).toNat) (1 + 32769):=Bn.shift 32769 ⟨by rw [limbs_one];exact Nat.le_refl _⟩ (by omega)
  refine Tc_drawK 0 [none,none,none,none,none,none,none,none,none,none,none,some 1] [1] follows (by kernel_rfl) (d_ FT 4 rfl (DK_c rfl rfl (Jd_call rfl fn130 rfl (of_spec 1 (by decide))) (d_ FT 2 rfl (dq_ rfl rfl (Jq_neg rfl rfl (r:=-d.exp) (w64 (by omega) (by omega) (by omega))) (DK_c rfl rfl (Jd_call rfl fn133 rfl (dshl_spec 1 (-d.exp) (by omega) (Bn.use (by omega)))) ?_)))))
  refine dq_ rfl rfl (Jq_build rfl tz34 rfl pl34 rfl) (DK_c rfl rfl (Jd_call rfl fn86 rfl (qcanon (Qr.mk d.neg (limbs (d.mag)) (limbs (1 * 2 ^ (-d.exp).toNat)) (small_limbs _) (small_limbs _)) (rq d.neg (d.mag) (1 * 2 ^ (-d.exp).toNat)) (qr_eq (val_limbs _) (val_limbs _)) (Fit.mk (Bn.use (by omega)) (Bn.use (by omega))))) ?_)
  refine DK_s 1 rfl rfl rfl (Jd_store rfl rfl rfl rfl ty34 rfl (by decide) (Nat.le_of_ble_eq_true rfl) rfl) (DK_nil (At_then ?_))
  exact Tc_ret1 hq_ rfl (rA ty34 rfl rfl rfl rfl) (by unfold dq;rw [if_neg h1,Nat.one_mul];rfl)
set_option maxRecDepth 10000 in
theorem rdrat (d:Dy) (hd:Dfit 1000000000 d):Ctr Tryz.prog 67 [dV d] (R.one (qV (qOf (dq d)))):=by
 refine Ctr.of_body Tryz.func67 rfl Tryz.ntmps67 (Nat.le_of_ble_eq_true rfl) (fun w0 A0=>?_)
 haveI id:Bd d 1000000000:=⟨hd⟩
 have hlo:=hd.lo;have hhi:=hd.hi
 refine c_a (t_f rfl (Je_box (n:=0) rfl rfl rfl) (t_f rfl (Je_alloc (n:=1) rfl tz34 rfl) (cns (c_a (a_ FT 2 rfl ?_)))))
 by_cases h0:d.exp < 0
 ·refine t_q rfl (Jq_lss rfl rfl rfl (b:=true) (dT (by omega))) (c_n (Tc_t rfl (Tc_seq ?_)))
  haveI i2:Bn (1 * 2 ^ (-d.exp).toNat) (1 + 32769):=Bn.shift 32769 ⟨by rw [limbs_one];exact Nat.le_refl _⟩ (by omega)
  refine Tc_region (t_f rfl (Je_buildSlice rfl un32 ty157 tz157 rfl (by decide) (by decide) rfl (by decide) rfl) (a_ FT 2 rfl (t_q rfl (Jq_neg rfl rfl (r:=-d.exp) (w64 (by omega) (by omega) (by omega))) (t_f rfl (Je_call rfl fn110 rfl (rShlZ [1] (-d.exp) (by omega) (by omega) (Small.cons (by decide) Small.nil) (by simp) 1 rfl)) (a_ FT 5 rfl (cna (a_ FT 5 rfl ?_)))))))
  refine t_q rfl (Jq_build rfl tz34 rfl pl34 rfl) (t_f rfl (Je_call rfl fn65 rfl (rqcanon (Qr.mk d.neg (limbs (d.mag)) (limbs (1 * 2 ^ (-d.exp).toNat)) (small_limbs _) (small_limbs _)) (rq d.neg (d.mag) (1 * 2 ^ (-d.exp).toNat)) (qr_eq (val_limbs _) (val_limbs _)) (Fit.mk (Bn.use (by omega)) (Bn.use (by omega))))) (a_ FT 1 rfl (c_n ?_)))
  have h1:¬ 0≤d.exp:=by omega
  exact Tc_ret1 hq_ rfl (rA ty34 rfl rfl rfl rfl) (by unfold dq;rw [if_neg h1,Nat.one_mul];rfl)
 ·refine t_q rfl (Jq_lss rfl rfl rfl (b:=false) (dF (by omega))) (c_n (Tc_f rfl (c_b (Tc_seq ?_))))
  haveI i1:Bn (d.mag * 2 ^ d.exp.toNat) (1000000000 + 32769):=Bn.shift 32769 inferInstance (by omega)
  refine Tc_region (a_ FT 4 rfl (t_f rfl (Je_call rfl fn110 rfl (rShlZ (limbs d.mag) d.exp (by omega) (by omega) (small_limbs _) (Bn.use (by omega)) d.mag (val_limbs _))) (a_ FT 5 rfl (cna (a_ FT 3 rfl (t_q rfl (Jq_build rfl tz34 rfl pl34 rfl) ?_))))))
  refine t_f rfl (Je_call rfl fn65 rfl (rqcanon (Qr.mk d.neg (limbs (d.mag * 2 ^ d.exp.toNat)) [] (small_limbs _) Small.nil) (rq d.neg (d.mag * 2 ^ d.exp.toNat) (0)) (qr_eq (val_limbs _) rfl) (Fit.mk (Bn.use (by omega)) (Nat.zero_le _)))) (a_ FT 1 rfl (c_n ?_))
  have h1:0≤d.exp:=by omega
  exact Tc_ret1 hq_ rfl (rA ty34 rfl rfl rfl rfl) (by unfold dq;rw [if_pos h1];rfl)
end Go.Proofs.YtjdbopkbfkgpdaaGreatDoor
set_option linter.unusedSimpArgs false
set_option linter.unusedVariables false
namespace Go.Proofs.YtjdbopkbfkgpdaaGreatDoor
open Go Go.RowKit Rc
set_option maxRecDepth 10000 in
theorem dsize (a b:Nat) (ha0:a≠0) (hb0:b≠0) (ha:(limbs a).length≤2000) (hb:(limbs b).length≤2000):Ctr Tryz.prog 167 [V.one (natL (limbs a)),V.one (natL (limbs b))] (R.tup [V.one (Leaf.val (.int .i64 (lg a b))),V.one (Leaf.val (.bool true))]):=by
 refine Ctr.of_body Tryz.func167 rfl Tryz.ntmps167 (Nat.le_of_ble_eq_true rfl) (fun w0 A0=>?_)
 haveI ia:Bn a 2000:=⟨ha⟩
 haveI ib:Bn b 2000:=⟨hb⟩
 have hla:=bl_le_len ha;have hlb:=bl_le_len hb
 have hlg:=lg_bound ha hb
 have hlo:=lg_or a b
 refine c_a (a_ FT 2 rfl (cna (a_ FT 1 rfl (t_f rfl (Je_call rfl fn164 rfl (bits_w (limbs (a)) (small_limbs _) (Bn.use (by omega)) (a) (val_limbs _))) (a_ FT 1 rfl (t_f rfl (Je_call rfl fn164 rfl (bits_w (limbs (b)) (small_limbs _) (Bn.use (by omega)) (b) (val_limbs _))) (t_q rfl (Jq_sub rfl rfl rfl (r:=(bl a:Int) - bl b) (w64 (by omega) (by omega) (by omega))) (a_ FT 1 rfl ?_))))))))
 refine cns (c_a (a_ FT 1 rfl (t_q rfl (Jq_gtr rfl rfl rfl (b:=false) (dF (by omega))) (a_ FT 2 rfl (t_g rfl rfl rfl rfl (Jq_lss rfl rfl rfl (b:=false) (dF (by omega))) (a_ FT 1 rfl (c_n (Tc_f rfl (c_b ?_)))))))))
 refine c_a (a_ FT 4 rfl (cns (c_a (a_ FT 1 rfl ?_))))
 by_cases h1:0≤(bl a:Int) - bl b
 ·refine t_q rfl (Jq_geq rfl rfl rfl (b:=true) (dT (by omega))) (c_n (Tc_t rfl ?_))
  haveI i1:Bn (b * 2 ^ ((bl a:Int) - bl b).toNat) (2000 + 5000):=Bn.shift 5000 ib (by omega)
  refine Tc_region (a_ FT 2 rfl (t_f rfl (Je_call rfl fn133 rfl (dshl_spec b ((bl a:Int) - bl b) (by omega) (Bn.use (by omega)))) (a_ FT 1 rfl (cns (c_a (a_ FT 2 rfl (t_f rfl (Je_call rfl fn137 rfl (cmp_w (limbs (a)) (small_limbs _) (limbs (b * 2 ^ ((bl a:Int) - bl b).toNat)) (small_limbs _) (a) (val_limbs _) (b * 2 ^ ((bl a:Int) - bl b).toNat) (val_limbs _))) ?_)))))))
  by_cases h2:a < b * 2 ^ ((bl a:Int) - bl b).toNat
  ·refine t_q rfl (Jq_lss rfl rfl rfl (b:=true) (dT (by rw [cmpN_lt h2];decide))) (c_n (Tc_t rfl (Tc_region (a_ FT 1 rfl (t_q rfl (Jq_sub rfl rfl rfl (r:=(bl a:Int) - bl b - 1) (w64 (by omega) (by omega) (by omega))) (a_ FT 1 rfl (cna (a_ FT 2 rfl (t_q rfl (Jq_geq rfl rfl rfl (b:=true) (dT (by omega))) ?_)))))))))
   refine a_ FT 2 rfl (t_g rfl rfl rfl rfl (Jq_lss rfl rfl rfl (b:=true) (dT (by omega))) (a_ FT 3 rfl (c_n ?_)))
   exact Tc_ret2 hq_ rfl rfl rfl (by unfold lg;rw [if_pos h1,if_pos h2] <;> rfl)
  ·refine t_q rfl (Jq_lss rfl rfl rfl (b:=false) (dF (by unfold cmpN;rw [if_neg h2];split <;> decide))) (c_n (Tc_f rfl (c_b (c_a (a_ FT 2 rfl (t_q rfl (Jq_geq rfl rfl rfl (b:=true) (dT (by omega))) (a_ FT 2 rfl (t_g rfl rfl rfl rfl (Jq_lss rfl rfl rfl (b:=true) (dT (by omega))) (a_ FT 3 rfl ?_)))))))))
   refine c_n ?_
   exact Tc_ret2 hq_ rfl rfl rfl (by unfold lg;rw [if_pos h1,if_neg h2] <;> rfl)
 ·refine t_q rfl (Jq_geq rfl rfl rfl (b:=false) (dF (by omega))) (c_n (Tc_f rfl ?_))
  haveI i2:Bn (a * 2 ^ (-((bl a:Int) - bl b)).toNat) (2000 + 5000):=Bn.shift 5000 ia (by omega)
  refine Tc_region (a_ FT 2 rfl (t_q rfl (Jq_neg rfl rfl (r:=-((bl a:Int) - bl b)) (w64 (by omega) (by omega) (by omega))) (t_f rfl (Je_call rfl fn133 rfl (dshl_spec a (-((bl a:Int) - bl b)) (by omega) (Bn.use (by omega)))) (a_ FT 1 rfl (cns (c_a (a_ FT 2 rfl ?_)))))))
  refine t_f rfl (Je_call rfl fn137 rfl (cmp_w (limbs (a * 2 ^ (-((bl a:Int) - bl b)).toNat)) (small_limbs _) (limbs (b)) (small_limbs _) (a * 2 ^ (-((bl a:Int) - bl b)).toNat) (val_limbs _) (b) (val_limbs _))) ?_
  by_cases h2:a * 2 ^ (-((bl a:Int) - bl b)).toNat < b
  ·refine t_q rfl (Jq_lss rfl rfl rfl (b:=true) (dT (by rw [cmpN_lt h2];decide))) (c_n (Tc_t rfl (Tc_region (a_ FT 1 rfl (t_q rfl (Jq_sub rfl rfl rfl (r:=(bl a:Int) - bl b - 1) (w64 (by omega) (by omega) (by omega))) (a_ FT 1 rfl (cna (a_ FT 2 rfl (t_q rfl (Jq_geq rfl rfl rfl (b:=true) (dT (by omega))) ?_)))))))))
   refine a_ FT 2 rfl (t_g rfl rfl rfl rfl (Jq_lss rfl rfl rfl (b:=true) (dT (by omega))) (a_ FT 3 rfl (c_n ?_)))
   exact Tc_ret2 hq_ rfl rfl rfl (by unfold lg;rw [if_neg h1,if_pos h2] <;> rfl)
  ·refine t_q rfl (Jq_lss rfl rfl rfl (b:=false) (dF (by unfold cmpN;rw [if_neg h2];split <;> decide))) (c_n (Tc_f rfl (c_b (c_a (a_ FT 2 rfl (t_q rfl (Jq_geq rfl rfl rfl (b:=true) (dT (by omega))) (a_ FT 2 rfl (t_g rfl rfl rfl rfl (Jq_lss rfl rfl rfl (b:=true) (dT (by omega))) (a_ FT 3 rfl ?_)))))))))
   refine c_n ?_
   exact Tc_ret2 hq_ rfl rfl rfl (by unfold lg;rw [if_neg h1,if_neg h2] <;> rfl)
set_option maxRecDepth 10000 in
theorem rround (a b:Nat) (ha0:a≠0) (hb0:b≠0) (ha:(limbs a).length≤2000) (hb:(limbs b).length≤2000) (p:Int) (hp1:1≤p) (hp2:p≤4096) (up:Bool):Ctr Tryz.prog 147 [V.one (natL (limbs a)),V.one (natL (limbs b)),V.one (Leaf.val (.int .i64 p)),V.one (Leaf.val (.bool up))] (R.tup [V.one (natL (limbs (rndQ a b (lg a b - p + 1) up))),V.one (Leaf.val (.int .i64 (lg a b - p + 1)))]):=by
 refine Ctr.of_body Tryz.func147 rfl Tryz.ntmps147 (Nat.le_of_ble_eq_true rfl) (fun w0 A0=>?_)
 haveI ia:Bn a 2000:=⟨ha⟩
 haveI ib:Bn b 2000:=⟨hb⟩
 have hla:=bl_le_len ha;have hlb:=bl_le_len hb
 have hlg:=lg_bound ha hb
 have hlo:=lg_or a b
 refine c_a (t_q rfl (Jq_assign_nil rfl) (a_ FT 1 rfl (cna (a_ FT 1 rfl (t_f rfl (Je_call rfl fn173 rfl (rbits_w (limbs (a)) (small_limbs _) (Bn.use (by omega)) (a) (val_limbs _))) (a_ FT 1 rfl (t_f rfl (Je_call rfl fn173 rfl (rbits_w (limbs (b)) (small_limbs _) (Bn.use (by omega)) (b) (val_limbs _))) ?_)))))))
 refine t_q rfl (Jq_sub rfl rfl rfl (r:=(bl a:Int) - bl b) (w64 (by omega) (by omega) (by omega))) (a_ FT 1 rfl (t_q rfl (Jq_sub rfl rfl rfl (r:=(bl a:Int) - bl b - p) (w64 (by omega) (by omega) (by omega))) (a_ FT 1 rfl (c_n (Tc_block ?_)))))
 refine Tc_loopR (fun m Γ H=>∃ (E:Int),(lg a b - p + 1 - E).toNat = m∧Γ = [(0,some (D.v (V.one (natL (limbs a))))),(1,some (D.v (V.one (natL (limbs b))))),(2,some (D.int p)),(3,some (D.bool up)),(10,some (D.int E))]∧H = []∧E≤lg a b - p + 1∧lg a b - p≤E) ⟨(bl a:Int) - bl b - p,rfl,rfl,rfl,by omega,by omega⟩ ⟨rfl,rfl,rfl,rfl,rfl,trivial⟩ ?_
 rintro m Γ H ⟨E,rfl,rfl,rfl,hE1,hE2⟩
 refine Tc_block (c_a (a_ FT 4 rfl (cns (c_a (a_ FT 1 rfl ?_)))))
 by_cases h1:0 < E
 ·refine t_q rfl (Jq_gtr rfl rfl rfl (b:=true) (dT (by omega))) (c_n (Tc_t rfl ?_))
  haveI i1:Bn (b * 2 ^ E.toNat) (2000 + 5000):=Bn.shift 5000 ib (by omega)
  refine Tc_region (a_ FT 2 rfl (t_f rfl (Je_call rfl fn110 rfl (rShlZ (limbs b) E (by omega) (by omega) (small_limbs _) (Bn.use (by omega)) b (val_limbs _))) (a_ FT 4 rfl (cns ?_))))
  have hd0:b * 2 ^ E.toNat≠0:=by have h:=scD_ne hb0 E;rwa [scD_pos (Int.le_of_lt h1)] at h
  have hq:(bl (a / (b * 2 ^ E.toNat)):Int) = lg a b - E + 1:=by have h:=bl_quot ha0 hb0 (e:=E) (by omega);rwa [scN_pos (Int.le_of_lt h1),scD_pos (Int.le_of_lt h1)] at h
  refine Tc_region (a_ FT 2 rfl (t_f rfl (Je_call rfl fn143 rfl (rdivmod_w (limbs (a)) (limbs (b * 2 ^ E.toNat)) (small_limbs _) (small_limbs _) (Bn.use (by omega)) (Bn.use (by omega)) (a) (b * 2 ^ E.toNat) (val_limbs _) (val_limbs _) hd0)) (a_ FT 7 rfl (cns (c_a (a_ FT 1 rfl ?_))))))
  refine t_f rfl (Je_call rfl fn173 rfl (rbits_w (limbs (a / (b * 2 ^ E.toNat))) (small_limbs _) (Bn.use (by omega)) (a / (b * 2 ^ E.toNat)) (val_limbs _))) (a_ FT 1 rfl ?_)
  by_cases hE:E < lg a b - p + 1
  ·refine t_q rfl (Jq_gtr rfl rfl rfl (b:=true) (dT (by omega))) (c_n (Tc_t rfl (c_a (a_ FT 1 rfl (t_q rfl (Jq_add rfl rfl rfl (r:=E + 1) (w64 (by omega) (by omega) (by omega))) (a_ FT 1 rfl (c_n (Tc_exitA (At_then_exit ?_)))))))))
   refine At_block_exit ?_
   exact At_next (m':=(lg a b - p + 1 - (E + 1)).toNat) (by omega) ⟨E + 1,rfl,rfl,rfl,by omega,by omega⟩ ⟨rfl,rfl,rfl,rfl,rfl,trivial⟩
  ·refine t_q rfl (Jq_gtr rfl rfl rfl (b:=false) (dF (by omega))) (c_n (Tc_f rfl (c_b (Tc_seq (Tc_seq ?_)))))
   have he:lg a b - p + 1 = E:=by omega
   refine Tc_region (a_ FT 2 rfl ?_)
   refine Tl_two (fun hup=>?_) (fun hup=>?_)
   ·refine a_ FT 4 rfl (c_n (Tc_f rfl (c_b (c_a (a_ FT 4 rfl (c_n ?_))))))
    exact Tc_ret2 hq_ rfl rfl rfl (by subst hup;rw [he,rndQ_no,scN_pos (Int.le_of_lt h1),scD_pos (Int.le_of_lt h1)] <;> rfl)
   ·refine a_ FT 1 rfl (t_g rfl rfl rfl rfl (Jq_len rfl rfl un32) ?_)
    by_cases hr0:a % (b * 2 ^ E.toNat)≠0
    ·refine t_g rfl rfl rfl rfl (Jq_gtr rfl rfl rfl (b:=true) (dT (by have:=limbs_len_pos.2 hr0;omega))) (a_ FT 1 rfl (c_n (Tc_t rfl (Tc_region (a_ FT 1 rfl (t_f rfl (Je_buildSlice rfl un32 ty157 tz157 rfl (by decide) (by decide) rfl (by decide) rfl) ?_))))))
     refine t_f rfl (Je_call rfl fn140 rfl (radd_w (limbs (a / (b * 2 ^ E.toNat))) [1] (small_limbs _) (Small.cons (by decide) Small.nil) (Bn.use (by omega)) (by simp) _ 1 (val_limbs _) rfl)) (a_ FT 1 rfl (cna (a_ FT 4 rfl (c_n ?_))))
     exact Tc_ret2 hq_ rfl rfl rfl (by subst hup;rw [he,rndQ_up (by rw [scN_pos (Int.le_of_lt h1),scD_pos (Int.le_of_lt h1)];exact hr0),scN_pos (Int.le_of_lt h1),scD_pos (Int.le_of_lt h1)] <;> rfl)
    ·refine t_g rfl rfl rfl rfl (Jq_gtr rfl rfl rfl (b:=false) (dF (by rw [Classical.not_not.1 hr0,limbs_zero];decide))) (a_ FT 1 rfl (c_n (Tc_f rfl (c_b (c_a (a_ FT 4 rfl (c_n ?_)))))))
     exact Tc_ret2 hq_ rfl rfl rfl (by subst hup;rw [he,rndQ_ex (by rw [scN_pos (Int.le_of_lt h1),scD_pos (Int.le_of_lt h1)];exact hr0),scN_pos (Int.le_of_lt h1),scD_pos (Int.le_of_lt h1)] <;> rfl)
 ·refine t_q rfl (Jq_gtr rfl rfl rfl (b:=false) (dF (by omega))) (c_n (Tc_f rfl ?_))
  haveI i1:Bn (a * 2 ^ (-E).toNat) (2000 + 5000):=Bn.shift 5000 ia (by omega)
  refine Tc_region (a_ FT 2 rfl (t_q rfl (Jq_neg rfl rfl (r:=-E) (w64 (by omega) (by omega) (by omega))) (t_f rfl (Je_call rfl fn110 rfl (rShlZ (limbs a) (-E) (by omega) (by omega) (small_limbs _) (Bn.use (by omega)) a (val_limbs _))) (a_ FT 4 rfl (cns ?_)))))
  have hd0:b≠0:=by have h:=scD_ne hb0 E;rwa [scD_np (Int.not_lt.1 h1)] at h
  have hq:(bl ((a * 2 ^ (-E).toNat) / b):Int) = lg a b - E + 1:=by have h:=bl_quot ha0 hb0 (e:=E) (by omega);rwa [scN_np (Int.not_lt.1 h1),scD_np (Int.not_lt.1 h1)] at h
  refine Tc_region (a_ FT 2 rfl (t_f rfl (Je_call rfl fn143 rfl (rdivmod_w (limbs (a * 2 ^ (-E).toNat)) (limbs (b)) (small_limbs _) (small_limbs _) (Bn.use (by omega)) (Bn.use (by omega)) (a * 2 ^ (-E).toNat) (b) (val_limbs _) (val_limbs _) hd0)) (a_ FT 7 rfl (cns (c_a (a_ FT 1 rfl ?_))))))
  refine t_f rfl (Je_call rfl fn173 rfl (rbits_w (limbs ((a * 2 ^ (-E).toNat) / b)) (small_limbs _) (Bn.use (by omega)) ((a * 2 ^ (-E).toNat) / b) (val_limbs _))) (a_ FT 1 rfl ?_)
  by_cases hE:E < lg a b - p + 1
  ·refine t_q rfl (Jq_gtr rfl rfl rfl (b:=true) (dT (by omega))) (c_n (Tc_t rfl (c_a (a_ FT 1 rfl (t_q rfl (Jq_add rfl rfl rfl (r:=E + 1) (w64 (by omega) (by omega) (by omega))) (a_ FT 1 rfl (c_n (Tc_exitA (At_then_exit ?_)))))))))
   refine At_block_exit ?_
   exact At_next (m':=(lg a b - p + 1 - (E + 1)).toNat) (by omega) ⟨E + 1,rfl,rfl,rfl,by omega,by omega⟩ ⟨rfl,rfl,rfl,rfl,rfl,trivial⟩
  ·refine t_q rfl (Jq_gtr rfl rfl rfl (b:=false) (dF (by omega))) (c_n (Tc_f rfl (c_b (Tc_seq (Tc_seq ?_)))))
   have he:lg a b - p + 1 = E:=by omega
   refine Tc_region (a_ FT 2 rfl ?_)
   refine Tl_two (fun hup=>?_) (fun hup=>?_)
   ·refine a_ FT 4 rfl (c_n (Tc_f rfl (c_b (c_a (a_ FT 4 rfl (c_n ?_))))))
    exact Tc_ret2 hq_ rfl rfl rfl (by subst hup;rw [he,rndQ_no,scN_np (Int.not_lt.1 h1),scD_np (Int.not_lt.1 h1)] <;> rfl)
   ·refine a_ FT 1 rfl (t_g rfl rfl rfl rfl (Jq_len rfl rfl un32) ?_)
    by_cases hr0:(a * 2 ^ (-E).toNat) % b≠0
    ·refine t_g rfl rfl rfl rfl (Jq_gtr rfl rfl rfl (b:=true) (dT (by have:=limbs_len_pos.2 hr0;omega))) (a_ FT 1 rfl (c_n (Tc_t rfl (Tc_region (a_ FT 1 rfl (t_f rfl (Je_buildSlice rfl un32 ty157 tz157 rfl (by decide) (by decide) rfl (by decide) rfl) ?_))))))
     refine t_f rfl (Je_call rfl fn140 rfl (radd_w (limbs ((a * 2 ^ (-E).toNat) / b)) [1] (small_limbs _) (Small.cons (by decide) Small.nil) (Bn.use (by omega)) (by simp) _ 1 (val_limbs _) rfl)) (a_ FT 1 rfl (cna (a_ FT 4 rfl (c_n ?_))))
     exact Tc_ret2 hq_ rfl rfl rfl (by subst hup;rw [he,rndQ_up (by rw [scN_np (Int.not_lt.1 h1),scD_np (Int.not_lt.1 h1)];exact hr0),scN_np (Int.not_lt.1 h1),scD_np (Int.not_lt.1 h1)] <;> rfl)
    ·refine t_g rfl rfl rfl rfl (Jq_gtr rfl rfl rfl (b:=false) (dF (by rw [Classical.not_not.1 hr0,limbs_zero];decide))) (a_ FT 1 rfl (c_n (Tc_f rfl (c_b (c_a (a_ FT 4 rfl (c_n ?_)))))))
     exact Tc_ret2 hq_ rfl rfl rfl (by subst hup;rw [he,rndQ_ex (by rw [scN_np (Int.not_lt.1 h1),scD_np (Int.not_lt.1 h1)];exact hr0),scN_np (Int.not_lt.1 h1),scD_np (Int.not_lt.1 h1)] <;> rfl)
set_option maxRecDepth 10000 in
theorem dround (x:Qr) (r:Rat) (hr:x.q = r) (hfx:Fit 1100 x) (p:Int) (away:Bool):Ctr Tryz.prog 132 [qV x,V.one (Leaf.val (.int .i64 p)),V.one (Leaf.val (.bool away))] (R.tup [dV (rndD r p away),V.one (Leaf.val (.int .i64 (rndE p)))]):=by
 refine Ctr.of_body Tryz.func132 rfl Tryz.ntmps132 (Nat.le_of_ble_eq_true rfl) (fun w0 A0=>?_)
 haveI ir:Br r 1100:=Br.fitq hr hfx
 have hnl:(limbs (Int.natAbs r.num)).length≤1100:=Bz.use (z:=r.num) (Nat.le_refl _)
 have hdl:(limbs r.den).length≤1101:=Bn.use (n:=r.den) (Nat.le_refl _)
 haveI ina:Bn (Int.natAbs r.num) 1100:=⟨hnl⟩
 have hlg:=lg_bound hnl hdl
 refine c_a (t_f rfl (Je_box (n:=0) rfl rfl rfl) (t_f rfl (Je_alloc (n:=1) rfl tz117 rfl) (a_ FT 1 rfl (cns (c_a (a_ FT 1 rfl ?_))))))
 by_cases h1:p < 1
 ·refine t_q rfl (Jq_lss rfl rfl rfl (b:=true) (dT (by omega))) (a_ FT 4 rfl (c_n (Tc_t rfl (c_a (t_q rfl (Jq_build rfl tz117 rfl pl117 rfl) (a_ FT 2 rfl (c_n ?_)))))))
  exact Tc_ret2 hq_ rfl (rA ty117 rfl rfl rfl rfl) rfl (by unfold rndD rndE;rw [if_pos (by omega),if_pos (by omega),dV_zero] <;> rfl)
 ·refine t_q rfl (Jq_lss rfl rfl rfl (b:=false) (dF (by omega))) (a_ FT 2 rfl ?_)
  by_cases h2:4096 < p
  ·refine t_g rfl rfl rfl rfl (Jq_gtr rfl rfl rfl (b:=true) (dT (by omega))) (a_ FT 1 rfl (c_n (Tc_t rfl (c_a (t_q rfl (Jq_build rfl tz117 rfl pl117 rfl) (a_ FT 2 rfl (c_n ?_)))))))
   exact Tc_ret2 hq_ rfl (rA ty117 rfl rfl rfl rfl) rfl (by unfold rndD rndE;rw [if_pos (by omega),if_pos (by omega),dV_zero] <;> rfl)
  ·refine t_g rfl rfl rfl rfl (Jq_gtr rfl rfl rfl (b:=false) (dF (by omega))) (a_ FT 1 rfl (c_n (Tc_f rfl (c_b (Tc_seq (Tc_drawK 1 [none,none,none,none,some 2,some 2,none] [2] follows (by kernel_rfl) (d_ FT 1 rfl (DK_c rfl rfl (Jd_call rfl fn165 rfl (qnum x (r) hr (hfx.mono (by omega)))) (d_ FT 1 rfl ?_)))))))))
   refine DK_c rfl rfl (Jd_call rfl fn166 rfl (qden x (r) hr (hfx.mono (by omega)))) (DK_s 2 rfl rfl rfl (Jd_alloc (i:=2) rfl tz130 rfl) (DK_s 2 rfl rfl rfl (Jd_store rfl rfl rfl rfl ty130 rfl (by decide) (Nat.le_of_ble_eq_true rfl) rfl) (d_ FT 1 rfl (DK_nil (At_then (Tc_seq (c_a (a_ FT 1 rfl ?_))))))))
   refine t_f rfl (Je_call rfl fn134 rfl (zsign (zOf (r.num)) (r.num) (zOf_z _) (Bz.use (by omega)))) ?_
   by_cases h3:r.num = 0
   ·refine t_q rfl (Jq_eql rfl rfl rfl (b:=true) (eT (by rw [h3];rfl))) (c_n (Tc_t rfl (c_a (t_q rfl (Jq_build rfl tz117 rfl pl117 rfl) (a_ FT 2 rfl (c_n ?_))))))
    exact Tc_ret2 hq_ rfl (rA ty117 rfl rfl rfl rfl) rfl (by unfold rndD;rw [if_pos (by omega),rndE_of h1 h2,dV_zero] <;> rfl)
   ·refine t_q rfl (Jq_eql rfl rfl rfl (b:=false) (eF (sgz_ne h3))) (c_n (Tc_f rfl (c_b (c_a (a_ FT 3 rfl (t_f rfl (Je_call rfl fn167 rfl (dsize (Int.natAbs (r.num)) r.den (by omega) r.den_nz (by omega) (by omega))) (a_ FT 5 rfl (cns (c_a ?_)))))))))
    refine a_ FT 2 rfl (c_n (Tc_f rfl (c_b (c_a (a_ FT 2 rfl (t_q rfl (Jq_sub rfl rfl rfl (r:=lg (Int.natAbs (r.num)) r.den - p) (w64 (by omega) (by omega) (by omega))) (t_q rfl (Jq_add rfl rfl rfl (r:=lg (Int.natAbs (r.num)) r.den - p + 1) (w64 (by omega) (by omega) (by omega))) (a_ FT 1 rfl (cna ?_)))))))))
    refine a_ FT 5 rfl (cns (c_a (a_ FT 1 rfl ?_)))
    by_cases hE:0≤lg (Int.natAbs (r.num)) r.den - p + 1
    ·refine t_q rfl (Jq_geq rfl rfl rfl (b:=true) (dT (by omega))) (c_n (Tc_t rfl ?_))
     haveI i1:Bn (r.den * 2 ^ (lg (Int.natAbs (r.num)) r.den - p + 1).toNat) (1101 + 5000):=Bn.shift 5000 inferInstance (by omega)
     refine Tc_region (a_ FT 2 rfl (t_f rfl (Je_call rfl fn133 rfl (dshl_spec r.den (lg (Int.natAbs (r.num)) r.den - p + 1) (by omega) (Bn.use (by omega)))) (a_ FT 1 rfl (cns ?_))))
     have hd0:r.den * 2 ^ (lg (Int.natAbs (r.num)) r.den - p + 1).toNat≠0:=by have h:=scD_ne r.den_nz (lg (Int.natAbs (r.num)) r.den - p + 1);rwa [scD_pos hE] at h
     refine Tc_region (a_ FT 2 rfl (t_f rfl (Je_call rfl fn162 rfl (divmod_w (limbs (Int.natAbs (r.num))) (limbs (r.den * 2 ^ (lg (Int.natAbs (r.num)) r.den - p + 1).toNat)) (small_limbs _) (small_limbs _) (Bn.use (by omega)) (Bn.use (by omega)) (Int.natAbs (r.num)) (r.den * 2 ^ (lg (Int.natAbs (r.num)) r.den - p + 1).toNat) (val_limbs _) (val_limbs _) hd0)) (a_ FT 7 rfl (cns (c_a ?_)))))
     refine a_ FT 2 rfl ?_
     refine Tl_two (fun hup=>?_) (fun hup=>?_)
     ·refine a_ FT 4 rfl (c_n (Tc_f rfl (c_b (c_a (a_ FT 4 rfl ?_)))))
      refine t_f rfl (Je_call rfl fn169 rfl (dnormal (decide (r.num < 0)) (limbs ((Int.natAbs (r.num)) / (r.den * 2 ^ (lg (Int.natAbs (r.num)) r.den - p + 1).toNat))) (lg (Int.natAbs (r.num)) r.den - p + 1) (small_limbs _) (Bn.use (by omega)) (by omega) (by omega) ((Int.natAbs (r.num)) / (r.den * 2 ^ (lg (Int.natAbs (r.num)) r.den - p + 1).toNat)) (val_limbs _))) (a_ FT 3 rfl ?_)
      refine t_f rfl (Je_alloc (n:=3) rfl tz117 rfl) (a_ FT 2 rfl (cna (a_ FT 3 rfl (c_n ?_))))
      exact Tc_ret2 hq_ rfl (rA ty117 rfl rfl rfl rfl) rfl (by subst hup;rw [rndD_of h1 h2 h3,rndE_of h1 h2];unfold rnd;rw [rndQ_no,scN_pos hE,scD_pos hE] <;> rfl)
     ·refine a_ FT 1 rfl (t_g rfl rfl rfl rfl (Jq_len rfl rfl un32) ?_)
      by_cases hr0:(Int.natAbs (r.num)) % (r.den * 2 ^ (lg (Int.natAbs (r.num)) r.den - p + 1).toNat)≠0
      ·refine t_g rfl rfl rfl rfl (Jq_gtr rfl rfl rfl (b:=true) (dT (by have:=limbs_len_pos.2 hr0;omega))) (a_ FT 1 rfl (c_n (Tc_t rfl (Tc_region (a_ FT 1 rfl (t_f rfl (Je_call rfl fn130 rfl (of_spec 1 (by decide))) ?_))))))
       refine t_f rfl (Je_call rfl fn168 rfl (add_w (limbs ((Int.natAbs (r.num)) / (r.den * 2 ^ (lg (Int.natAbs (r.num)) r.den - p + 1).toNat))) (small_limbs _) (Bn.use (by omega)) (limbs (1)) (small_limbs _) (Bn.use (by omega)) ((Int.natAbs (r.num)) / (r.den * 2 ^ (lg (Int.natAbs (r.num)) r.den - p + 1).toNat)) (val_limbs _) (1) (val_limbs _))) (a_ FT 1 rfl (cna (a_ FT 4 rfl ?_)))
       refine t_f rfl (Je_call rfl fn169 rfl (dnormal (decide (r.num < 0)) (limbs (((Int.natAbs (r.num)) / (r.den * 2 ^ (lg (Int.natAbs (r.num)) r.den - p + 1).toNat)) + (1))) (lg (Int.natAbs (r.num)) r.den - p + 1) (small_limbs _) (Bn.use (by omega)) (by omega) (by omega) (((Int.natAbs (r.num)) / (r.den * 2 ^ (lg (Int.natAbs (r.num)) r.den - p + 1).toNat)) + (1)) (val_limbs _))) (a_ FT 3 rfl ?_)
       refine t_f rfl (Je_alloc (n:=3) rfl tz117 rfl) (a_ FT 2 rfl (cna (a_ FT 3 rfl (c_n ?_))))
       exact Tc_ret2 hq_ rfl (rA ty117 rfl rfl rfl rfl) rfl (by subst hup;rw [rndD_of h1 h2 h3,rndE_of h1 h2];unfold rnd;rw [rndQ_up (by rw [scN_pos hE,scD_pos hE];exact hr0),scN_pos hE,scD_pos hE] <;> rfl)
      ·refine t_g rfl rfl rfl rfl (Jq_gtr rfl rfl rfl (b:=false) (dF (by rw [Classical.not_not.1 hr0,limbs_zero];decide))) (a_ FT 1 rfl (c_n (Tc_f rfl (c_b (c_a (a_ FT 4 rfl ?_))))))
       refine t_f rfl (Je_call rfl fn169 rfl (dnormal (decide (r.num < 0)) (limbs ((Int.natAbs (r.num)) / (r.den * 2 ^ (lg (Int.natAbs (r.num)) r.den - p + 1).toNat))) (lg (Int.natAbs (r.num)) r.den - p + 1) (small_limbs _) (Bn.use (by omega)) (by omega) (by omega) ((Int.natAbs (r.num)) / (r.den * 2 ^ (lg (Int.natAbs (r.num)) r.den - p + 1).toNat)) (val_limbs _))) (a_ FT 3 rfl ?_)
       refine t_f rfl (Je_alloc (n:=3) rfl tz117 rfl) (a_ FT 2 rfl (cna (a_ FT 3 rfl (c_n ?_))))
       exact Tc_ret2 hq_ rfl (rA ty117 rfl rfl rfl rfl) rfl (by subst hup;rw [rndD_of h1 h2 h3,rndE_of h1 h2];unfold rnd;rw [rndQ_ex (by rw [scN_pos hE,scD_pos hE];exact hr0),scN_pos hE,scD_pos hE] <;> rfl)
    ·refine t_q rfl (Jq_geq rfl rfl rfl (b:=false) (dF (by omega))) (c_n (Tc_f rfl ?_))
     haveI i1:Bn (Int.natAbs (r.num) * 2 ^ (-(lg (Int.natAbs (r.num)) r.den - p + 1)).toNat) (1100 + 5000):=Bn.shift 5000 ina (by omega)
     refine Tc_region (a_ FT 3 rfl (t_q rfl (Jq_neg rfl rfl (r:=-(lg (Int.natAbs (r.num)) r.den - p + 1)) (w64 (by omega) (by omega) (by omega))) (t_f rfl (Je_call rfl fn133 rfl (dshl_spec (Int.natAbs (r.num)) (-(lg (Int.natAbs (r.num)) r.den - p + 1)) (by omega) (Bn.use (by omega)))) (a_ FT 1 rfl (cns ?_)))))
     have hd0:r.den≠0:=by have h:=scD_ne r.den_nz (lg (Int.natAbs (r.num)) r.den - p + 1);rwa [scD_neg hE] at h
     refine Tc_region (a_ FT 2 rfl (t_f rfl (Je_call rfl fn162 rfl (divmod_w (limbs (Int.natAbs (r.num) * 2 ^ (-(lg (Int.natAbs (r.num)) r.den - p + 1)).toNat)) (limbs (r.den)) (small_limbs _) (small_limbs _) (Bn.use (by omega)) (Bn.use (by omega)) (Int.natAbs (r.num) * 2 ^ (-(lg (Int.natAbs (r.num)) r.den - p + 1)).toNat) (r.den) (val_limbs _) (val_limbs _) hd0)) (a_ FT 7 rfl (cns (c_a ?_)))))
     refine a_ FT 2 rfl ?_
     refine Tl_two (fun hup=>?_) (fun hup=>?_)
     ·refine a_ FT 4 rfl (c_n (Tc_f rfl (c_b (c_a (a_ FT 4 rfl ?_)))))
      refine t_f rfl (Je_call rfl fn169 rfl (dnormal (decide (r.num < 0)) (limbs ((Int.natAbs (r.num) * 2 ^ (-(lg (Int.natAbs (r.num)) r.den - p + 1)).toNat) / r.den)) (lg (Int.natAbs (r.num)) r.den - p + 1) (small_limbs _) (Bn.use (by omega)) (by omega) (by omega) ((Int.natAbs (r.num) * 2 ^ (-(lg (Int.natAbs (r.num)) r.den - p + 1)).toNat) / r.den) (val_limbs _))) (a_ FT 3 rfl ?_)
      refine t_f rfl (Je_alloc (n:=3) rfl tz117 rfl) (a_ FT 2 rfl (cna (a_ FT 3 rfl (c_n ?_))))
      exact Tc_ret2 hq_ rfl (rA ty117 rfl rfl rfl rfl) rfl (by subst hup;rw [rndD_of h1 h2 h3,rndE_of h1 h2];unfold rnd;rw [rndQ_no,scN_neg hE,scD_neg hE] <;> rfl)
     ·refine a_ FT 1 rfl (t_g rfl rfl rfl rfl (Jq_len rfl rfl un32) ?_)
      by_cases hr0:(Int.natAbs (r.num) * 2 ^ (-(lg (Int.natAbs (r.num)) r.den - p + 1)).toNat) % r.den≠0
      ·refine t_g rfl rfl rfl rfl (Jq_gtr rfl rfl rfl (b:=true) (dT (by have:=limbs_len_pos.2 hr0;omega))) (a_ FT 1 rfl (c_n (Tc_t rfl (Tc_region (a_ FT 1 rfl (t_f rfl (Je_call rfl fn130 rfl (of_spec 1 (by decide))) ?_))))))
       refine t_f rfl (Je_call rfl fn168 rfl (add_w (limbs ((Int.natAbs (r.num) * 2 ^ (-(lg (Int.natAbs (r.num)) r.den - p + 1)).toNat) / r.den)) (small_limbs _) (Bn.use (by omega)) (limbs (1)) (small_limbs _) (Bn.use (by omega)) ((Int.natAbs (r.num) * 2 ^ (-(lg (Int.natAbs (r.num)) r.den - p + 1)).toNat) / r.den) (val_limbs _) (1) (val_limbs _))) (a_ FT 1 rfl (cna (a_ FT 4 rfl ?_)))
       refine t_f rfl (Je_call rfl fn169 rfl (dnormal (decide (r.num < 0)) (limbs (((Int.natAbs (r.num) * 2 ^ (-(lg (Int.natAbs (r.num)) r.den - p + 1)).toNat) / r.den) + (1))) (lg (Int.natAbs (r.num)) r.den - p + 1) (small_limbs _) (Bn.use (by omega)) (by omega) (by omega) (((Int.natAbs (r.num) * 2 ^ (-(lg (Int.natAbs (r.num)) r.den - p + 1)).toNat) / r.den) + (1)) (val_limbs _))) ?_
       refine a_ FT 3 rfl (t_f rfl (Je_alloc (n:=3) rfl tz117 rfl) (a_ FT 2 rfl (cna (a_ FT 3 rfl (c_n ?_)))))
       exact Tc_ret2 hq_ rfl (rA ty117 rfl rfl rfl rfl) rfl (by subst hup;rw [rndD_of h1 h2 h3,rndE_of h1 h2];unfold rnd;rw [rndQ_up (by rw [scN_neg hE,scD_neg hE];exact hr0),scN_neg hE,scD_neg hE] <;> rfl)
      ·refine t_g rfl rfl rfl rfl (Jq_gtr rfl rfl rfl (b:=false) (dF (by rw [Classical.not_not.1 hr0,limbs_zero];decide))) (a_ FT 1 rfl (c_n (Tc_f rfl (c_b (c_a (a_ FT 4 rfl ?_))))))
       refine t_f rfl (Je_call rfl fn169 rfl (dnormal (decide (r.num < 0)) (limbs ((Int.natAbs (r.num) * 2 ^ (-(lg (Int.natAbs (r.num)) r.den - p + 1)).toNat) / r.den)) (lg (Int.natAbs (r.num)) r.den - p + 1) (small_limbs _) (Bn.use (by omega)) (by omega) (by omega) ((Int.natAbs (r.num) * 2 ^ (-(lg (Int.natAbs (r.num)) r.den - p + 1)).toNat) / r.den) (val_limbs _))) (a_ FT 3 rfl ?_)
       refine t_f rfl (Je_alloc (n:=3) rfl tz117 rfl) (a_ FT 2 rfl (cna (a_ FT 3 rfl (c_n ?_))))
       exact Tc_ret2 hq_ rfl (rA ty117 rfl rfl rfl rfl) rfl (by subst hup;rw [rndD_of h1 h2 h3,rndE_of h1 h2];unfold rnd;rw [rndQ_ex (by rw [scN_neg hE,scD_neg hE];exact hr0),scN_neg hE,scD_neg hE] <;> rfl)
set_option maxRecDepth 10000 in
theorem ddown (x:Qr) (r:Rat) (hr:x.q = r) (hfx:Fit 1100 x) (p:Int):Ctr Tryz.prog 87 [qV x,V.one (Leaf.val (.int .i64 p))] (R.tup [dV (rndD r p (decide (sg r < 0))),V.one (Leaf.val (.int .i64 (rndE p)))]):=by
 refine Ctr.of_body Tryz.func87 rfl Tryz.ntmps87 (Nat.le_of_ble_eq_true rfl) (fun w0 A0=>?_)
 haveI ir:Br r 1100:=Br.fitq hr hfx
 refine c_a (t_f rfl (Je_box (n:=0) rfl rfl rfl) (t_f rfl (Je_alloc (n:=1) rfl tz117 rfl) (a_ FT 1 rfl (cns (Tc_drawK 0 [none,none,none,none,none,none,none,none,some 1,none] [1] follows (by kernel_rfl) (d_ FT 3 rfl (DK_c rfl rfl (Jd_call rfl fn90 rfl (qsign x (r) hr (hfx.mono (by omega)))) (dq_ rfl rfl (Jq_lss rfl rfl rfl (b:=_) (rfl)) ?_))))))))
 refine DK_c rfl rfl (Jd_call rfl fn132 rfl (dround x (r) hr (hfx.mono (by omega)) p (decide ((sg (r)) < 0)))) (d_ FT 2 rfl (DK_s 1 rfl rfl rfl (Jd_store rfl rfl rfl rfl ty117 rfl (by decide) (Nat.le_of_ble_eq_true rfl) rfl) (d_ FT 1 rfl (DK_nil (At_then ?_)))))
 exact Tc_ret2 hq_ rfl (rA ty117 rfl rfl rfl rfl) rfl rfl
set_option maxRecDepth 10000 in
theorem dup (x:Qr) (r:Rat) (hr:x.q = r) (hfx:Fit 1100 x) (p:Int):Ctr Tryz.prog 88 [qV x,V.one (Leaf.val (.int .i64 p))] (R.tup [dV (rndD r p (decide (0 < sg r))),V.one (Leaf.val (.int .i64 (rndE p)))]):=by
 refine Ctr.of_body Tryz.func88 rfl Tryz.ntmps88 (Nat.le_of_ble_eq_true rfl) (fun w0 A0=>?_)
 haveI ir:Br r 1100:=Br.fitq hr hfx
 refine c_a (t_f rfl (Je_box (n:=0) rfl rfl rfl) (t_f rfl (Je_alloc (n:=1) rfl tz117 rfl) (a_ FT 1 rfl (cns (Tc_drawK 0 [none,none,none,none,none,none,none,none,some 1,none] [1] follows (by kernel_rfl) (d_ FT 3 rfl (DK_c rfl rfl (Jd_call rfl fn90 rfl (qsign x (r) hr (hfx.mono (by omega)))) (dq_ rfl rfl (Jq_gtr rfl rfl rfl (b:=_) (rfl)) ?_))))))))
 refine DK_c rfl rfl (Jd_call rfl fn132 rfl (dround x (r) hr (hfx.mono (by omega)) p (decide (0 < (sg (r)))))) (d_ FT 2 rfl (DK_s 1 rfl rfl rfl (Jd_store rfl rfl rfl rfl ty117 rfl (by decide) (Nat.le_of_ble_eq_true rfl) rfl) (d_ FT 1 rfl (DK_nil (At_then ?_)))))
 exact Tc_ret2 hq_ rfl (rA ty117 rfl rfl rfl rfl) rfl rfl
theorem big_lim:∃ L K:Nat,(limbs L).length≤32770∧64000≤K∧2 ^ K≤L∧Ctr Tryz.prog 110 [V.one (natL [1]),V.one (Leaf.val (.int .i64 1000000))] (R.tup [V.one (natL (limbs L)),V.one (Leaf.val (.int .i64 0))]):=by
 have key:∀ k:Nat,64000≤k→k≤1048576→∃ L K:Nat,(limbs L).length≤32770∧64000≤K∧2 ^ K≤L∧Ctr Tryz.prog 110 [V.one (natL [1]),V.one (Leaf.val (.int .i64 ((k:Nat):Int)))] (R.tup [V.one (natL (limbs L)),V.one (Leaf.val (.int .i64 0))]):=fun k h1 h2=>
  ⟨1 * 2 ^ k,k,(Bn.shift (n:=1) (i:=1) 32769 ⟨by rw [limbs_one];exact Nat.le_refl _⟩ (by omega)).le,h1,by rw [Nat.one_mul];exact Nat.le_refl _,rShl_spec [1] k (Small.cons (by decide) Small.nil) h2 (by simp) 1 rfl⟩
 exact key 1000000 (by decide) (by decide)
set_option maxRecDepth 10000 in
theorem rtoward (x:Qr) (r:Rat) (hr:x.q = r) (hfx:Fit 1100 x) (p:Int) (up:Bool):Ctr Tryz.prog 109 [qV x,V.one (Leaf.val (.int .i64 p)),V.one (Leaf.val (.bool up))] (R.tup [dV (rndD r p (up != decide (r.num < 0))),V.one (Leaf.val (.int .i64 (rndE p)))]):=by
 refine Ctr.of_body Tryz.func109 rfl Tryz.ntmps109 (Nat.le_of_ble_eq_true rfl) (fun w0 A0=>?_)
 haveI ir:Br r 1100:=Br.fitq hr hfx
 haveI icn:Bn (cnum r) 1100:=⟨(Br.use (r:=r) (Nat.le_refl _)).n⟩
 have hnl:=icn.le
 have hdl:(limbs r.den).length≤1101:=Bn.use (n:=r.den) (Nat.le_refl _)
 have hlg:=lg_bound hnl hdl
 refine c_a (t_f rfl (Je_box (n:=0) rfl rfl rfl) (t_f rfl (Je_alloc (n:=1) rfl tz117 rfl) (a_ FT 1 rfl (cns (c_a (a_ FT 1 rfl ?_))))))
 by_cases h1:p < 1
 ·refine t_q rfl (Jq_lss rfl rfl rfl (b:=true) (dT (by omega))) (a_ FT 4 rfl (c_n (Tc_t rfl (c_a (t_q rfl (Jq_build rfl tz117 rfl pl117 rfl) (a_ FT 2 rfl (c_n ?_)))))))
  exact Tc_ret2 hq_ rfl (rA ty117 rfl rfl rfl rfl) rfl (by unfold rndD rndE;rw [if_pos (by omega),if_pos (by omega),dV_zero] <;> rfl)
 ·refine t_q rfl (Jq_lss rfl rfl rfl (b:=false) (dF (by omega))) (a_ FT 2 rfl ?_)
  by_cases h2:4096 < p
  ·refine t_g rfl rfl rfl rfl (Jq_gtr rfl rfl rfl (b:=true) (dT (by omega))) (a_ FT 1 rfl (c_n (Tc_t rfl (c_a (t_q rfl (Jq_build rfl tz117 rfl pl117 rfl) (a_ FT 2 rfl (c_n ?_)))))))
   exact Tc_ret2 hq_ rfl (rA ty117 rfl rfl rfl rfl) rfl (by unfold rndD rndE;rw [if_pos (by omega),if_pos (by omega),dV_zero] <;> rfl)
  ·refine t_g rfl rfl rfl rfl (Jq_gtr rfl rfl rfl (b:=false) (dF (by omega))) (a_ FT 1 rfl (c_n (Tc_f rfl (c_b (c_a (a_ FT 1 rfl (t_f rfl (Je_call rfl fn65 rfl (rqcanon x (r) hr (hfx.mono (by omega)))) (a_ FT 1 rfl (cns ?_)))))))))
   refine c_a (a_ FT 2 rfl (t_q rfl (Jq_len rfl rfl un32) ?_))
   by_cases h3:cnum r = 0
   ·refine t_q rfl (Jq_eql rfl rfl rfl (b:=true) (eT (by show ((limbs (cnum r)).length:Int) = 0;rw [h3,limbs_zero];rfl))) (c_n (Tc_t rfl (c_a (t_q rfl (Jq_build rfl tz117 rfl pl117 rfl) (a_ FT 2 rfl (c_n ?_))))))
    exact Tc_ret2 hq_ rfl (rA ty117 rfl rfl rfl rfl) rfl (by have h4:r.num = 0:=Int.natAbs_eq_zero.1 h3;unfold rndD;rw [if_pos (by omega),rndE_of h1 h2,dV_zero] <;> rfl)
   ·refine t_q rfl (Jq_eql rfl rfl rfl (b:=false) (eF (by show ((limbs (cnum r)).length:Int)≠0;have:=limbs_len_pos.2 h3;omega))) (c_n (Tc_f rfl (c_b (c_a (a_ FT 1 rfl (t_f rfl (Je_call rfl fn145 rfl (rqden (qOf (r)) (r) (qOf_q _) (Br.use (by omega)))) (a_ FT 1 rfl (cns ?_))))))))
    obtain ⟨L,K,hL1,hK,hL2,hc⟩:=big_lim
    haveI iL:Bn L 32770:=⟨hL1⟩
    have hn1:=big_lt (k:=K) icn (by omega)
    have hd1:=big_lt (k:=K) (Bn.den (r:=r)) (by omega)
    have hlt1:cnum r < r.den * L:=Nat.lt_of_lt_of_le (Nat.lt_of_lt_of_le hn1 hL2) (Nat.le_mul_of_pos_left L r.den_pos)
    have hlt2:r.den < cnum r * L:=Nat.lt_of_lt_of_le (Nat.lt_of_lt_of_le hd1 hL2) (Nat.le_mul_of_pos_left L (Nat.pos_of_ne_zero h3))
    clear hL2 hn1 hd1
    refine Tc_region (t_f rfl (Je_buildSlice rfl un32 ty157 tz157 rfl (by decide) (by decide) rfl (by decide) rfl) (t_f rfl (Je_call rfl fn110 rfl (hc)) (a_ FT 5 rfl (cns (Tc_seq (Tc_drawK 0 [none,none,none,none,none,none,none,none,none,none,none,none,none,none,none,none] [] follows (by kernel_rfl) (d_ FT 4 rfl ?_)))))))
    refine DK_c rfl rfl (Jd_call rfl fn101 rfl (rmul_w (limbs (r.den)) (limbs (L)) (small_limbs _) (small_limbs _) (Bn.use (by omega)) (Bn.use (by omega)) (r.den) (L) (val_limbs _) (val_limbs _))) (DK_c rfl rfl (Jd_call rfl fn146 rfl (rcmp_w (limbs (cnum r)) (limbs (r.den * L)) (small_limbs _) (small_limbs _) (cnum r) (r.den * L) (val_limbs _) (val_limbs _))) ?_)
    refine dq_ rfl rfl (Jq_geq rfl rfl rfl (b:=false) (dF (by rw [cmpN_lt hlt1];decide))) (d_ FT 4 rfl (DK_cg rfl rfl rfl rfl (Jd_call rfl fn101 rfl (rmul_w (limbs (cnum r)) (limbs (L)) (small_limbs _) (small_limbs _) (Br.use (r:=r) (by omega)).n (Bn.use (by omega)) (cnum r) (L) (val_limbs _) (val_limbs _))) (d_ FT 1 rfl ?_)))
    refine DK_cg rfl rfl rfl rfl (Jd_call rfl fn146 rfl (rcmp_w (limbs (cnum r * L)) (limbs (r.den)) (small_limbs _) (small_limbs _) (cnum r * L) (r.den) (val_limbs _) (val_limbs _))) (DK_q (JO_qg rfl rfl rfl rfl (Jq_lss rfl rfl rfl (b:=false) (dF (by rw [cmpN_gt hlt2];decide)))) (d_ FT 1 rfl (DK_nil (At_then (Tc_f rfl (c_b (c_a (a_ FT 7 rfl ?_))))))))
    refine t_q rfl (Jq_neq_bool rfl rfl rfl un4 (d:=_) (rfl)) (t_f rfl (Je_call rfl fn147 rfl (rround (cnum r) r.den h3 r.den_nz (by omega) (by omega) p (by omega) (by omega) (up != (cneg r)))) (a_ FT 5 rfl (cns ?_)))
    haveI iq:Bn (rndQ (cnum r) r.den (lg (cnum r) r.den - p + 1) (up != (cneg r))) (1100 + 5000 + 1):=Bn.rndQ 5000 icn (by omega)
    refine Tc_region (a_ FT 4 rfl (t_f rfl (Je_call rfl fn148 rfl (dcanon (cneg r) (limbs (rndQ (cnum r) r.den (lg (cnum r) r.den - p + 1) (up != (cneg r)))) (lg (cnum r) r.den - p + 1) (small_limbs _) (Bn.use (by omega)) (by omega) (by omega) (rndQ (cnum r) r.den (lg (cnum r) r.den - p + 1) (up != (cneg r))) (val_limbs _))) (a_ FT 3 rfl (t_f rfl (Je_alloc (n:=2) rfl tz117 rfl) ?_))))
    refine a_ FT 2 rfl (cna (a_ FT 3 rfl (c_n ?_)))
    exact Tc_ret2 hq_ rfl (rA ty117 rfl rfl rfl rfl) rfl (by rw [rndD_of h1 h2 (fun e=>h3 (by unfold cnum;rw [e];rfl)),rndE_of h1 h2] <;> rfl)
set_option maxRecDepth 10000 in
theorem rddown (x:Qr) (r:Rat) (hr:x.q = r) (hfx:Fit 1100 x) (p:Int):Ctr Tryz.prog 68 [qV x,V.one (Leaf.val (.int .i64 p))] (R.tup [dV (rndD r p (decide (sg r < 0))),V.one (Leaf.val (.int .i64 (rndE p)))]):=by
 refine Ctr.of_body Tryz.func68 rfl Tryz.ntmps68 (Nat.le_of_ble_eq_true rfl) (fun w0 A0=>?_)
 haveI ir:Br r 1100:=Br.fitq hr hfx
 refine c_a (t_f rfl (Je_box (n:=0) rfl rfl rfl) (t_f rfl (Je_alloc (n:=1) rfl tz117 rfl) (a_ FT 1 rfl (cna (a_ FT 2 rfl (t_f rfl (Je_call rfl fn109 rfl (rtoward x (r) hr (hfx.mono (by omega)) p false)) (a_ FT 4 rfl (c_n ?_))))))))
 exact Tc_ret2 hq_ rfl (rA ty117 rfl rfl rfl rfl) rfl (by rw [← rnd_dn] <;> rfl)
set_option maxRecDepth 10000 in
theorem rdup (x:Qr) (r:Rat) (hr:x.q = r) (hfx:Fit 1100 x) (p:Int):Ctr Tryz.prog 66 [qV x,V.one (Leaf.val (.int .i64 p))] (R.tup [dV (rndD r p (decide (0 < sg r))),V.one (Leaf.val (.int .i64 (rndE p)))]):=by
 refine Ctr.of_body Tryz.func66 rfl Tryz.ntmps66 (Nat.le_of_ble_eq_true rfl) (fun w0 A0=>?_)
 haveI ir:Br r 1100:=Br.fitq hr hfx
 refine c_a (t_f rfl (Je_box (n:=0) rfl rfl rfl) (t_f rfl (Je_alloc (n:=1) rfl tz117 rfl) (a_ FT 1 rfl (cna (a_ FT 2 rfl (t_f rfl (Je_call rfl fn109 rfl (rtoward x (r) hr (hfx.mono (by omega)) p true)) (a_ FT 4 rfl (c_n ?_))))))))
 exact Tc_ret2 hq_ rfl (rA ty117 rfl rfl rfl rfl) rfl (by rw [← rnd_up] <;> rfl)
end Go.Proofs.YtjdbopkbfkgpdaaGreatDoor
set_option linter.unusedSimpArgs false
set_option linter.unusedVariables false
namespace Go.Proofs.YtjdbopkbfkgpdaaGreatDoor
open Go Go.RowKit Rc
set_option maxRecDepth 10000 in
theorem scale_p (f:Af) (c:Rat) {C K n:Nat} (hf:FL C n f) [Br c K] (h2:C≤10000000000) (h3:K≤10000000000) (hn:n≤1000):Ctr Tryz.prog 40 [afV f,V.agg (qL (c))] (R.one (afV (fSc f c))):=by
 refine Ctr.of_body Tryz.func40 rfl Tryz.ntmps40 (Nat.le_of_ble_eq_true rfl) (fun w0 A0=>?_)
 refine c_a (t_f rfl (Je_box (n:=0) rfl rfl rfl) (t_f rfl (Je_box (n:=1) rfl rfl rfl) (t_f rfl (Je_alloc (n:=2) rfl tz36 rfl) (cna (t_q rfl (Jq_build rfl tz36 rfl pl36 rfl) (Tl_eq (D.agg (afL fZ)) (congrArg D.agg fZ_ls.symm) (a_ FT 2 rfl (t_f rfl (Je_call rfl fn83 rfl (merge_p fZ f c (FL.z (n:=n)) hf (by omega) (by omega) (by omega) (by omega))) (a_ FT 1 rfl ?_)))))))))
 refine c_n ?_
 exact Tc_ret1 hq_ rfl (rA ty36 rfl rfl rfl rfl) (by have e:f.c * c = fZ.c + f.c * c:=(Rat.zero_add _).symm;show R.one (afV ⟨mrg c [] f.ts,fZ.c + f.c * c⟩) = R.one (afV ⟨scT f.ts c,f.c * c⟩);rw [← mrg_nil hf.can,← e])
set_option maxRecDepth 10000 in
theorem clone_dc (l:List Dc) (hl:l.length≤100000):Ctr Tryz.prog 37 [V.one (El.row dcE l)] (R.one (V.one (El.row dcE l))):=by
 refine Ctr.of_body Tryz.func37 rfl Tryz.ntmps37 (Nat.le_of_ble_eq_true rfl) (fun w0 A0=>?_)
 refine c_a (t_q rfl (Jq_assign_nil rfl) (cns (c_a (a_ FT 1 rfl ?_))))
 refine Tl_eqnil rfl rfl rfl rfl rfl un39 (fun b1 hb1=>?_)
 refine c_n ?_
 refine Tc_cond rfl (fun hc4=>?_) (fun hc4=>?_)
 ·refine c_a (t_q rfl (Jq_assign_nil rfl) (c_n ?_))
  exact Tc_ret1 hq_ rfl rfl (by obtain ⟨h1,h2⟩:=hb1 hc4;have:=List.eq_nil_of_length_eq_zero h1;subst this;rfl)
 ·refine c_b (c_a (t_f rfl (Je_build0F rfl un39 ty73 _) (a_ FT 1 rfl ?_)))
  obtain ⟨ti2,hi2,hz2,hs2,hb2⟩:=in73
  refine t_f rfl (Je_append0F dcE l rfl rfl rfl (by decide) un39 un39 hi2 hz2 hs2 rfl (by simp only [maxLen];omega) (by rw [hb2];omega) (H2:=_)) (a_ FT 1 rfl (c_n ?_))
  exact Tc_ret1 hq_ rfl rfl rfl
set_option maxRecDepth 10000 in
theorem clone_lm (l:List Lm) (hl:l.length≤100000):CtrG Tryz.prog 38 64 6 (El.all lmE l) [V.one (El.row lmE l)]:=by
 refine CtrG.of_body Tryz.func38 rfl Tryz.ntmps38 (Nat.le_of_ble_eq_true rfl) (fun w0 A0 hX=>?_)
 refine c_a (t_q rfl (Jq_assign_nil rfl) (cns (c_a (a_ FT 1 rfl ?_))))
 refine Tl_eqnil rfl rfl rfl rfl rfl un40 (fun b1 hb1=>?_)
 refine c_n ?_
 refine Tc_cond rfl (fun hc4=>?_) (fun hc4=>?_)
 ·refine c_a (t_q rfl (Jq_assign rfl (rfl)) (c_n ?_))
  exact Tc_retG0 (fun _ _ h=>h) rfl rfl (by obtain ⟨h1,h2⟩:=hb1 hc4;have:=List.eq_nil_of_length_eq_zero h1;subst this;rfl)
 ·refine c_b (c_a (Tl_build0 rfl rfl rfl rfl un40 ty64 rfl (Tl_ownG 5 0 rfl rfl (a_ FT 1 rfl ?_))))
  obtain ⟨ti2,hi2,hz2,hs2,hb2⟩:=in64
  refine t_f rfl (Je_appendRL lmE ([]) l rfl rfl rfl rfl (by decide) un40 un40 hi2 hz2 hs2 rfl (by first | (simp only [maxLen];omega) | (simp only [maxLen,List.length_append,List.length_take,List.length_drop,List.length_cons,List.length_nil];omega)) (by rw [hb2];first | omega | (simp only [List.length_append,List.length_take,List.length_drop,List.length_cons,List.length_nil];omega))) ?_
  refine a_ FT 1 rfl (c_n ?_)
  exact Tc_retG (fun _ _ h=>h) hX rfl rfl rfl (by rw [List.nil_append])
set_option maxRecDepth 10000 in
theorem round_r (x:Rat) (bits:Int) (up:Bool) {H:Nat} (hx:Hb x H) (hH:H < 35200) (h0:0≤bits) (h4:bits≤4096):Ctr Tryz.prog 25 [V.agg (qL (x)),V.one (Leaf.val (.int .i64 (bits))),V.one (Leaf.val (.bool up))] (R.one (V.agg (qL (rndB x up bits)))):=by
 refine Ctr.of_body Tryz.func25 rfl Tryz.ntmps25 (Nat.le_of_ble_eq_true rfl) (fun w0 A0=>?_)
 haveI hbr:Br x 1100:=hx.limb (by omega)
 refine c_a (t_f rfl (Je_box (n:=0) rfl rfl rfl) (t_f rfl (Je_alloc (n:=1) rfl tz34 rfl) (cns (c_a (a_ FT 1 rfl ?_)))))
 by_cases hb0:bits = 0
 ·refine t_q rfl (Jq_eql rfl rfl rfl (b:=true) (eT (by omega))) (c_n (Tc_t rfl (c_a (a_ FT 1 rfl (t_f rfl (Je_call rfl fn65 rfl (rqcanon (qOf (x)) (x) (qOf_q _) (Br.use (by omega)))) (a_ FT 1 rfl (c_n ?_)))))))
  exact Tc_ret1 hq_ rfl (rA ty34 rfl rfl rfl rfl) (by unfold rndB;rw [if_pos hb0];rfl)
 ·refine t_q rfl (Jq_eql rfl rfl rfl (b:=false) (eF (by omega))) (c_n (Tc_f rfl (c_b (Tc_seq (c_a (a_ FT 1 rfl (c_n ?_)))))))
  refine Tc_cond rfl (fun hup=>?_) (fun hup=>?_)
  ·refine c_a (a_ FT 2 rfl (t_f rfl (Je_call rfl fn66 rfl (rdup (qOf x) x (qOf_q _) (Br.use (by omega)) bits)) (a_ FT 3 rfl (t_f rfl (Je_alloc (n:=2) rfl tz117 rfl) (a_ FT 2 rfl (cna (a_ FT 1 rfl (t_f rfl (Je_call rfl fn67 rfl (rdrat (rndD x bits (decide (0 < sg x))) (Bd.use (by omega)))) (a_ FT 1 rfl ?_)))))))))
   refine c_n ?_
   exact Tc_ret1 hq_ rfl (rA ty34 rfl rfl rfl rfl) (by unfold rndB;rw [if_neg hb0,if_pos hup];rfl)
  ·refine c_b (c_a (a_ FT 2 rfl (t_f rfl (Je_call rfl fn68 rfl (rddown (qOf x) x (qOf_q _) (Br.use (by omega)) bits)) (a_ FT 3 rfl (t_f rfl (Je_alloc (n:=2) rfl tz117 rfl) (a_ FT 2 rfl (cna (a_ FT 1 rfl (t_f rfl (Je_call rfl fn67 rfl (rdrat (rndD x bits (decide (sg x < 0))) (Bd.use (by omega)))) ?_)))))))))
   refine a_ FT 1 rfl (c_n ?_)
   exact Tc_ret1 hq_ rfl (rA ty34 rfl rfl rfl rfl) (by unfold rndB;rw [if_neg hb0,if_neg (by rw [hup];decide)];rfl)
end Go.Proofs.YtjdbopkbfkgpdaaGreatDoor
set_option linter.unusedSimpArgs false
set_option linter.unusedVariables false
namespace Go.Proofs.YtjdbopkbfkgpdaaGreatDoor
open Go Go.RowKit Rc
set_option maxRecDepth 10000 in
theorem round_p (x:Rat) (up:Bool) (bits:Int) {H:Nat} (hx:Hb x H) (hH:H < 35200) (h0:0≤bits) (h4:bits≤4096):Ctr Tryz.prog 44 [V.agg (qL (x)),V.one (Leaf.val (.bool up)),V.one (Leaf.val (.int .i64 (bits)))] (R.one (V.agg (qL (rndB x up bits)))):=by
 refine Ctr.of_body Tryz.func44 rfl Tryz.ntmps44 (Nat.le_of_ble_eq_true rfl) (fun w0 A0=>?_)
 haveI hbr:Br x 1100:=hx.limb (by omega)
 refine c_a (t_f rfl (Je_box (n:=0) rfl rfl rfl) (t_f rfl (Je_alloc (n:=1) rfl tz34 rfl) (cns (c_a (a_ FT 1 rfl ?_)))))
 by_cases hb0:bits = 0
 ·refine t_q rfl (Jq_eql rfl rfl rfl (b:=true) (eT (by omega))) (c_n (Tc_t rfl (c_a (a_ FT 2 rfl (c_n ?_)))))
  exact Tc_ret1 hq_ rfl (rA ty34 rfl rfl rfl rfl) (by unfold rndB;rw [if_pos hb0];rfl)
 ·refine t_q rfl (Jq_eql rfl rfl rfl (b:=false) (eF (by omega))) (c_n (Tc_f rfl (c_b (c_a (a_ FT 1 rfl (cns (c_a (a_ FT 1 rfl (c_n ?_)))))))))
  refine Tc_cond rfl (fun hup=>?_) (fun hup=>?_)
  ·refine Tc_region (a_ FT 1 rfl (cna (a_ FT 3 rfl (t_f rfl (Je_callV rfl rfl fn88 rfl (dup (qOf x) x (qOf_q _) (Br.use (by omega)) bits)) (a_ FT 3 rfl (Tl_eq (D.val (.int .i64 0)) (by unfold rndE;rw [if_neg (by omega)]) (t_f rfl (Je_alloc (n:=2) rfl tz117 rfl) (a_ FT 2 rfl (cns ?_)))))))))
   refine c_a (a_ FT 1 rfl (t_q rfl (Jq_neq rfl rfl rfl (b:=false) (rfl)) (c_n (Tc_f rfl (c_b (c_a (a_ FT 1 rfl (t_f rfl (Je_call rfl fn89 rfl (drat (rndD x bits (decide (0 < sg x))) (Bd.use (by omega)))) (a_ FT 1 rfl ?_)))))))))
   refine c_n ?_
   exact Tc_ret1 hq_ rfl (rA ty34 rfl rfl rfl rfl) (by unfold rndB;rw [if_neg hb0,if_pos hup];rfl)
  ·refine c_b (c_a (a_ FT 3 rfl (t_f rfl (Je_callV rfl rfl fn87 rfl (ddown (qOf x) x (qOf_q _) (Br.use (by omega)) bits)) (a_ FT 3 rfl (Tl_eq (D.val (.int .i64 0)) (by unfold rndE;rw [if_neg (by omega)]) (t_f rfl (Je_alloc (n:=2) rfl tz117 rfl) (a_ FT 2 rfl (cns (c_a ?_)))))))))
   refine a_ FT 1 rfl (t_q rfl (Jq_neq rfl rfl rfl (b:=false) (rfl)) (c_n (Tc_f rfl (c_b (c_a (a_ FT 1 rfl (t_f rfl (Je_call rfl fn89 rfl (drat (rndD x bits (decide (sg x < 0))) (Bd.use (by omega)))) (a_ FT 1 rfl (c_n ?_)))))))))
   exact Tc_ret1 hq_ rfl (rA ty34 rfl rfl rfl rfl) (by unfold rndB;rw [if_neg hb0,if_neg (by rw [hup];decide)];rfl)
set_option maxRecDepth 10000 in
theorem drun_bad (d:Dom) (hdm:DomOk d) (tD fL:Nat) (cs:List Value) (hone:cs.all Value.oneCell' = true) (hm:methF Tryz.prog tD "Lower" = some fL) (hfL:FnOk Tryz.prog fL) (hL:∀ (s:Sc) (f:Af),SOk s→FOk 3 (s.q.g.inp + s.q.g.us.length) f→Ctr Tryz.prog fL [V.agg (vals cs),scV s,afV f] (R.tup [qV (qOf (d s f).1),V.one (El.row muE (d s f).2.1),V.one (Leaf.val (.bool (d s f).2.2))])) (s:Sc) (hs:SOk s) (bits:Int) (hb:bits < 0 ∨ 4096 < bits):Ctr Tryz.prog 12 [V.one (Leaf.val (ifV tD cs)),scV s,V.one (Leaf.val (.int .i64 (bits)))] (R.tup [V.agg [Leaf.val (.int .i64 0),nilL,nilL,nilL,nilL,nilL,nilL,Leaf.val (.bool false),nilL,nilL,nilL,nilL],V.one (Leaf.val (.int .i64 1))]):=by
 refine Ctr.of_body Tryz.func12 rfl Tryz.ntmps12 (Nat.le_of_ble_eq_true rfl) (fun w0 A0=>?_)
 refine c_a (t_f rfl (Je_box (n:=0) rfl rfl rfl) (t_f rfl (Je_box (n:=1) rfl rfl rfl) (t_f rfl (Je_box (n:=2) rfl rfl rfl) (t_f rfl (Je_alloc (n:=3) rfl tz42 rfl) (a_ FT 1 rfl (cns (c_a (a_ FT 1 rfl (t_q rfl (Jq_eql_if rfl rfl rfl (by kernel_rfl)) ?_)))))))))
 refine a_ FT 3 rfl (Tl_e (JO_eg rfl rfl rfl rfl (Je_call rfl fn36 rfl (qvalid_p s.q hs.q))) rfl rfl (a_ FT 4 rfl ?_))
 by_cases h0:bits < 0
 ·refine t_g rfl rfl rfl rfl (Jq_lss rfl rfl rfl (b:=true) (dT (by omega))) (a_ FT 5 rfl (c_n (Tc_t rfl (c_a (t_q rfl (Jq_build rfl tz42 rfl pl42 rfl) (a_ FT 2 rfl (c_n ?_)))))))
  exact Tc_ret2 hq_ rfl (rA ty42 rfl rfl rfl rfl) rfl rfl
 ·refine t_g rfl rfl rfl rfl (Jq_lss rfl rfl rfl (b:=false) (dF (by omega))) (a_ FT 3 rfl (t_g rfl rfl rfl rfl (Jq_gtr rfl rfl rfl (b:=true) (dT (by omega))) (a_ FT 1 rfl (c_n (Tc_t rfl (c_a (t_q rfl (Jq_build rfl tz42 rfl pl42 rfl) (a_ FT 2 rfl (c_n ?_)))))))))
  exact Tc_ret2 hq_ rfl (rA ty42 rfl rfl rfl rfl) rfl rfl
set_option maxRecDepth 10000 in
set_option maxHeartbeats 2000000 in
theorem drun (d:Dom) (hdm:DomOk d) (tD fL:Nat) (cs:List Value) (hone:cs.all Value.oneCell' = true) (hm:methF Tryz.prog tD "Lower" = some fL) (hfL:FnOk Tryz.prog fL) (hL:∀ (s:Sc) (f:Af),SOk s→FOk 3 (s.q.g.inp + s.q.g.us.length) f→Ctr Tryz.prog fL [V.agg (vals cs),scV s,afV f] (R.tup [qV (qOf (d s f).1),V.one (El.row muE (d s f).2.1),V.one (Leaf.val (.bool (d s f).2.2))])) (s:Sc) (hs:SOk s) (h80:s.lems.length≤80) (bits:Int) (h0:0≤bits) (h4:bits≤4096):Ctr Tryz.prog 12 [V.one (Leaf.val (ifV tD cs)),scV s,V.one (Leaf.val (.int .i64 (bits)))] (R.tup [scV (runM d s bits),V.one (Leaf.val (.int .i64 0))]):=by
 refine Ctr.of_body Tryz.func12 rfl Tryz.ntmps12 (Nat.le_of_ble_eq_true rfl) (fun w0 A0=>?_)
 have hq:=hs.q;have hd:=hs.d;have hpl:=hs.pl;have hB:=hs.B;have hll:=hs.ll
 have hg:=hq.g;have hr:=hq.r;have hlo:=hr.lo;have hhi:=hr.hi
 have g1:=hg.i1;have g2:=hg.i3;have g3:=hg.u4;have g4:=hg.o1;have g5:=hg.o3
 refine c_a (t_f rfl (Je_box (n:=0) rfl rfl rfl) (t_f rfl (Je_box (n:=1) rfl rfl rfl) (t_f rfl (Je_box (n:=2) rfl rfl rfl) (t_f rfl (Je_alloc (n:=3) rfl tz42 rfl) (a_ FT 1 rfl (cns (c_a (a_ FT 1 rfl (t_q rfl (Jq_eql_if rfl rfl rfl (by kernel_rfl)) ?_)))))))))
 refine a_ FT 3 rfl (Tl_e (JO_eg rfl rfl rfl rfl (Je_call rfl fn36 rfl (qvalid_p s.q hq))) rfl rfl (a_ FT 4 rfl (t_g rfl rfl rfl rfl (Jq_lss rfl rfl rfl (b:=false) (dF (by omega))) (a_ FT 3 rfl (t_g rfl rfl rfl rfl (Jq_gtr rfl rfl rfl (b:=false) (dF (by omega))) (a_ FT 1 rfl (c_n (Tc_f rfl (c_b ?_)))))))))
 refine Tc_seq (Tc_norm [(3,some (D.ptr 0 0)),(4,some (D.ptr 1 0)),(5,some (D.ptr 2 0)),(6,some (D.ptr 3 0))] [hb_ 83 [Leaf.val (ifV tD cs)],hb_ 42 (scL s),hb_ 3 [Leaf.val (.int .i64 bits)],hb_ 42 scZ] ⟨rfl,rfl,rfl,rfl,trivial⟩ rfl (Tc_drawK 1 [none,none,none,none,none,some 4,none,some 1,none,some 1] [4,1] follows (by kernel_rfl) (d_ FT 1 rfl ?_)))
 refine DK_qp [4] (JO_q rfl rfl (Jq_load rfl rfl rfl (by decide) ty39 rfl)) (by kernel_rfl) (DK_c rfl rfl (Jd_call rfl fn37 rfl (clone_dc s.path (by omega))) (d_ FT 1 rfl (DK_qp [4] (JO_q rfl rfl (Jq_load rfl rfl rfl (by decide) ty40 rfl)) (by kernel_rfl) (DK_s 4 rfl rfl rfl (Jd_callG (i:=4) rfl fn38 rfl (clone_lm s.lems (by omega)) (by decide) rfl) (d_ FT 1 rfl ?_)))))
 refine DK_s 1 rfl rfl rfl (Jd_store rfl rfl rfl rfl ty39 rfl (by decide) (Nat.le_of_ble_eq_true rfl) rfl) (d_ FT 1 rfl (DK_s 1 rfl rfl rfl (Jd_store rfl rfl rfl rfl ty40 rfl (by decide) (Nat.le_of_ble_eq_true rfl) rfl) (DK_nil (At_then (Tc_seq (Tc_seq ?_))))))
 refine Tc_norm [(3,some (D.ptr 0 0)),(4,some (D.ptr 1 0)),(5,some (D.ptr 2 0)),(6,some (D.ptr 3 0))] [hb_ 83 [Leaf.val (ifV tD cs)],hb_ 42 (quL s.q ++ [El.row dcE s.path,Leaf.own 4 0]),hb_ 3 [Leaf.val (.int .i64 bits)],hb_ 42 scZ,hgr 64 6 lmE s.lems 0] ⟨rfl,rfl,rfl,rfl,trivial⟩ rfl ?_
 refine Tc_pin 0 rfl (fun q1=>?_)
 refine Tc_pin 1 rfl (fun q2=>?_)
 refine Tc_pin 2 rfl (fun q3=>?_)
 refine Tc_region (a_ FT 4 rfl (t_q rfl (Jq_len rfl rfl un24) (a_ FT 1 rfl (c_n (Tc_block ?_)))))
 refine Tc_loopR (fun m Γ H=>∃ (i:Nat) (n:Nat) (out:List Lm),s.q.g.us.length - i = m∧Γ = [(3,some (D.ptr 0 0)),(4,some (D.ptr 1 0)),(5,some (D.ptr 2 0)),(6,some (D.ptr 3 0)),(39,some (D.v (V.one (El.row afE s.q.g.us)))),(40,some (D.val (.int .i64 ((s.q.g.us.length:Nat):Int)))),(41,some (D.val (.int .i64 ((i:Nat):Int))))]∧H = [hbq 83 [Leaf.val (ifV tD cs)] q1,hbq 42 (quL s.q ++ [El.row dcE s.path,Leaf.own 4 n]) q2,hbq 3 [Leaf.val (.int .i64 bits)] q3,hb_ 42 scZ,hgr 64 6 lmE out n]∧i≤s.q.g.us.length∧out = Rc.runN d s bits i) ⟨0,0,s.lems,rfl,rfl,rfl,Nat.zero_le _,rfl⟩ ⟨rfl,rfl,rfl,rfl,rfl,rfl,rfl,trivial⟩ ?_
 rintro m Γ H ⟨i,n,out,rfl,rfl,rfl,hi0,hout⟩
 refine c_a ?_
 by_cases hi:i < s.q.g.us.length
 ·refine t_q rfl (Jq_lss rfl rfl rfl (b:=true) (dT (by omega))) (cns (Tc_t rfl (c_b (Tc_seq (Tc_block (Tc_seq ?_))))))
  obtain ⟨p,hp⟩:∃ p,s.q.g.us[i]? = some p:=⟨_,List.getElem?_eq_getElem hi⟩
  have hso:=runN_sok hdm hs h80 (bits:=bits) (n:=i) (by omega)
  have hln:=(runN_ok hdm hs h80 bits i (by omega)).2
  rw [← hout] at hso hln
  have hpf:=hq.g.us i p hp
  have hpf2:FOk 3 (s.q.g.inp + s.q.g.us.length) p:=hpf.mono (Nat.le_refl _) (by omega)
  have hnf:=hpf.neg
  have hnf2:=hpf2.neg
  have hpl_:=hpf2.fl
  haveI:=hpl_.fm (by omega);haveI:=hpl_.cb
  have hK:=KB_le (j:=i) (by omega)
  have hrA:=runA_ok hdm hs (bits:=bits) hso hp
  refine Tc_norm [(3,some (D.ptr 0 0)),(4,some (D.ptr 1 0)),(5,some (D.ptr 2 0)),(6,some (D.ptr 3 0)),(39,some (D.v (V.one (El.row afE s.q.g.us)))),(40,some (D.val (.int .i64 ((s.q.g.us.length:Nat):Int)))),(41,some (D.val (.int .i64 ((i:Nat):Int))))] [hbq 83 [Leaf.val (ifV tD cs)] q1,hbq 42 (quL s.q ++ [El.row dcE s.path,Leaf.own 4 n]) q2,hbq 3 [Leaf.val (.int .i64 bits)] q3,hb_ 42 scZ,hgr 64 6 lmE out n] ⟨rfl,rfl,rfl,rfl,rfl,rfl,rfl,trivial⟩ rfl ?_
  refine Tc_region (a_ FT 1 rfl (t_q rfl (Jq_indexX afE s.q.g.us (i) rfl rfl rfl un24 ty36 hp) (t_q rfl (Jq_load_ref_agg rfl rfl ty36 rfl) (t_f rfl (Je_alloc (n:=5) rfl tz3 rfl) (t_f rfl (Je_alloc (n:=6) rfl tz36 rfl) (a_ FT 2 rfl (cns ?_)))))))
  refine Tc_pin 5 rfl (fun q6=>?_)
  refine Tc_pin 6 rfl (fun q7=>?_)
  refine Tc_region ?_
  refine t_f rfl (Je_makeFunc (vs:=[.pointer (some ⟨q7,0,none⟩),.pointer (some ⟨q1,0,none⟩),.pointer (some ⟨q2,0,none⟩),.pointer (some ⟨q6,0,none⟩),.pointer (some ⟨q3,0,none⟩)]) rfl ⟨⟨_,rfl,.inr ⟨_,_,_,rfl,rfl,rfl,rfl,rfl⟩⟩,⟨_,rfl,.inr ⟨_,_,_,rfl,rfl,rfl,rfl,rfl⟩⟩,⟨_,rfl,.inr ⟨_,_,_,rfl,rfl,rfl,rfl,rfl⟩⟩,⟨_,rfl,.inr ⟨_,_,_,rfl,rfl,rfl,rfl,rfl⟩⟩,⟨_,rfl,.inr ⟨_,_,_,rfl,rfl,rfl,rfl,rfl⟩⟩,trivial⟩) ?_
  refine a_ FT 1 rfl (cns ?_)
  refine Tc_norm [(3,some (D.ptr 0 0)),(4,some (D.ptr 1 0)),(5,some (D.ptr 2 0)),(6,some (D.ptr 3 0)),(10,some (D.val (.func (.func 39) #[] #[.pointer (some ⟨q7,0,none⟩),.pointer (some ⟨q1,0,none⟩),.pointer (some ⟨q2,0,none⟩),.pointer (some ⟨q6,0,none⟩),.pointer (some ⟨q3,0,none⟩)]))),(39,some (D.v (V.one (El.row afE s.q.g.us)))),(40,some (D.val (.int .i64 ((s.q.g.us.length:Nat):Int)))),(41,some (D.val (.int .i64 ((i:Nat):Int))))] [hbq 83 [Leaf.val (ifV tD cs)] q1,hbq 42 (quL s.q ++ [El.row dcE s.path,Leaf.own 4 n]) q2,hbq 3 [Leaf.val (.int .i64 bits)] q3,hb_ 42 scZ,hgr 64 6 lmE out n,hbq 3 [Leaf.val (.int .i64 ((i:Nat):Int))] q6,hbq 36 (afL p) q7] ⟨rfl,rfl,rfl,rfl,rfl,rfl,rfl,rfl,trivial⟩ rfl ?_
  refine Tc_region (a_ FT 1 rfl ?_)
  refine Tl_inlineF (dc:=[D.ptr 6 0,D.ptr 0 0,D.ptr 1 0,D.ptr 5 0,D.ptr 2 0]) rfl rfl rfl ⟨.inr ⟨_,_,_,rfl,rfl,rfl,rfl,rfl⟩,.inr ⟨_,_,_,rfl,rfl,rfl,rfl,rfl⟩,.inr ⟨_,_,_,rfl,rfl,rfl,rfl,rfl⟩,.inr ⟨_,_,_,rfl,rfl,rfl,rfl,rfl⟩,.inr ⟨_,_,_,rfl,rfl,rfl,rfl,rfl⟩,trivial⟩ Tryz.func39 rfl rfl Tryz.ntmps39 (Nat.le_of_ble_eq_true rfl) rfl (fun a8 d8 s8=>?_)
  refine c_a (a_ FT 1 rfl (t_f rfl (Je_alloc (n:=7) rfl tz36 rfl) (a_ FT 1 rfl (cns (c_a (a_ FT 1 rfl (c_n (Tc_f rfl (c_b ?_)))))))))
  refine c_a (a_ FT 1 rfl ?_)
  refine t_q rfl (Jq_view (r:=4) (n:=n) (x:=V.agg (quL s.q ++ [El.row dcE s.path,Leaf.own 4 n])) (x':=V.agg (quL s.q ++ [El.row dcE s.path,El.row lmE out])) (Jq_load_agg rfl rfl rfl (by decide) ty42 (by decide) (Nat.le_of_ble_eq_true rfl) rfl) (RowAt.ofE lmE out rfl (by decide)) (by decide) ⟨.inl rfl,.inl rfl,.inl rfl,.inl rfl,.inl rfl,.inl rfl,.inl rfl,.inl rfl,.inl rfl,.inl rfl,.inl rfl,.inr ⟨rfl,rfl⟩,trivial⟩) ?_
  refine a_ FT 1 rfl (t_f rfl (Je_invoke rfl rfl hm hfL rfl (hL (withL s out) p hso hpf2) hone) (a_ FT 4 rfl (t_f rfl (Je_alloc (n:=8) rfl tz34 rfl) (a_ FT 3 rfl (cns (c_a (a_ FT 2 rfl (c_n ?_))))))))
  refine Tc_cond rfl (fun hb1n=>?_) (fun hb1n=>?_)
  ·refine Tc_retI0 [(3,some (D.ptr 0 0)),(4,some (D.ptr 1 0)),(5,some (D.ptr 2 0)),(6,some (D.ptr 3 0)),(10,some (D.val (.func (.func 39) #[] #[.pointer (some ⟨q7,0,none⟩),.pointer (some ⟨q1,0,none⟩),.pointer (some ⟨q2,0,none⟩),.pointer (some ⟨q6,0,none⟩),.pointer (some ⟨q3,0,none⟩)]))),(39,some (D.v (V.one (El.row afE s.q.g.us)))),(40,some (D.val (.int .i64 ((s.q.g.us.length:Nat):Int)))),(41,some (D.val (.int .i64 ((i:Nat):Int))))] (fun _ _ h=>h) d8 s8 rfl rfl ⟨rfl,rfl,rfl,rfl,rfl,rfl,rfl,rfl,trivial⟩ ?_
   refine c_n ?_
   have hA:runA d s bits out i p = out:=by unfold runA;rw [sideN_f1 (by have h:(d (withL s out) p).2.2 = false:=(by simpa using hb1n);exact h),List.append_nil]
   have hso1:SOk (withL s out):=by rw [← hA];exact LOk.withL hs hrA.1 (by have:=hrA.2;have hl2:out.length≤s.lems.length + 2 * i:=hln;omega)
   refine Tc_region (a_ FT 1 rfl ?_)
   refine Tl_inlineF (dc:=[D.ptr 6 0,D.ptr 0 0,D.ptr 1 0,D.ptr 5 0,D.ptr 2 0]) rfl rfl rfl ⟨.inr ⟨_,_,_,rfl,rfl,rfl,rfl,rfl⟩,.inr ⟨_,_,_,rfl,rfl,rfl,rfl,rfl⟩,.inr ⟨_,_,_,rfl,rfl,rfl,rfl,rfl⟩,.inr ⟨_,_,_,rfl,rfl,rfl,rfl,rfl⟩,.inr ⟨_,_,_,rfl,rfl,rfl,rfl,rfl⟩,trivial⟩ Tryz.func39 rfl rfl Tryz.ntmps39 (Nat.le_of_ble_eq_true rfl) rfl (fun a9 d9 s9=>?_)
   refine c_a (a_ FT 1 rfl (t_f rfl (Je_alloc (n:=9) rfl tz36 rfl) (a_ FT 1 rfl (cns (c_a (a_ FT 1 rfl (c_n (Tc_t rfl (Tc_drawK 0 [none,none,none,some 9] [9] follows (by kernel_rfl) ?_)))))))))
   refine d_ FT 1 rfl (DK_c rfl rfl (Jd_call rfl fn41 rfl (qof_spec (-1) (by decide) (by decide))) (DK_c rfl rfl (Jd_call rfl fn40 rfl (scale_p p ((-1:Int):Rat) hpl_ (by omega) (by omega) (by omega))) (DK_s 9 rfl rfl rfl (Jd_store rfl rfl rfl rfl ty36 rfl (by decide) (Nat.le_of_ble_eq_true rfl) rfl) (DK_nil (At_then (c_a (a_ FT 1 rfl ?_)))))))
   refine t_q rfl (Jq_view (r:=4) (n:=n) (x:=V.agg (quL s.q ++ [El.row dcE s.path,Leaf.own 4 n])) (x':=V.agg (quL s.q ++ [El.row dcE s.path,El.row lmE out])) (Jq_load_agg rfl rfl rfl (by decide) ty42 (by decide) (Nat.le_of_ble_eq_true rfl) rfl) (RowAt.ofE lmE out rfl (by decide)) (by decide) ⟨.inl rfl,.inl rfl,.inl rfl,.inl rfl,.inl rfl,.inl rfl,.inl rfl,.inl rfl,.inl rfl,.inl rfl,.inl rfl,.inr ⟨rfl,rfl⟩,trivial⟩) ?_
   refine a_ FT 1 rfl (t_f rfl (Je_invoke rfl rfl hm hfL rfl (hL (withL s out) (negF p) hso1 hnf2) hone) (a_ FT 4 rfl (t_f rfl (Je_alloc (n:=10) rfl tz34 rfl) (a_ FT 3 rfl (cns (c_a (a_ FT 2 rfl (c_n ?_))))))))
   refine Tc_cond rfl (fun hb2n=>?_) (fun hb2n=>?_)
   ·refine Tc_retI0 [(3,some (D.ptr 0 0)),(4,some (D.ptr 1 0)),(5,some (D.ptr 2 0)),(6,some (D.ptr 3 0)),(39,some (D.v (V.one (El.row afE s.q.g.us)))),(40,some (D.val (.int .i64 ((s.q.g.us.length:Nat):Int)))),(41,some (D.val (.int .i64 ((i:Nat):Int))))] (fun _ _ h=>h) d9 s9 rfl rfl ⟨rfl,rfl,rfl,rfl,rfl,rfl,rfl,trivial⟩ (Tl_end (At_block (At_then (Tc_region ?_))))
    refine t_q rfl (Jq_add rfl rfl rfl (r:=((i + 1:Nat):Int)) (w64 (by omega) (by omega) (by omega))) (a_ FT 1 rfl (Tl_end (At_free 5 (At_free 6 (At_free 7 (At_free 8 (At_free 9 (At_free 10 (trim_ 5 rfl ?_)))))))))
    exact At_next (m':=s.q.g.us.length - (i + 1)) (by omega) ⟨i + 1,_,_,rfl,rfl,rfl,hi,by rw [runN_get hp,← hout,hA,sideN_f1 (by have h:(d (withL s out) (negF p)).2.2 = false:=(by simpa using hb2n);exact h)];simp only [List.append_nil]⟩ ⟨rfl,rfl,rfl,rfl,rfl,rfl,rfl,trivial⟩
   ·refine c_b (Tc_seq ?_)
    have hb2:(d (withL s out) (negF p)).2.2 = true:=by simpa using hb2n
    haveI h1hb2:Hb (d (withL s out) (negF p)).1 (KB i - 4200):=hdm (withL s out) hso1 i (negF p) (by exact hi) (by exact hnf) (by exact hb2)
    have h2hb2:Hb (-(d (withL s out) (negF p)).1) (KB i - 4200):=Hb.neg
    haveI h3hb2:Br (d (withL s out) (negF p)).1 34402:=h1hb2.limb (by omega)
    haveI:Br (rndB (-(d (withL s out) (negF p)).1) true bits) 38501:=((rndB_hb (up:=true) (bits:=bits) h2hb2 (by omega)).mono (show _≤38500 by omega)).br
    have hso_B_2:∀ m∈out,Fq m.v 34401:=hso1.B
    have hso_L_2:(out).length≤100:=hso1.ll
    refine Tc_region ?_
    refine t_q rfl (Jq_view (r:=4) (n:=n) (x:=V.agg (quL s.q ++ [El.row dcE s.path,Leaf.own 4 n])) (x':=V.agg (quL s.q ++ [El.row dcE s.path,El.row lmE out])) (Jq_load_agg rfl rfl rfl (by decide) ty42 (by decide) (Nat.le_of_ble_eq_true rfl) rfl) (RowAt.ofE lmE out rfl (by decide)) (by decide) ⟨.inl rfl,.inl rfl,.inl rfl,.inl rfl,.inl rfl,.inl rfl,.inl rfl,.inl rfl,.inl rfl,.inl rfl,.inl rfl,.inr ⟨rfl,rfl⟩,trivial⟩) ?_
    refine a_ FT 1 rfl (t_f rfl (Je_call rfl fn42 rfl (best_p (withL s out) hso_B_2 (by omega) (by show (out).length≤_;omega) ((i:Nat):Int))) (a_ FT 5 rfl (cns (Tc_free 7 (Tc_free 8 (Tc_free 9 ?_))))))
    refine Tc_norm [(0,some (D.bool true)),(3,some (D.ptr 1 0)),(4,some (D.ptr 5 0)),(5,some (D.ptr 2 0)),(8,some (D.ptr 10 0)),(9,some (D.v (V.one (El.row muE ((d (withL s out) (negF p)).2.1))))),(11,some (D.val (.int .i64 (((best out ((i:Nat):Int)).1:Nat):Int)))),(12,some (D.val (.int .i64 (((best out ((i:Nat):Int)).2:Nat):Int)))),(2003,some (D.ptr 0 0)),(2004,some (D.ptr 1 0)),(2005,some (D.ptr 2 0)),(2006,some (D.ptr 3 0)),(2039,some (D.v (V.one (El.row afE s.q.g.us)))),(2040,some (D.val (.int .i64 ((s.q.g.us.length:Nat):Int)))),(2041,some (D.val (.int .i64 ((i:Nat):Int))))] [hbq 83 [Leaf.val (ifV tD cs)] q1,hbq 42 (quL s.q ++ [El.row dcE s.path,Leaf.own 4 n]) q2,hbq 3 [Leaf.val (.int .i64 bits)] q3,hb_ 42 scZ,hgr 64 6 lmE out n,hbq 3 [Leaf.val (.int .i64 ((i:Nat):Int))] q6,hbq 36 (afL p) q7,none,none,none,hb_ 34 (qL ((d (withL s out) (negF p)).1))] ⟨rfl,rfl,rfl,rfl,rfl,rfl,rfl,rfl,rfl,rfl,rfl,rfl,rfl,rfl,rfl,trivial⟩ rfl ?_
    refine Tc_region (a_ FT 3 rfl (cns (c_a (a_ FT 1 rfl (c_n (Tc_t rfl (Tc_region (a_ FT 1 rfl (t_f rfl (Je_call rfl fn43 rfl (qneg (qOf ((d (withL s out) (negF p)).1)) ((d (withL s out) (negF p)).1) (qOf_q _) (Br.use (by omega)))) ?_)))))))))
    refine a_ FT 4 rfl (cns ?_)
    refine Tc_norm [(0,some (D.bool true)),(3,some (D.ptr 1 0)),(4,some (D.ptr 5 0)),(5,some (D.ptr 2 0)),(8,some (D.ptr 10 0)),(9,some (D.v (V.one (El.row muE ((d (withL s out) (negF p)).2.1))))),(13,some (D.val (.int .i64 (((best out ((i:Nat):Int)).2:Nat):Int)))),(14,some (D.val (.int .i64 (-1)))),(2003,some (D.ptr 0 0)),(2004,some (D.ptr 1 0)),(2005,some (D.ptr 2 0)),(2006,some (D.ptr 3 0)),(2039,some (D.v (V.one (El.row afE s.q.g.us)))),(2040,some (D.val (.int .i64 ((s.q.g.us.length:Nat):Int)))),(2041,some (D.val (.int .i64 ((i:Nat):Int))))] [hbq 83 [Leaf.val (ifV tD cs)] q1,hbq 42 (quL s.q ++ [El.row dcE s.path,Leaf.own 4 n]) q2,hbq 3 [Leaf.val (.int .i64 bits)] q3,hb_ 42 scZ,hgr 64 6 lmE out n,hbq 3 [Leaf.val (.int .i64 ((i:Nat):Int))] q6,hbq 36 (afL p) q7,none,none,none,hb_ 34 (qL (-((d (withL s out) (negF p)).1)))] ⟨rfl,rfl,rfl,rfl,rfl,rfl,rfl,rfl,rfl,rfl,rfl,rfl,rfl,rfl,rfl,trivial⟩ rfl ?_
    refine Tc_region (a_ FT 3 rfl (t_f rfl (Je_call rfl fn44 rfl (round_p (-(d (withL s out) (negF p)).1) true bits h2hb2 (by omega) h0 h4)) (a_ FT 1 rfl (c_n ?_))))
    refine Tc_meet (Γ':=[(0,some (D.bool true)),(3,some (D.ptr 1 0)),(4,some (D.ptr 5 0)),(8,some (D.ptr 10 0)),(9,some (D.v (V.one (El.row muE ((d (withL s out) (negF p)).2.1))))),(59,some (D.bool (strong out i true (rndB (-(d (withL s out) (negF p)).1) true bits)))),(2003,some (D.ptr 0 0)),(2004,some (D.ptr 1 0)),(2005,some (D.ptr 2 0)),(2006,some (D.ptr 3 0)),(2039,some (D.v (V.one (El.row afE s.q.g.us)))),(2040,some (D.val (.int .i64 ((s.q.g.us.length:Nat):Int)))),(2041,some (D.val (.int .i64 ((i:Nat):Int))))]) (H':=[hbq 83 [Leaf.val (ifV tD cs)] q1,hbq 42 (quL s.q ++ [El.row dcE s.path,Leaf.own 4 n]) q2,hbq 3 [Leaf.val (.int .i64 bits)] q3,hb_ 42 scZ,hgr 64 6 lmE out n,hbq 3 [Leaf.val (.int .i64 ((i:Nat):Int))] q6,hbq 36 (afL p) q7,none,none,none,hb_ 34 (qL (rndB (-(d (withL s out) (negF p)).1) true bits))]) ?_ ?_
    ·refine Tc_drawK 0 [none,none,none,none,none,none,none,none,none,none,none,none,none,none,none] [] follows (by kernel_rfl) (d_ FT 1 rfl ?_)
     by_cases hk2:(best out ((i:Nat):Int)).2 = 0
     ·refine dq_ rfl rfl (Jq_eql rfl rfl rfl (b:=true) (eT (by omega))) (d_ FT 13 rfl (DK_is (strong out i true (rndB (-(d (withL s out) (negF p)).1) true bits)) (by exact (strong_ut (.inl hk2)).symm) (DK_nil ?_)))
      exact At_meet ⟨rfl,rfl,rfl,rfl,rfl,rfl,rfl,rfl,rfl,rfl,rfl,rfl,rfl,trivial⟩
     ·refine dq_ rfl rfl (Jq_eql rfl rfl rfl (b:=false) (eF (by omega))) (d_ FT 3 rfl ?_)
      obtain ⟨y,hy,_,_,hly,hy0,hyl⟩:=best_hi hk2
      haveI hyB:=hso_B_2 y (List.mem_of_getElem? hy)
      refine DK_q (JO_qg rfl rfl rfl rfl (Jq_view (r:=4) (n:=n) (x:=V.one (Leaf.own 4 n)) (x':=V.one (El.row lmE out)) (Jq_load rfl rfl rfl (by decide) ty40 rfl) (RowAt.ofE lmE out rfl (by decide)) (by decide) (.inr ⟨rfl,rfl⟩))) (d_ FT 1 rfl ?_)
      refine DK_q (JO_qg rfl rfl rfl rfl (Jq_sub rfl rfl rfl (r:=(((best out ((i:Nat):Int)).2 - 1:Nat):Int)) (w64 (by omega) (by omega) (by omega)))) (DK_q (JO_qg rfl rfl rfl rfl (Jq_indexX lmE out ((best out ((i:Nat):Int)).2 - 1) rfl rfl rfl un40 ty64 hy)) (DK_q (JO_qg rfl rfl rfl rfl (Jq_fieldAddr_refT rfl rfl fo64_2 rfl rfl)) ?_))
      refine DK_q (JO_qg rfl rfl rfl rfl (Jq_load_ref_agg rfl rfl ty34 rfl)) (DK_cg rfl rfl rfl rfl (Jd_call rfl fn45 rfl (qcmp (qOf ((rndB (-(d (withL s out) (negF p)).1) true bits))) ((rndB (-(d (withL s out) (negF p)).1) true bits)) (qOf_q _) (Br.use (by omega)) y.v (y.v.q) rfl (Fq.use (x:=y.v) (by omega)))) (d_ FT 1 rfl ?_))
      by_cases hc2:rndB (-(d (withL s out) (negF p)).1) true bits < lv out (best out ((i:Nat):Int)).2
      ·refine DK_q (JO_qg rfl rfl rfl rfl (Jq_eql rfl rfl rfl (b:=true) (eT (by rw [cmpq_lt1,← hly];exact hc2)))) (d_ FT 1 rfl (DK_is (strong out i true (rndB (-(d (withL s out) (negF p)).1) true bits)) (by exact (strong_ut (.inr hc2)).symm) (DK_nil ?_)))
       exact At_meet ⟨rfl,rfl,rfl,rfl,rfl,rfl,rfl,rfl,rfl,rfl,rfl,rfl,rfl,trivial⟩
      ·refine DK_q (JO_qg rfl rfl rfl rfl (Jq_eql rfl rfl rfl (b:=false) (eF (fun e=>hc2 (by rw [hly];exact cmpq_lt1.1 e))))) (d_ FT 1 rfl (DK_is (strong out i true (rndB (-(d (withL s out) (negF p)).1) true bits)) (by exact (strong_uf hk2 hc2).symm) (DK_nil ?_)))
       exact At_meet ⟨rfl,rfl,rfl,rfl,rfl,rfl,rfl,rfl,rfl,rfl,rfl,rfl,rfl,trivial⟩
    ·refine Tc_cond rfl (fun hs2=>?_) (fun hs2=>?_)
     ·refine Tc_region (a_ FT 6 rfl (t_q rfl (Jq_build rfl tz64 rfl pl64 rfl) (t_f rfl (Je_buildSlice rfl un40 ty64 tz64 rfl (by decide) (by decide) rfl (by decide) rfl) ?_)))
      obtain ⟨ti12,hi12,hz12,hs12,hb12⟩:=in64
      refine t_f rfl (Je_appendR lmE out (⟨((i:Nat):Int),true,(qOf ((rndB (-(d (withL s out) (negF p)).1) true bits))),(d (withL s out) (negF p)).2.1⟩) rfl rfl rfl rfl (by decide) un40 un40 hi12 hz12 hs12 rfl (by first | (simp only [maxLen];omega) | (simp only [maxLen,List.length_append,List.length_take,List.length_drop,List.length_cons,List.length_nil];omega)) (by rw [hb12];first | omega | (simp only [List.length_append,List.length_take,List.length_drop,List.length_cons,List.length_nil];omega))) ?_
      refine a_ FT 2 rfl (Tl_end (At_retI0 [(3,some (D.ptr 0 0)),(4,some (D.ptr 1 0)),(5,some (D.ptr 2 0)),(6,some (D.ptr 3 0)),(39,some (D.v (V.one (El.row afE s.q.g.us)))),(40,some (D.val (.int .i64 ((s.q.g.us.length:Nat):Int)))),(41,some (D.val (.int .i64 ((i:Nat):Int))))] d9 s9 rfl rfl ⟨rfl,rfl,rfl,rfl,rfl,rfl,rfl,trivial⟩ (Tl_end (At_block (At_then ?_)))))
      refine Tc_region (t_q rfl (Jq_add rfl rfl rfl (r:=((i + 1:Nat):Int)) (w64 (by omega) (by omega) (by omega))) (a_ FT 1 rfl (Tl_end (At_free 5 (At_free 6 (At_free 10 (trim_ 5 rfl ?_)))))))
      exact At_next (m':=s.q.g.us.length - (i + 1)) (by omega) ⟨i + 1,_,_,rfl,rfl,rfl,hi,by rw [runN_get hp,← hout,hA,sideN_t (by exact hb2) (by exact hs2)];rfl⟩ ⟨rfl,rfl,rfl,rfl,rfl,rfl,rfl,trivial⟩
     ·refine Tc_skipA (At_retI0 [(3,some (D.ptr 0 0)),(4,some (D.ptr 1 0)),(5,some (D.ptr 2 0)),(6,some (D.ptr 3 0)),(39,some (D.v (V.one (El.row afE s.q.g.us)))),(40,some (D.val (.int .i64 ((s.q.g.us.length:Nat):Int)))),(41,some (D.val (.int .i64 ((i:Nat):Int))))] d9 s9 rfl rfl ⟨rfl,rfl,rfl,rfl,rfl,rfl,rfl,trivial⟩ (Tl_end (At_block (At_then (Tc_region ?_)))))
      refine t_q rfl (Jq_add rfl rfl rfl (r:=((i + 1:Nat):Int)) (w64 (by omega) (by omega) (by omega))) (a_ FT 1 rfl (Tl_end (At_free 5 (At_free 6 (At_free 10 (trim_ 5 rfl ?_))))))
      exact At_next (m':=s.q.g.us.length - (i + 1)) (by omega) ⟨i + 1,_,_,rfl,rfl,rfl,hi,by rw [runN_get hp,← hout,hA,sideN_f2 (by exact hs2)];simp only [List.append_nil]⟩ ⟨rfl,rfl,rfl,rfl,rfl,rfl,rfl,trivial⟩
  ·refine c_b (Tc_seq ?_)
   have hb1:(d (withL s out) p).2.2 = true:=by simpa using hb1n
   haveI h1hb1:Hb (d (withL s out) p).1 (KB i - 4200):=hdm (withL s out) hso i p (by exact hi) (by exact hpf) (by exact hb1)
   have h2hb1:=h1hb1
   haveI h3hb1:Br (d (withL s out) p).1 34402:=h1hb1.limb (by omega)
   haveI:Br (rndB (d (withL s out) p).1 false bits) 38501:=((rndB_hb (up:=false) (bits:=bits) h2hb1 (by omega)).mono (show _≤38500 by omega)).br
   have hso_B_1:∀ m∈out,Fq m.v 34401:=hso.B
   have hso_L_1:(out).length≤100:=hso.ll
   refine Tc_region ?_
   refine t_q rfl (Jq_view (r:=4) (n:=n) (x:=V.agg (quL s.q ++ [El.row dcE s.path,Leaf.own 4 n])) (x':=V.agg (quL s.q ++ [El.row dcE s.path,El.row lmE out])) (Jq_load_agg rfl rfl rfl (by decide) ty42 (by decide) (Nat.le_of_ble_eq_true rfl) rfl) (RowAt.ofE lmE out rfl (by decide)) (by decide) ⟨.inl rfl,.inl rfl,.inl rfl,.inl rfl,.inl rfl,.inl rfl,.inl rfl,.inl rfl,.inl rfl,.inl rfl,.inl rfl,.inr ⟨rfl,rfl⟩,trivial⟩) ?_
   refine a_ FT 1 rfl (t_f rfl (Je_call rfl fn42 rfl (best_p (withL s out) hso_B_1 (by omega) (by show (out).length≤_;omega) ((i:Nat):Int))) (a_ FT 5 rfl (cns (Tc_free 7 ?_))))
   refine Tc_norm [(0,some (D.bool false)),(3,some (D.ptr 1 0)),(4,some (D.ptr 5 0)),(5,some (D.ptr 2 0)),(8,some (D.ptr 8 0)),(9,some (D.v (V.one (El.row muE ((d (withL s out) p).2.1))))),(11,some (D.val (.int .i64 (((best out ((i:Nat):Int)).1:Nat):Int)))),(12,some (D.val (.int .i64 (((best out ((i:Nat):Int)).2:Nat):Int)))),(2003,some (D.ptr 0 0)),(2004,some (D.ptr 1 0)),(2005,some (D.ptr 2 0)),(2006,some (D.ptr 3 0)),(2010,some (D.val (.func (.func 39) #[] #[.pointer (some ⟨q7,0,none⟩),.pointer (some ⟨q1,0,none⟩),.pointer (some ⟨q2,0,none⟩),.pointer (some ⟨q6,0,none⟩),.pointer (some ⟨q3,0,none⟩)]))),(2039,some (D.v (V.one (El.row afE s.q.g.us)))),(2040,some (D.val (.int .i64 ((s.q.g.us.length:Nat):Int)))),(2041,some (D.val (.int .i64 ((i:Nat):Int))))] [hbq 83 [Leaf.val (ifV tD cs)] q1,hbq 42 (quL s.q ++ [El.row dcE s.path,Leaf.own 4 n]) q2,hbq 3 [Leaf.val (.int .i64 bits)] q3,hb_ 42 scZ,hgr 64 6 lmE out n,hbq 3 [Leaf.val (.int .i64 ((i:Nat):Int))] q6,hbq 36 (afL p) q7,none,hb_ 34 (qL ((d (withL s out) p).1))] ⟨rfl,rfl,rfl,rfl,rfl,rfl,rfl,rfl,rfl,rfl,rfl,rfl,rfl,rfl,rfl,rfl,trivial⟩ rfl ?_
   refine Tc_region (a_ FT 3 rfl (cns (c_a (a_ FT 1 rfl (c_n (Tc_f rfl (c_b (c_a (a_ FT 3 rfl ?_)))))))))
   refine t_f rfl (Je_call rfl fn44 rfl (round_p ((d (withL s out) p).1) false bits h2hb1 (by omega) h0 h4)) (a_ FT 1 rfl (c_n ?_))
   refine Tc_meet (Γ':=[(0,some (D.bool false)),(3,some (D.ptr 1 0)),(4,some (D.ptr 5 0)),(8,some (D.ptr 8 0)),(9,some (D.v (V.one (El.row muE ((d (withL s out) p).2.1))))),(59,some (D.bool (strong out i false (rndB (d (withL s out) p).1 false bits)))),(2003,some (D.ptr 0 0)),(2004,some (D.ptr 1 0)),(2005,some (D.ptr 2 0)),(2006,some (D.ptr 3 0)),(2010,some (D.val (.func (.func 39) #[] #[.pointer (some ⟨q7,0,none⟩),.pointer (some ⟨q1,0,none⟩),.pointer (some ⟨q2,0,none⟩),.pointer (some ⟨q6,0,none⟩),.pointer (some ⟨q3,0,none⟩)]))),(2039,some (D.v (V.one (El.row afE s.q.g.us)))),(2040,some (D.val (.int .i64 ((s.q.g.us.length:Nat):Int)))),(2041,some (D.val (.int .i64 ((i:Nat):Int))))]) (H':=[hbq 83 [Leaf.val (ifV tD cs)] q1,hbq 42 (quL s.q ++ [El.row dcE s.path,Leaf.own 4 n]) q2,hbq 3 [Leaf.val (.int .i64 bits)] q3,hb_ 42 scZ,hgr 64 6 lmE out n,hbq 3 [Leaf.val (.int .i64 ((i:Nat):Int))] q6,hbq 36 (afL p) q7,none,hb_ 34 (qL (rndB (d (withL s out) p).1 false bits))]) ?_ ?_
   ·refine Tc_norm [(0,some (D.bool false)),(3,some (D.ptr 1 0)),(4,some (D.ptr 5 0)),(8,some (D.ptr 8 0)),(9,some (D.v (V.one (El.row muE ((d (withL s out) p).2.1))))),(13,some (D.val (.int .i64 (((best out ((i:Nat):Int)).1:Nat):Int)))),(14,some (D.val (.int .i64 1))),(2003,some (D.ptr 0 0)),(2004,some (D.ptr 1 0)),(2005,some (D.ptr 2 0)),(2006,some (D.ptr 3 0)),(2010,some (D.val (.func (.func 39) #[] #[.pointer (some ⟨q7,0,none⟩),.pointer (some ⟨q1,0,none⟩),.pointer (some ⟨q2,0,none⟩),.pointer (some ⟨q6,0,none⟩),.pointer (some ⟨q3,0,none⟩)]))),(2039,some (D.v (V.one (El.row afE s.q.g.us)))),(2040,some (D.val (.int .i64 ((s.q.g.us.length:Nat):Int)))),(2041,some (D.val (.int .i64 ((i:Nat):Int))))] [hbq 83 [Leaf.val (ifV tD cs)] q1,hbq 42 (quL s.q ++ [El.row dcE s.path,Leaf.own 4 n]) q2,hbq 3 [Leaf.val (.int .i64 bits)] q3,hb_ 42 scZ,hgr 64 6 lmE out n,hbq 3 [Leaf.val (.int .i64 ((i:Nat):Int))] q6,hbq 36 (afL p) q7,none,hb_ 34 (qL (rndB (d (withL s out) p).1 false bits))] ⟨rfl,rfl,rfl,rfl,rfl,rfl,rfl,rfl,rfl,rfl,rfl,rfl,rfl,rfl,rfl,trivial⟩ rfl ?_
    refine Tc_drawK 0 [none,none,none,none,none,none,none,none,none,none,none,none,none,none,none] [] follows (by kernel_rfl) (d_ FT 1 rfl ?_)
    by_cases hk1:(best out ((i:Nat):Int)).1 = 0
    ·refine dq_ rfl rfl (Jq_eql rfl rfl rfl (b:=true) (eT (by omega))) (d_ FT 13 rfl (DK_is (strong out i false (rndB (d (withL s out) p).1 false bits)) (by exact (strong_lt (.inl hk1)).symm) (DK_nil ?_)))
     exact At_meet ⟨rfl,rfl,rfl,rfl,rfl,rfl,rfl,rfl,rfl,rfl,rfl,rfl,rfl,rfl,trivial⟩
    ·refine dq_ rfl rfl (Jq_eql rfl rfl rfl (b:=false) (eF (by omega))) (d_ FT 3 rfl ?_)
     obtain ⟨y,hy,_,_,hly,hy0,hyl⟩:=best_lo hk1
     haveI hyB:=hso_B_1 y (List.mem_of_getElem? hy)
     refine DK_q (JO_qg rfl rfl rfl rfl (Jq_view (r:=4) (n:=n) (x:=V.one (Leaf.own 4 n)) (x':=V.one (El.row lmE out)) (Jq_load rfl rfl rfl (by decide) ty40 rfl) (RowAt.ofE lmE out rfl (by decide)) (by decide) (.inr ⟨rfl,rfl⟩))) (d_ FT 1 rfl ?_)
     refine DK_q (JO_qg rfl rfl rfl rfl (Jq_sub rfl rfl rfl (r:=(((best out ((i:Nat):Int)).1 - 1:Nat):Int)) (w64 (by omega) (by omega) (by omega)))) (DK_q (JO_qg rfl rfl rfl rfl (Jq_indexX lmE out ((best out ((i:Nat):Int)).1 - 1) rfl rfl rfl un40 ty64 hy)) (DK_q (JO_qg rfl rfl rfl rfl (Jq_fieldAddr_refT rfl rfl fo64_2 rfl rfl)) ?_))
     refine DK_q (JO_qg rfl rfl rfl rfl (Jq_load_ref_agg rfl rfl ty34 rfl)) (DK_cg rfl rfl rfl rfl (Jd_call rfl fn45 rfl (qcmp (qOf ((rndB (d (withL s out) p).1 false bits))) ((rndB (d (withL s out) p).1 false bits)) (qOf_q _) (Br.use (by omega)) y.v (y.v.q) rfl (Fq.use (x:=y.v) (by omega)))) (d_ FT 1 rfl ?_))
     by_cases hc1:lv out (best out ((i:Nat):Int)).1 < rndB (d (withL s out) p).1 false bits
     ·refine DK_q (JO_qg rfl rfl rfl rfl (Jq_eql rfl rfl rfl (b:=true) (eT (by rw [cmpq_gt1,← hly];exact hc1)))) (d_ FT 1 rfl (DK_is (strong out i false (rndB (d (withL s out) p).1 false bits)) (by exact (strong_lt (.inr hc1)).symm) (DK_nil ?_)))
      exact At_meet ⟨rfl,rfl,rfl,rfl,rfl,rfl,rfl,rfl,rfl,rfl,rfl,rfl,rfl,rfl,trivial⟩
     ·refine DK_q (JO_qg rfl rfl rfl rfl (Jq_eql rfl rfl rfl (b:=false) (eF (fun e=>hc1 (by rw [hly];exact cmpq_gt1.1 e))))) (d_ FT 1 rfl (DK_is (strong out i false (rndB (d (withL s out) p).1 false bits)) (by exact (strong_lf hk1 hc1).symm) (DK_nil ?_)))
      exact At_meet ⟨rfl,rfl,rfl,rfl,rfl,rfl,rfl,rfl,rfl,rfl,rfl,rfl,rfl,rfl,trivial⟩
   ·refine Tc_cond rfl (fun hs1=>?_) (fun hs1=>?_)
    ·refine Tc_region (a_ FT 6 rfl (t_q rfl (Jq_build rfl tz64 rfl pl64 rfl) (t_f rfl (Je_buildSlice rfl un40 ty64 tz64 rfl (by decide) (by decide) rfl (by decide) rfl) ?_)))
     obtain ⟨ti15,hi15,hz15,hs15,hb15⟩:=in64
     refine t_f rfl (Je_appendR lmE out (⟨((i:Nat):Int),false,(qOf ((rndB (d (withL s out) p).1 false bits))),(d (withL s out) p).2.1⟩) rfl rfl rfl rfl (by decide) un40 un40 hi15 hz15 hs15 rfl (by first | (simp only [maxLen];omega) | (simp only [maxLen,List.length_append,List.length_take,List.length_drop,List.length_cons,List.length_nil];omega)) (by rw [hb15];first | omega | (simp only [List.length_append,List.length_take,List.length_drop,List.length_cons,List.length_nil];omega))) ?_
     refine a_ FT 2 rfl (Tl_end ?_)
     refine At_retI0 [(3,some (D.ptr 0 0)),(4,some (D.ptr 1 0)),(5,some (D.ptr 2 0)),(6,some (D.ptr 3 0)),(10,some (D.val (.func (.func 39) #[] #[.pointer (some ⟨q7,0,none⟩),.pointer (some ⟨q1,0,none⟩),.pointer (some ⟨q2,0,none⟩),.pointer (some ⟨q6,0,none⟩),.pointer (some ⟨q3,0,none⟩)]))),(39,some (D.v (V.one (El.row afE s.q.g.us)))),(40,some (D.val (.int .i64 ((s.q.g.us.length:Nat):Int)))),(41,some (D.val (.int .i64 ((i:Nat):Int))))] d8 s8 rfl rfl ⟨rfl,rfl,rfl,rfl,rfl,rfl,rfl,rfl,trivial⟩ ?_
     refine c_n ?_
     have hA:runA d s bits out i p = out ++ [(⟨(i:Int),false,qOf (rndB (d (withL s out) p).1 false bits),(d (withL s out) p).2.1⟩:Lm)]:=by unfold runA;rw [sideN_t (by exact hb1) (by exact hs1)];rfl
     have hso1:SOk (withL s (out ++ [(⟨(i:Int),false,qOf (rndB (d (withL s out) p).1 false bits),(d (withL s out) p).2.1⟩:Lm)])):=by rw [← hA];exact LOk.withL hs hrA.1 (by have:=hrA.2;have hl2:out.length≤s.lems.length + 2 * i:=hln;omega)
     refine Tc_region (a_ FT 1 rfl ?_)
     refine Tl_inlineF (dc:=[D.ptr 6 0,D.ptr 0 0,D.ptr 1 0,D.ptr 5 0,D.ptr 2 0]) rfl rfl rfl ⟨.inr ⟨_,_,_,rfl,rfl,rfl,rfl,rfl⟩,.inr ⟨_,_,_,rfl,rfl,rfl,rfl,rfl⟩,.inr ⟨_,_,_,rfl,rfl,rfl,rfl,rfl⟩,.inr ⟨_,_,_,rfl,rfl,rfl,rfl,rfl⟩,.inr ⟨_,_,_,rfl,rfl,rfl,rfl,rfl⟩,trivial⟩ Tryz.func39 rfl rfl Tryz.ntmps39 (Nat.le_of_ble_eq_true rfl) rfl (fun a16 d16 s16=>?_)
     refine c_a (a_ FT 1 rfl (t_f rfl (Je_alloc (n:=9) rfl tz36 rfl) (a_ FT 1 rfl (cns (c_a (a_ FT 1 rfl (c_n (Tc_t rfl (Tc_drawK 0 [none,none,none,some 9] [9] follows (by kernel_rfl) ?_)))))))))
     refine d_ FT 1 rfl (DK_c rfl rfl (Jd_call rfl fn41 rfl (qof_spec (-1) (by decide) (by decide))) (DK_c rfl rfl (Jd_call rfl fn40 rfl (scale_p p ((-1:Int):Rat) hpl_ (by omega) (by omega) (by omega))) (DK_s 9 rfl rfl rfl (Jd_store rfl rfl rfl rfl ty36 rfl (by decide) (Nat.le_of_ble_eq_true rfl) rfl) (DK_nil (At_then (c_a (a_ FT 1 rfl ?_)))))))
     refine t_q rfl (Jq_view (r:=4) (n:=(n + 1)) (x:=V.agg (quL s.q ++ [El.row dcE s.path,Leaf.own 4 (n + 1)])) (x':=V.agg (quL s.q ++ [El.row dcE s.path,El.row lmE (out ++ [⟨((i:Nat):Int),false,(qOf ((rndB (d (withL s out) p).1 false bits))),(d (withL s out) p).2.1⟩])])) (Jq_load_agg rfl rfl rfl (by decide) ty42 (by decide) (Nat.le_of_ble_eq_true rfl) rfl) (RowAt.ofE lmE (out ++ [⟨((i:Nat):Int),false,(qOf ((rndB (d (withL s out) p).1 false bits))),(d (withL s out) p).2.1⟩]) rfl (by decide)) (by decide) ⟨.inl rfl,.inl rfl,.inl rfl,.inl rfl,.inl rfl,.inl rfl,.inl rfl,.inl rfl,.inl rfl,.inl rfl,.inl rfl,.inr ⟨rfl,rfl⟩,trivial⟩) ?_
     refine a_ FT 1 rfl (t_f rfl (Je_invoke rfl rfl hm hfL rfl (hL (withL s (out ++ [(⟨(i:Int),false,qOf (rndB (d (withL s out) p).1 false bits),(d (withL s out) p).2.1⟩:Lm)])) (negF p) hso1 hnf2) hone) (a_ FT 4 rfl (t_f rfl (Je_alloc (n:=10) rfl tz34 rfl) (a_ FT 3 rfl (cns (c_a (a_ FT 2 rfl (c_n ?_))))))))
     refine Tc_cond rfl (fun hb2n=>?_) (fun hb2n=>?_)
     ·refine Tc_retI0 [(3,some (D.ptr 0 0)),(4,some (D.ptr 1 0)),(5,some (D.ptr 2 0)),(6,some (D.ptr 3 0)),(39,some (D.v (V.one (El.row afE s.q.g.us)))),(40,some (D.val (.int .i64 ((s.q.g.us.length:Nat):Int)))),(41,some (D.val (.int .i64 ((i:Nat):Int))))] (fun _ _ h=>h) d16 s16 rfl rfl ⟨rfl,rfl,rfl,rfl,rfl,rfl,rfl,trivial⟩ (Tl_end (At_block (At_then ?_)))
      refine Tc_region (t_q rfl (Jq_add rfl rfl rfl (r:=((i + 1:Nat):Int)) (w64 (by omega) (by omega) (by omega))) (a_ FT 1 rfl (Tl_end (At_free 5 (At_free 6 (At_free 8 (At_free 9 (At_free 10 (trim_ 5 rfl ?_)))))))))
      exact At_next (m':=s.q.g.us.length - (i + 1)) (by omega) ⟨i + 1,_,_,rfl,rfl,rfl,hi,by rw [runN_get hp,← hout,hA,sideN_f1 (by have h:(d (withL s (out ++ [(⟨(i:Int),false,qOf (rndB (d (withL s out) p).1 false bits),(d (withL s out) p).2.1⟩:Lm)])) (negF p)).2.2 = false:=(by simpa using hb2n);exact h)];simp only [List.append_nil]⟩ ⟨rfl,rfl,rfl,rfl,rfl,rfl,rfl,trivial⟩
     ·refine c_b (Tc_seq ?_)
      have hb2:(d (withL s (out ++ [(⟨(i:Int),false,qOf (rndB (d (withL s out) p).1 false bits),(d (withL s out) p).2.1⟩:Lm)])) (negF p)).2.2 = true:=by simpa using hb2n
      haveI h1hb2:Hb (d (withL s (out ++ [(⟨(i:Int),false,qOf (rndB (d (withL s out) p).1 false bits),(d (withL s out) p).2.1⟩:Lm)])) (negF p)).1 (KB i - 4200):=hdm (withL s (out ++ [(⟨(i:Int),false,qOf (rndB (d (withL s out) p).1 false bits),(d (withL s out) p).2.1⟩:Lm)])) hso1 i (negF p) (by exact hi) (by exact hnf) (by exact hb2)
      have h2hb2:Hb (-(d (withL s (out ++ [(⟨(i:Int),false,qOf (rndB (d (withL s out) p).1 false bits),(d (withL s out) p).2.1⟩:Lm)])) (negF p)).1) (KB i - 4200):=Hb.neg
      haveI h3hb2:Br (d (withL s (out ++ [(⟨(i:Int),false,qOf (rndB (d (withL s out) p).1 false bits),(d (withL s out) p).2.1⟩:Lm)])) (negF p)).1 34402:=h1hb2.limb (by omega)
      haveI:Br (rndB (-(d (withL s (out ++ [(⟨(i:Int),false,qOf (rndB (d (withL s out) p).1 false bits),(d (withL s out) p).2.1⟩:Lm)])) (negF p)).1) true bits) 38501:=((rndB_hb (up:=true) (bits:=bits) h2hb2 (by omega)).mono (show _≤38500 by omega)).br
      have hso_B_2:∀ m∈out ++ [(⟨(i:Int),false,qOf (rndB (d (withL s out) p).1 false bits),(d (withL s out) p).2.1⟩:Lm)],Fq m.v 34401:=hso1.B
      have hso_L_2:(out ++ [(⟨(i:Int),false,qOf (rndB (d (withL s out) p).1 false bits),(d (withL s out) p).2.1⟩:Lm)]).length≤100:=hso1.ll
      refine Tc_region ?_
      refine t_q rfl (Jq_view (r:=4) (n:=(n + 1)) (x:=V.agg (quL s.q ++ [El.row dcE s.path,Leaf.own 4 (n + 1)])) (x':=V.agg (quL s.q ++ [El.row dcE s.path,El.row lmE (out ++ [⟨((i:Nat):Int),false,(qOf ((rndB (d (withL s out) p).1 false bits))),(d (withL s out) p).2.1⟩])])) (Jq_load_agg rfl rfl rfl (by decide) ty42 (by decide) (Nat.le_of_ble_eq_true rfl) rfl) (RowAt.ofE lmE (out ++ [⟨((i:Nat):Int),false,(qOf ((rndB (d (withL s out) p).1 false bits))),(d (withL s out) p).2.1⟩]) rfl (by decide)) (by decide) ⟨.inl rfl,.inl rfl,.inl rfl,.inl rfl,.inl rfl,.inl rfl,.inl rfl,.inl rfl,.inl rfl,.inl rfl,.inl rfl,.inr ⟨rfl,rfl⟩,trivial⟩) ?_
      refine a_ FT 1 rfl (t_f rfl (Je_call rfl fn42 rfl (best_p (withL s (out ++ [(⟨(i:Int),false,qOf (rndB (d (withL s out) p).1 false bits),(d (withL s out) p).2.1⟩:Lm)])) hso_B_2 (by omega) (by show (out ++ [(⟨(i:Int),false,qOf (rndB (d (withL s out) p).1 false bits),(d (withL s out) p).2.1⟩:Lm)]).length≤_;omega) ((i:Nat):Int))) (a_ FT 5 rfl (cns (Tc_free 8 ?_))))
      refine Tc_free 9 ?_
      refine Tc_norm [(0,some (D.bool true)),(3,some (D.ptr 1 0)),(4,some (D.ptr 5 0)),(5,some (D.ptr 2 0)),(8,some (D.ptr 10 0)),(9,some (D.v (V.one (El.row muE ((d (withL s (out ++ [(⟨(i:Int),false,qOf (rndB (d (withL s out) p).1 false bits),(d (withL s out) p).2.1⟩:Lm)])) (negF p)).2.1))))),(11,some (D.val (.int .i64 (((best (out ++ [(⟨(i:Int),false,qOf (rndB (d (withL s out) p).1 false bits),(d (withL s out) p).2.1⟩:Lm)]) ((i:Nat):Int)).1:Nat):Int)))),(12,some (D.val (.int .i64 (((best (out ++ [(⟨(i:Int),false,qOf (rndB (d (withL s out) p).1 false bits),(d (withL s out) p).2.1⟩:Lm)]) ((i:Nat):Int)).2:Nat):Int)))),(2003,some (D.ptr 0 0)),(2004,some (D.ptr 1 0)),(2005,some (D.ptr 2 0)),(2006,some (D.ptr 3 0)),(2039,some (D.v (V.one (El.row afE s.q.g.us)))),(2040,some (D.val (.int .i64 ((s.q.g.us.length:Nat):Int)))),(2041,some (D.val (.int .i64 ((i:Nat):Int))))] [hbq 83 [Leaf.val (ifV tD cs)] q1,hbq 42 (quL s.q ++ [El.row dcE s.path,Leaf.own 4 (n + 1)]) q2,hbq 3 [Leaf.val (.int .i64 bits)] q3,hb_ 42 scZ,hgr 64 6 lmE (out ++ [⟨((i:Nat):Int),false,(qOf ((rndB (d (withL s out) p).1 false bits))),(d (withL s out) p).2.1⟩]) (n + 1),hbq 3 [Leaf.val (.int .i64 ((i:Nat):Int))] q6,hbq 36 (afL p) q7,none,none,none,hb_ 34 (qL ((d (withL s (out ++ [(⟨(i:Int),false,qOf (rndB (d (withL s out) p).1 false bits),(d (withL s out) p).2.1⟩:Lm)])) (negF p)).1))] ⟨rfl,rfl,rfl,rfl,rfl,rfl,rfl,rfl,rfl,rfl,rfl,rfl,rfl,rfl,rfl,trivial⟩ rfl ?_
      refine Tc_region (a_ FT 3 rfl (cns (c_a (a_ FT 1 rfl (c_n (Tc_t rfl (Tc_region (a_ FT 1 rfl ?_))))))))
      refine t_f rfl (Je_call rfl fn43 rfl (qneg (qOf ((d (withL s (out ++ [(⟨(i:Int),false,qOf (rndB (d (withL s out) p).1 false bits),(d (withL s out) p).2.1⟩:Lm)])) (negF p)).1)) ((d (withL s (out ++ [(⟨(i:Int),false,qOf (rndB (d (withL s out) p).1 false bits),(d (withL s out) p).2.1⟩:Lm)])) (negF p)).1) (qOf_q _) (Br.use (by omega)))) (a_ FT 4 rfl (cns ?_))
      refine Tc_norm [(0,some (D.bool true)),(3,some (D.ptr 1 0)),(4,some (D.ptr 5 0)),(5,some (D.ptr 2 0)),(8,some (D.ptr 10 0)),(9,some (D.v (V.one (El.row muE ((d (withL s (out ++ [(⟨(i:Int),false,qOf (rndB (d (withL s out) p).1 false bits),(d (withL s out) p).2.1⟩:Lm)])) (negF p)).2.1))))),(13,some (D.val (.int .i64 (((best (out ++ [(⟨(i:Int),false,qOf (rndB (d (withL s out) p).1 false bits),(d (withL s out) p).2.1⟩:Lm)]) ((i:Nat):Int)).2:Nat):Int)))),(14,some (D.val (.int .i64 (-1)))),(2003,some (D.ptr 0 0)),(2004,some (D.ptr 1 0)),(2005,some (D.ptr 2 0)),(2006,some (D.ptr 3 0)),(2039,some (D.v (V.one (El.row afE s.q.g.us)))),(2040,some (D.val (.int .i64 ((s.q.g.us.length:Nat):Int)))),(2041,some (D.val (.int .i64 ((i:Nat):Int))))] [hbq 83 [Leaf.val (ifV tD cs)] q1,hbq 42 (quL s.q ++ [El.row dcE s.path,Leaf.own 4 (n + 1)]) q2,hbq 3 [Leaf.val (.int .i64 bits)] q3,hb_ 42 scZ,hgr 64 6 lmE (out ++ [⟨((i:Nat):Int),false,(qOf ((rndB (d (withL s out) p).1 false bits))),(d (withL s out) p).2.1⟩]) (n + 1),hbq 3 [Leaf.val (.int .i64 ((i:Nat):Int))] q6,hbq 36 (afL p) q7,none,none,none,hb_ 34 (qL (-((d (withL s (out ++ [(⟨(i:Int),false,qOf (rndB (d (withL s out) p).1 false bits),(d (withL s out) p).2.1⟩:Lm)])) (negF p)).1)))] ⟨rfl,rfl,rfl,rfl,rfl,rfl,rfl,rfl,rfl,rfl,rfl,rfl,rfl,rfl,rfl,trivial⟩ rfl ?_
      refine Tc_region (a_ FT 3 rfl (t_f rfl (Je_call rfl fn44 rfl (round_p (-(d (withL s (out ++ [(⟨(i:Int),false,qOf (rndB (d (withL s out) p).1 false bits),(d (withL s out) p).2.1⟩:Lm)])) (negF p)).1) true bits h2hb2 (by omega) h0 h4)) (a_ FT 1 rfl (c_n ?_))))
      refine Tc_meet (Γ':=[(0,some (D.bool true)),(3,some (D.ptr 1 0)),(4,some (D.ptr 5 0)),(8,some (D.ptr 10 0)),(9,some (D.v (V.one (El.row muE ((d (withL s (out ++ [(⟨(i:Int),false,qOf (rndB (d (withL s out) p).1 false bits),(d (withL s out) p).2.1⟩:Lm)])) (negF p)).2.1))))),(59,some (D.bool (strong (out ++ [(⟨(i:Int),false,qOf (rndB (d (withL s out) p).1 false bits),(d (withL s out) p).2.1⟩:Lm)]) i true (rndB (-(d (withL s (out ++ [(⟨(i:Int),false,qOf (rndB (d (withL s out) p).1 false bits),(d (withL s out) p).2.1⟩:Lm)])) (negF p)).1) true bits)))),(2003,some (D.ptr 0 0)),(2004,some (D.ptr 1 0)),(2005,some (D.ptr 2 0)),(2006,some (D.ptr 3 0)),(2039,some (D.v (V.one (El.row afE s.q.g.us)))),(2040,some (D.val (.int .i64 ((s.q.g.us.length:Nat):Int)))),(2041,some (D.val (.int .i64 ((i:Nat):Int))))]) (H':=[hbq 83 [Leaf.val (ifV tD cs)] q1,hbq 42 (quL s.q ++ [El.row dcE s.path,Leaf.own 4 (n + 1)]) q2,hbq 3 [Leaf.val (.int .i64 bits)] q3,hb_ 42 scZ,hgr 64 6 lmE (out ++ [⟨((i:Nat):Int),false,(qOf ((rndB (d (withL s out) p).1 false bits))),(d (withL s out) p).2.1⟩]) (n + 1),hbq 3 [Leaf.val (.int .i64 ((i:Nat):Int))] q6,hbq 36 (afL p) q7,none,none,none,hb_ 34 (qL (rndB (-(d (withL s (out ++ [(⟨(i:Int),false,qOf (rndB (d (withL s out) p).1 false bits),(d (withL s out) p).2.1⟩:Lm)])) (negF p)).1) true bits))]) ?_ ?_
      ·refine Tc_drawK 0 [none,none,none,none,none,none,none,none,none,none,none,none,none,none,none] [] follows (by kernel_rfl) (d_ FT 1 rfl ?_)
       by_cases hk2:(best (out ++ [(⟨(i:Int),false,qOf (rndB (d (withL s out) p).1 false bits),(d (withL s out) p).2.1⟩:Lm)]) ((i:Nat):Int)).2 = 0
       ·refine dq_ rfl rfl (Jq_eql rfl rfl rfl (b:=true) (eT (by omega))) (d_ FT 13 rfl ?_)
        refine DK_is (strong (out ++ [(⟨(i:Int),false,qOf (rndB (d (withL s out) p).1 false bits),(d (withL s out) p).2.1⟩:Lm)]) i true (rndB (-(d (withL s (out ++ [(⟨(i:Int),false,qOf (rndB (d (withL s out) p).1 false bits),(d (withL s out) p).2.1⟩:Lm)])) (negF p)).1) true bits)) (by exact (strong_ut (.inl hk2)).symm) (DK_nil ?_)
        exact At_meet ⟨rfl,rfl,rfl,rfl,rfl,rfl,rfl,rfl,rfl,rfl,rfl,rfl,rfl,trivial⟩
       ·refine dq_ rfl rfl (Jq_eql rfl rfl rfl (b:=false) (eF (by omega))) (d_ FT 3 rfl ?_)
        obtain ⟨y,hy,_,_,hly,hy0,hyl⟩:=best_hi hk2
        haveI hyB:=hso_B_2 y (List.mem_of_getElem? hy)
        refine DK_q (JO_qg rfl rfl rfl rfl (Jq_view (r:=4) (n:=(n + 1)) (x:=V.one (Leaf.own 4 (n + 1))) (x':=V.one (El.row lmE (out ++ [⟨((i:Nat):Int),false,(qOf ((rndB (d (withL s out) p).1 false bits))),(d (withL s out) p).2.1⟩]))) (Jq_load rfl rfl rfl (by decide) ty40 rfl) (RowAt.ofE lmE (out ++ [⟨((i:Nat):Int),false,(qOf ((rndB (d (withL s out) p).1 false bits))),(d (withL s out) p).2.1⟩]) rfl (by decide)) (by decide) (.inr ⟨rfl,rfl⟩))) ?_
        refine d_ FT 1 rfl (DK_q (JO_qg rfl rfl rfl rfl (Jq_sub rfl rfl rfl (r:=(((best (out ++ [(⟨(i:Int),false,qOf (rndB (d (withL s out) p).1 false bits),(d (withL s out) p).2.1⟩:Lm)]) ((i:Nat):Int)).2 - 1:Nat):Int)) (w64 (by omega) (by omega) (by omega)))) ?_)
        refine DK_q (JO_qg rfl rfl rfl rfl (Jq_indexX lmE (out ++ [⟨((i:Nat):Int),false,(qOf ((rndB (d (withL s out) p).1 false bits))),(d (withL s out) p).2.1⟩]) ((best (out ++ [(⟨(i:Int),false,qOf (rndB (d (withL s out) p).1 false bits),(d (withL s out) p).2.1⟩:Lm)]) ((i:Nat):Int)).2 - 1) rfl rfl rfl un40 ty64 hy)) ?_
        refine DK_q (JO_qg rfl rfl rfl rfl (Jq_fieldAddr_refT rfl rfl fo64_2 rfl rfl)) (DK_q (JO_qg rfl rfl rfl rfl (Jq_load_ref_agg rfl rfl ty34 rfl)) ?_)
        refine DK_cg rfl rfl rfl rfl (Jd_call rfl fn45 rfl (qcmp (qOf ((rndB (-(d (withL s (out ++ [(⟨(i:Int),false,qOf (rndB (d (withL s out) p).1 false bits),(d (withL s out) p).2.1⟩:Lm)])) (negF p)).1) true bits))) ((rndB (-(d (withL s (out ++ [(⟨(i:Int),false,qOf (rndB (d (withL s out) p).1 false bits),(d (withL s out) p).2.1⟩:Lm)])) (negF p)).1) true bits)) (qOf_q _) (Br.use (by omega)) y.v (y.v.q) rfl (Fq.use (x:=y.v) (by omega)))) ?_
        refine d_ FT 1 rfl ?_
        by_cases hc2:rndB (-(d (withL s (out ++ [(⟨(i:Int),false,qOf (rndB (d (withL s out) p).1 false bits),(d (withL s out) p).2.1⟩:Lm)])) (negF p)).1) true bits < lv (out ++ [(⟨(i:Int),false,qOf (rndB (d (withL s out) p).1 false bits),(d (withL s out) p).2.1⟩:Lm)]) (best (out ++ [(⟨(i:Int),false,qOf (rndB (d (withL s out) p).1 false bits),(d (withL s out) p).2.1⟩:Lm)]) ((i:Nat):Int)).2
        ·refine DK_q (JO_qg rfl rfl rfl rfl (Jq_eql rfl rfl rfl (b:=true) (eT (by rw [cmpq_lt1,← hly];exact hc2)))) (d_ FT 1 rfl ?_)
         refine DK_is (strong (out ++ [(⟨(i:Int),false,qOf (rndB (d (withL s out) p).1 false bits),(d (withL s out) p).2.1⟩:Lm)]) i true (rndB (-(d (withL s (out ++ [(⟨(i:Int),false,qOf (rndB (d (withL s out) p).1 false bits),(d (withL s out) p).2.1⟩:Lm)])) (negF p)).1) true bits)) (by exact (strong_ut (.inr hc2)).symm) (DK_nil ?_)
         exact At_meet ⟨rfl,rfl,rfl,rfl,rfl,rfl,rfl,rfl,rfl,rfl,rfl,rfl,rfl,trivial⟩
        ·refine DK_q (JO_qg rfl rfl rfl rfl (Jq_eql rfl rfl rfl (b:=false) (eF (fun e=>hc2 (by rw [hly];exact cmpq_lt1.1 e))))) (d_ FT 1 rfl ?_)
         refine DK_is (strong (out ++ [(⟨(i:Int),false,qOf (rndB (d (withL s out) p).1 false bits),(d (withL s out) p).2.1⟩:Lm)]) i true (rndB (-(d (withL s (out ++ [(⟨(i:Int),false,qOf (rndB (d (withL s out) p).1 false bits),(d (withL s out) p).2.1⟩:Lm)])) (negF p)).1) true bits)) (by exact (strong_uf hk2 hc2).symm) (DK_nil ?_)
         exact At_meet ⟨rfl,rfl,rfl,rfl,rfl,rfl,rfl,rfl,rfl,rfl,rfl,rfl,rfl,trivial⟩
      ·refine Tc_cond rfl (fun hs2=>?_) (fun hs2=>?_)
       ·refine Tc_region (a_ FT 6 rfl (t_q rfl (Jq_build rfl tz64 rfl pl64 rfl) (t_f rfl (Je_buildSlice rfl un40 ty64 tz64 rfl (by decide) (by decide) rfl (by decide) rfl) ?_)))
        obtain ⟨ti19,hi19,hz19,hs19,hb19⟩:=in64
        refine t_f rfl (Je_appendR lmE (out ++ [⟨((i:Nat):Int),false,(qOf ((rndB (d (withL s out) p).1 false bits))),(d (withL s out) p).2.1⟩]) (⟨((i:Nat):Int),true,(qOf ((rndB (-(d (withL s (out ++ [(⟨(i:Int),false,qOf (rndB (d (withL s out) p).1 false bits),(d (withL s out) p).2.1⟩:Lm)])) (negF p)).1) true bits))),(d (withL s (out ++ [(⟨(i:Int),false,qOf (rndB (d (withL s out) p).1 false bits),(d (withL s out) p).2.1⟩:Lm)])) (negF p)).2.1⟩) rfl rfl rfl rfl (by decide) un40 un40 hi19 hz19 hs19 rfl (by first | (simp only [maxLen];omega) | (simp only [maxLen,List.length_append,List.length_take,List.length_drop,List.length_cons,List.length_nil];omega)) (by rw [hb19];first | omega | (simp only [List.length_append,List.length_take,List.length_drop,List.length_cons,List.length_nil];omega))) ?_
        refine a_ FT 2 rfl (Tl_end (At_retI0 [(3,some (D.ptr 0 0)),(4,some (D.ptr 1 0)),(5,some (D.ptr 2 0)),(6,some (D.ptr 3 0)),(39,some (D.v (V.one (El.row afE s.q.g.us)))),(40,some (D.val (.int .i64 ((s.q.g.us.length:Nat):Int)))),(41,some (D.val (.int .i64 ((i:Nat):Int))))] d16 s16 rfl rfl ⟨rfl,rfl,rfl,rfl,rfl,rfl,rfl,trivial⟩ (Tl_end (At_block (At_then ?_)))))
        refine Tc_region (t_q rfl (Jq_add rfl rfl rfl (r:=((i + 1:Nat):Int)) (w64 (by omega) (by omega) (by omega))) (a_ FT 1 rfl (Tl_end (At_free 5 (At_free 6 (At_free 10 (trim_ 5 rfl ?_)))))))
        exact At_next (m':=s.q.g.us.length - (i + 1)) (by omega) ⟨i + 1,_,_,rfl,rfl,rfl,hi,by rw [runN_get hp,← hout,hA,sideN_t (by exact hb2) (by exact hs2)];rfl⟩ ⟨rfl,rfl,rfl,rfl,rfl,rfl,rfl,trivial⟩
       ·refine Tc_skipA (At_retI0 [(3,some (D.ptr 0 0)),(4,some (D.ptr 1 0)),(5,some (D.ptr 2 0)),(6,some (D.ptr 3 0)),(39,some (D.v (V.one (El.row afE s.q.g.us)))),(40,some (D.val (.int .i64 ((s.q.g.us.length:Nat):Int)))),(41,some (D.val (.int .i64 ((i:Nat):Int))))] d16 s16 rfl rfl ⟨rfl,rfl,rfl,rfl,rfl,rfl,rfl,trivial⟩ (Tl_end (At_block (At_then (Tc_region ?_)))))
        refine t_q rfl (Jq_add rfl rfl rfl (r:=((i + 1:Nat):Int)) (w64 (by omega) (by omega) (by omega))) (a_ FT 1 rfl (Tl_end (At_free 5 (At_free 6 (At_free 10 (trim_ 5 rfl ?_))))))
        exact At_next (m':=s.q.g.us.length - (i + 1)) (by omega) ⟨i + 1,_,_,rfl,rfl,rfl,hi,by rw [runN_get hp,← hout,hA,sideN_f2 (by exact hs2)];simp only [List.append_nil]⟩ ⟨rfl,rfl,rfl,rfl,rfl,rfl,rfl,trivial⟩
    ·refine Tc_skipA ?_
     refine At_retI0 [(3,some (D.ptr 0 0)),(4,some (D.ptr 1 0)),(5,some (D.ptr 2 0)),(6,some (D.ptr 3 0)),(10,some (D.val (.func (.func 39) #[] #[.pointer (some ⟨q7,0,none⟩),.pointer (some ⟨q1,0,none⟩),.pointer (some ⟨q2,0,none⟩),.pointer (some ⟨q6,0,none⟩),.pointer (some ⟨q3,0,none⟩)]))),(39,some (D.v (V.one (El.row afE s.q.g.us)))),(40,some (D.val (.int .i64 ((s.q.g.us.length:Nat):Int)))),(41,some (D.val (.int .i64 ((i:Nat):Int))))] d8 s8 rfl rfl ⟨rfl,rfl,rfl,rfl,rfl,rfl,rfl,rfl,trivial⟩ ?_
     refine c_n ?_
     have hA:runA d s bits out i p = out:=by unfold runA;rw [sideN_f2 (by exact hs1),List.append_nil]
     have hso1:SOk (withL s out):=by rw [← hA];exact LOk.withL hs hrA.1 (by have:=hrA.2;have hl2:out.length≤s.lems.length + 2 * i:=hln;omega)
     refine Tc_region (a_ FT 1 rfl ?_)
     refine Tl_inlineF (dc:=[D.ptr 6 0,D.ptr 0 0,D.ptr 1 0,D.ptr 5 0,D.ptr 2 0]) rfl rfl rfl ⟨.inr ⟨_,_,_,rfl,rfl,rfl,rfl,rfl⟩,.inr ⟨_,_,_,rfl,rfl,rfl,rfl,rfl⟩,.inr ⟨_,_,_,rfl,rfl,rfl,rfl,rfl⟩,.inr ⟨_,_,_,rfl,rfl,rfl,rfl,rfl⟩,.inr ⟨_,_,_,rfl,rfl,rfl,rfl,rfl⟩,trivial⟩ Tryz.func39 rfl rfl Tryz.ntmps39 (Nat.le_of_ble_eq_true rfl) rfl (fun a20 d20 s20=>?_)
     refine c_a (a_ FT 1 rfl (t_f rfl (Je_alloc (n:=9) rfl tz36 rfl) (a_ FT 1 rfl (cns (c_a (a_ FT 1 rfl (c_n (Tc_t rfl (Tc_drawK 0 [none,none,none,some 9] [9] follows (by kernel_rfl) ?_)))))))))
     refine d_ FT 1 rfl (DK_c rfl rfl (Jd_call rfl fn41 rfl (qof_spec (-1) (by decide) (by decide))) (DK_c rfl rfl (Jd_call rfl fn40 rfl (scale_p p ((-1:Int):Rat) hpl_ (by omega) (by omega) (by omega))) (DK_s 9 rfl rfl rfl (Jd_store rfl rfl rfl rfl ty36 rfl (by decide) (Nat.le_of_ble_eq_true rfl) rfl) (DK_nil (At_then (c_a (a_ FT 1 rfl ?_)))))))
     refine t_q rfl (Jq_view (r:=4) (n:=n) (x:=V.agg (quL s.q ++ [El.row dcE s.path,Leaf.own 4 n])) (x':=V.agg (quL s.q ++ [El.row dcE s.path,El.row lmE out])) (Jq_load_agg rfl rfl rfl (by decide) ty42 (by decide) (Nat.le_of_ble_eq_true rfl) rfl) (RowAt.ofE lmE out rfl (by decide)) (by decide) ⟨.inl rfl,.inl rfl,.inl rfl,.inl rfl,.inl rfl,.inl rfl,.inl rfl,.inl rfl,.inl rfl,.inl rfl,.inl rfl,.inr ⟨rfl,rfl⟩,trivial⟩) ?_
     refine a_ FT 1 rfl (t_f rfl (Je_invoke rfl rfl hm hfL rfl (hL (withL s out) (negF p) hso1 hnf2) hone) (a_ FT 4 rfl (t_f rfl (Je_alloc (n:=10) rfl tz34 rfl) (a_ FT 3 rfl (cns (c_a (a_ FT 2 rfl (c_n ?_))))))))
     refine Tc_cond rfl (fun hb2n=>?_) (fun hb2n=>?_)
     ·refine Tc_retI0 [(3,some (D.ptr 0 0)),(4,some (D.ptr 1 0)),(5,some (D.ptr 2 0)),(6,some (D.ptr 3 0)),(39,some (D.v (V.one (El.row afE s.q.g.us)))),(40,some (D.val (.int .i64 ((s.q.g.us.length:Nat):Int)))),(41,some (D.val (.int .i64 ((i:Nat):Int))))] (fun _ _ h=>h) d20 s20 rfl rfl ⟨rfl,rfl,rfl,rfl,rfl,rfl,rfl,trivial⟩ (Tl_end (At_block (At_then ?_)))
      refine Tc_region (t_q rfl (Jq_add rfl rfl rfl (r:=((i + 1:Nat):Int)) (w64 (by omega) (by omega) (by omega))) (a_ FT 1 rfl (Tl_end (At_free 5 (At_free 6 (At_free 8 (At_free 9 (At_free 10 (trim_ 5 rfl ?_)))))))))
      exact At_next (m':=s.q.g.us.length - (i + 1)) (by omega) ⟨i + 1,_,_,rfl,rfl,rfl,hi,by rw [runN_get hp,← hout,hA,sideN_f1 (by have h:(d (withL s out) (negF p)).2.2 = false:=(by simpa using hb2n);exact h)];simp only [List.append_nil]⟩ ⟨rfl,rfl,rfl,rfl,rfl,rfl,rfl,trivial⟩
     ·refine c_b (Tc_seq ?_)
      have hb2:(d (withL s out) (negF p)).2.2 = true:=by simpa using hb2n
      haveI h1hb2:Hb (d (withL s out) (negF p)).1 (KB i - 4200):=hdm (withL s out) hso1 i (negF p) (by exact hi) (by exact hnf) (by exact hb2)
      have h2hb2:Hb (-(d (withL s out) (negF p)).1) (KB i - 4200):=Hb.neg
      haveI h3hb2:Br (d (withL s out) (negF p)).1 34402:=h1hb2.limb (by omega)
      haveI:Br (rndB (-(d (withL s out) (negF p)).1) true bits) 38501:=((rndB_hb (up:=true) (bits:=bits) h2hb2 (by omega)).mono (show _≤38500 by omega)).br
      have hso_B_2:∀ m∈out,Fq m.v 34401:=hso1.B
      have hso_L_2:(out).length≤100:=hso1.ll
      refine Tc_region ?_
      refine t_q rfl (Jq_view (r:=4) (n:=n) (x:=V.agg (quL s.q ++ [El.row dcE s.path,Leaf.own 4 n])) (x':=V.agg (quL s.q ++ [El.row dcE s.path,El.row lmE out])) (Jq_load_agg rfl rfl rfl (by decide) ty42 (by decide) (Nat.le_of_ble_eq_true rfl) rfl) (RowAt.ofE lmE out rfl (by decide)) (by decide) ⟨.inl rfl,.inl rfl,.inl rfl,.inl rfl,.inl rfl,.inl rfl,.inl rfl,.inl rfl,.inl rfl,.inl rfl,.inl rfl,.inr ⟨rfl,rfl⟩,trivial⟩) ?_
      refine a_ FT 1 rfl (t_f rfl (Je_call rfl fn42 rfl (best_p (withL s out) hso_B_2 (by omega) (by show (out).length≤_;omega) ((i:Nat):Int))) (a_ FT 5 rfl (cns (Tc_free 8 (Tc_free 9 ?_)))))
      refine Tc_norm [(0,some (D.bool true)),(3,some (D.ptr 1 0)),(4,some (D.ptr 5 0)),(5,some (D.ptr 2 0)),(8,some (D.ptr 10 0)),(9,some (D.v (V.one (El.row muE ((d (withL s out) (negF p)).2.1))))),(11,some (D.val (.int .i64 (((best out ((i:Nat):Int)).1:Nat):Int)))),(12,some (D.val (.int .i64 (((best out ((i:Nat):Int)).2:Nat):Int)))),(2003,some (D.ptr 0 0)),(2004,some (D.ptr 1 0)),(2005,some (D.ptr 2 0)),(2006,some (D.ptr 3 0)),(2039,some (D.v (V.one (El.row afE s.q.g.us)))),(2040,some (D.val (.int .i64 ((s.q.g.us.length:Nat):Int)))),(2041,some (D.val (.int .i64 ((i:Nat):Int))))] [hbq 83 [Leaf.val (ifV tD cs)] q1,hbq 42 (quL s.q ++ [El.row dcE s.path,Leaf.own 4 n]) q2,hbq 3 [Leaf.val (.int .i64 bits)] q3,hb_ 42 scZ,hgr 64 6 lmE out n,hbq 3 [Leaf.val (.int .i64 ((i:Nat):Int))] q6,hbq 36 (afL p) q7,none,none,none,hb_ 34 (qL ((d (withL s out) (negF p)).1))] ⟨rfl,rfl,rfl,rfl,rfl,rfl,rfl,rfl,rfl,rfl,rfl,rfl,rfl,rfl,rfl,trivial⟩ rfl ?_
      refine Tc_region (a_ FT 3 rfl (cns (c_a (a_ FT 1 rfl (c_n (Tc_t rfl (Tc_region (a_ FT 1 rfl (t_f rfl (Je_call rfl fn43 rfl (qneg (qOf ((d (withL s out) (negF p)).1)) ((d (withL s out) (negF p)).1) (qOf_q _) (Br.use (by omega)))) ?_)))))))))
      refine a_ FT 4 rfl (cns ?_)
      refine Tc_norm [(0,some (D.bool true)),(3,some (D.ptr 1 0)),(4,some (D.ptr 5 0)),(5,some (D.ptr 2 0)),(8,some (D.ptr 10 0)),(9,some (D.v (V.one (El.row muE ((d (withL s out) (negF p)).2.1))))),(13,some (D.val (.int .i64 (((best out ((i:Nat):Int)).2:Nat):Int)))),(14,some (D.val (.int .i64 (-1)))),(2003,some (D.ptr 0 0)),(2004,some (D.ptr 1 0)),(2005,some (D.ptr 2 0)),(2006,some (D.ptr 3 0)),(2039,some (D.v (V.one (El.row afE s.q.g.us)))),(2040,some (D.val (.int .i64 ((s.q.g.us.length:Nat):Int)))),(2041,some (D.val (.int .i64 ((i:Nat):Int))))] [hbq 83 [Leaf.val (ifV tD cs)] q1,hbq 42 (quL s.q ++ [El.row dcE s.path,Leaf.own 4 n]) q2,hbq 3 [Leaf.val (.int .i64 bits)] q3,hb_ 42 scZ,hgr 64 6 lmE out n,hbq 3 [Leaf.val (.int .i64 ((i:Nat):Int))] q6,hbq 36 (afL p) q7,none,none,none,hb_ 34 (qL (-((d (withL s out) (negF p)).1)))] ⟨rfl,rfl,rfl,rfl,rfl,rfl,rfl,rfl,rfl,rfl,rfl,rfl,rfl,rfl,rfl,trivial⟩ rfl ?_
      refine Tc_region (a_ FT 3 rfl (t_f rfl (Je_call rfl fn44 rfl (round_p (-(d (withL s out) (negF p)).1) true bits h2hb2 (by omega) h0 h4)) (a_ FT 1 rfl (c_n ?_))))
      refine Tc_meet (Γ':=[(0,some (D.bool true)),(3,some (D.ptr 1 0)),(4,some (D.ptr 5 0)),(8,some (D.ptr 10 0)),(9,some (D.v (V.one (El.row muE ((d (withL s out) (negF p)).2.1))))),(59,some (D.bool (strong out i true (rndB (-(d (withL s out) (negF p)).1) true bits)))),(2003,some (D.ptr 0 0)),(2004,some (D.ptr 1 0)),(2005,some (D.ptr 2 0)),(2006,some (D.ptr 3 0)),(2039,some (D.v (V.one (El.row afE s.q.g.us)))),(2040,some (D.val (.int .i64 ((s.q.g.us.length:Nat):Int)))),(2041,some (D.val (.int .i64 ((i:Nat):Int))))]) (H':=[hbq 83 [Leaf.val (ifV tD cs)] q1,hbq 42 (quL s.q ++ [El.row dcE s.path,Leaf.own 4 n]) q2,hbq 3 [Leaf.val (.int .i64 bits)] q3,hb_ 42 scZ,hgr 64 6 lmE out n,hbq 3 [Leaf.val (.int .i64 ((i:Nat):Int))] q6,hbq 36 (afL p) q7,none,none,none,hb_ 34 (qL (rndB (-(d (withL s out) (negF p)).1) true bits))]) ?_ ?_
      ·refine Tc_drawK 0 [none,none,none,none,none,none,none,none,none,none,none,none,none,none,none] [] follows (by kernel_rfl) (d_ FT 1 rfl ?_)
       by_cases hk2:(best out ((i:Nat):Int)).2 = 0
       ·refine dq_ rfl rfl (Jq_eql rfl rfl rfl (b:=true) (eT (by omega))) (d_ FT 13 rfl (DK_is (strong out i true (rndB (-(d (withL s out) (negF p)).1) true bits)) (by exact (strong_ut (.inl hk2)).symm) (DK_nil ?_)))
        exact At_meet ⟨rfl,rfl,rfl,rfl,rfl,rfl,rfl,rfl,rfl,rfl,rfl,rfl,rfl,trivial⟩
       ·refine dq_ rfl rfl (Jq_eql rfl rfl rfl (b:=false) (eF (by omega))) (d_ FT 3 rfl ?_)
        obtain ⟨y,hy,_,_,hly,hy0,hyl⟩:=best_hi hk2
        haveI hyB:=hso_B_2 y (List.mem_of_getElem? hy)
        refine DK_q (JO_qg rfl rfl rfl rfl (Jq_view (r:=4) (n:=n) (x:=V.one (Leaf.own 4 n)) (x':=V.one (El.row lmE out)) (Jq_load rfl rfl rfl (by decide) ty40 rfl) (RowAt.ofE lmE out rfl (by decide)) (by decide) (.inr ⟨rfl,rfl⟩))) (d_ FT 1 rfl ?_)
        refine DK_q (JO_qg rfl rfl rfl rfl (Jq_sub rfl rfl rfl (r:=(((best out ((i:Nat):Int)).2 - 1:Nat):Int)) (w64 (by omega) (by omega) (by omega)))) (DK_q (JO_qg rfl rfl rfl rfl (Jq_indexX lmE out ((best out ((i:Nat):Int)).2 - 1) rfl rfl rfl un40 ty64 hy)) (DK_q (JO_qg rfl rfl rfl rfl (Jq_fieldAddr_refT rfl rfl fo64_2 rfl rfl)) ?_))
        refine DK_q (JO_qg rfl rfl rfl rfl (Jq_load_ref_agg rfl rfl ty34 rfl)) (DK_cg rfl rfl rfl rfl (Jd_call rfl fn45 rfl (qcmp (qOf ((rndB (-(d (withL s out) (negF p)).1) true bits))) ((rndB (-(d (withL s out) (negF p)).1) true bits)) (qOf_q _) (Br.use (by omega)) y.v (y.v.q) rfl (Fq.use (x:=y.v) (by omega)))) (d_ FT 1 rfl ?_))
        by_cases hc2:rndB (-(d (withL s out) (negF p)).1) true bits < lv out (best out ((i:Nat):Int)).2
        ·refine DK_q (JO_qg rfl rfl rfl rfl (Jq_eql rfl rfl rfl (b:=true) (eT (by rw [cmpq_lt1,← hly];exact hc2)))) (d_ FT 1 rfl (DK_is (strong out i true (rndB (-(d (withL s out) (negF p)).1) true bits)) (by exact (strong_ut (.inr hc2)).symm) (DK_nil ?_)))
         exact At_meet ⟨rfl,rfl,rfl,rfl,rfl,rfl,rfl,rfl,rfl,rfl,rfl,rfl,rfl,trivial⟩
        ·refine DK_q (JO_qg rfl rfl rfl rfl (Jq_eql rfl rfl rfl (b:=false) (eF (fun e=>hc2 (by rw [hly];exact cmpq_lt1.1 e))))) (d_ FT 1 rfl (DK_is (strong out i true (rndB (-(d (withL s out) (negF p)).1) true bits)) (by exact (strong_uf hk2 hc2).symm) (DK_nil ?_)))
         exact At_meet ⟨rfl,rfl,rfl,rfl,rfl,rfl,rfl,rfl,rfl,rfl,rfl,rfl,rfl,trivial⟩
      ·refine Tc_cond rfl (fun hs2=>?_) (fun hs2=>?_)
       ·refine Tc_region (a_ FT 6 rfl (t_q rfl (Jq_build rfl tz64 rfl pl64 rfl) (t_f rfl (Je_buildSlice rfl un40 ty64 tz64 rfl (by decide) (by decide) rfl (by decide) rfl) ?_)))
        obtain ⟨ti23,hi23,hz23,hs23,hb23⟩:=in64
        refine t_f rfl (Je_appendR lmE out (⟨((i:Nat):Int),true,(qOf ((rndB (-(d (withL s out) (negF p)).1) true bits))),(d (withL s out) (negF p)).2.1⟩) rfl rfl rfl rfl (by decide) un40 un40 hi23 hz23 hs23 rfl (by first | (simp only [maxLen];omega) | (simp only [maxLen,List.length_append,List.length_take,List.length_drop,List.length_cons,List.length_nil];omega)) (by rw [hb23];first | omega | (simp only [List.length_append,List.length_take,List.length_drop,List.length_cons,List.length_nil];omega))) ?_
        refine a_ FT 2 rfl (Tl_end (At_retI0 [(3,some (D.ptr 0 0)),(4,some (D.ptr 1 0)),(5,some (D.ptr 2 0)),(6,some (D.ptr 3 0)),(39,some (D.v (V.one (El.row afE s.q.g.us)))),(40,some (D.val (.int .i64 ((s.q.g.us.length:Nat):Int)))),(41,some (D.val (.int .i64 ((i:Nat):Int))))] d20 s20 rfl rfl ⟨rfl,rfl,rfl,rfl,rfl,rfl,rfl,trivial⟩ (Tl_end (At_block (At_then ?_)))))
        refine Tc_region (t_q rfl (Jq_add rfl rfl rfl (r:=((i + 1:Nat):Int)) (w64 (by omega) (by omega) (by omega))) (a_ FT 1 rfl (Tl_end (At_free 5 (At_free 6 (At_free 10 (trim_ 5 rfl ?_)))))))
        exact At_next (m':=s.q.g.us.length - (i + 1)) (by omega) ⟨i + 1,_,_,rfl,rfl,rfl,hi,by rw [runN_get hp,← hout,hA,sideN_t (by exact hb2) (by exact hs2)];rfl⟩ ⟨rfl,rfl,rfl,rfl,rfl,rfl,rfl,trivial⟩
       ·refine Tc_skipA (At_retI0 [(3,some (D.ptr 0 0)),(4,some (D.ptr 1 0)),(5,some (D.ptr 2 0)),(6,some (D.ptr 3 0)),(39,some (D.v (V.one (El.row afE s.q.g.us)))),(40,some (D.val (.int .i64 ((s.q.g.us.length:Nat):Int)))),(41,some (D.val (.int .i64 ((i:Nat):Int))))] d20 s20 rfl rfl ⟨rfl,rfl,rfl,rfl,rfl,rfl,rfl,trivial⟩ (Tl_end (At_block (At_then (Tc_region ?_)))))
        refine t_q rfl (Jq_add rfl rfl rfl (r:=((i + 1:Nat):Int)) (w64 (by omega) (by omega) (by omega))) (a_ FT 1 rfl (Tl_end (At_free 5 (At_free 6 (At_free 10 (trim_ 5 rfl ?_))))))
        exact At_next (m':=s.q.g.us.length - (i + 1)) (by omega) ⟨i + 1,_,_,rfl,rfl,rfl,hi,by rw [runN_get hp,← hout,hA,sideN_f2 (by exact hs2)];simp only [List.append_nil]⟩ ⟨rfl,rfl,rfl,rfl,rfl,rfl,rfl,trivial⟩
 ·refine t_q rfl (Jq_lss rfl rfl rfl (b:=false) (dF (by omega))) (cns (Tc_f rfl (Tc_exitA (At_then_exit (At_then_exit (At_block_exit (At_then (Tc_seq ?_))))))))
  have hie:i = s.q.g.us.length:=by omega
  rw [hie] at hout
  refine Tc_region ?_
  refine t_q rfl (Jq_view (r:=4) (n:=n) (x:=V.agg (quL s.q ++ [El.row dcE s.path,Leaf.own 4 n])) (x':=V.agg (quL s.q ++ [El.row dcE s.path,El.row lmE out])) (Jq_load_agg rfl rfl rfl (by decide) ty42 (by decide) (Nat.le_of_ble_eq_true rfl) rfl) (RowAt.ofE lmE out rfl (by decide)) (by decide) ⟨.inl rfl,.inl rfl,.inl rfl,.inl rfl,.inl rfl,.inl rfl,.inl rfl,.inl rfl,.inl rfl,.inl rfl,.inl rfl,.inr ⟨rfl,rfl⟩,trivial⟩) ?_
  refine a_ FT 2 rfl (c_n ?_)
  exact Tc_ret2 hq_ rfl (rA ty42 rfl rfl rfl rfl) rfl (by unfold runM;rw [← hout];rfl)
end Go.Proofs.YtjdbopkbfkgpdaaGreatDoor
