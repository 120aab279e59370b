/- Parts of the proof, 11: the texts WkN, WkO, WlR, WlT, WlS, Best, Awk, WlU, Lw23, as far as they are used. -/
import Derived.Test.YtjdbopkbfkgpdaaGreatDoorMb10
set_option linter.unusedSimpArgs false
set_option linter.unusedVariables false
namespace Go.Proofs.YtjdbopkbfkgpdaaGreatDoor
open Go Go.RowKit Rc
theorem zeros_w (n:Nat) (h:n≠0) (hl:(limbs n).length≤10000000000000):Ctr Tryz.prog 185 [V.one (natL (limbs n))] (R.one (V.one (Leaf.val (.int .i64 ((tz n:Nat):Int))))):=by
 have h1:=zeros_spec (limbs n) (small_limbs _) (by rw [val_limbs];exact h) hl
 rwa [val_limbs] at h1
set_option maxRecDepth 10000 in
theorem qnum (x:Qr) (r:Rat) (hr:x.q = r) (hfx:Fit 1000000000000 x):Ctr Tryz.prog 165 [qV x] (R.one (zV (zOf r.num))):=by
 refine Ctr.of_body Tryz.func165 rfl Tryz.ntmps165 (Nat.le_of_ble_eq_true rfl) (fun w0 A0=>?_)
 haveI ir:Br r 1000000000000:=Br.fitq hr hfx
 refine c_a (t_f rfl (Je_box (n:=0) rfl rfl rfl) (t_f rfl (Je_alloc (n:=1) rfl tz130 rfl) (cna (a_ FT 1 rfl (t_f rfl (Je_call rfl fn86 rfl (qcanon x (r) hr (hfx.mono (by omega)))) (t_f rfl (Je_alloc (n:=2) rfl tz34 rfl) (a_ FT 1 rfl (cna (a_ FT 4 rfl ?_)))))))))
 refine t_q rfl (Jq_build rfl tz130 rfl pl130 rfl) (a_ FT 1 rfl (c_n ?_))
 exact Tc_ret1 hq_ rfl (rA ty130 rfl rfl rfl rfl) rfl
set_option maxRecDepth 10000 in
theorem qden (x:Qr) (r:Rat) (hr:x.q = r) (hfx:Fit 1000000000000 x):Ctr Tryz.prog 166 [qV x] (R.one (V.one (natL (limbs r.den)))):=by
 refine Ctr.of_body Tryz.func166 rfl Tryz.ntmps166 (Nat.le_of_ble_eq_true rfl) (fun w0 A0=>?_)
 haveI ir:Br r 1000000000000:=Br.fitq hr hfx
 refine c_a (t_f rfl (Je_box (n:=0) rfl rfl rfl) (t_q rfl (Jq_assign_nil rfl) (cna (a_ FT 1 rfl (t_f rfl (Je_call rfl fn86 rfl (qcanon x (r) hr (hfx.mono (by omega)))) (t_f rfl (Je_call rfl fn131 rfl (qunder (qOf (r)) (Br.use (by omega)))) ?_))))))
 refine t_f rfl (Je_call rfl fn159 rfl (make_w (dl (qOf (r)).d) (small_dl (qOf (r)).hd) (len_dl (Br.use (r:=(r)) (Nat.le_refl _)).d (by omega)) (dn (val (qOf (r)).d)) (val_dl _))) (a_ FT 1 rfl (c_n ?_))
 exact Tc_ret1 hq_ rfl rfl (congrArg (fun n=>R.one (V.one (natL (limbs n)))) (dn_qOf r))
set_option maxRecDepth 10000 in
theorem dnormal (s:Bool) (l:List Nat) (e:Int) (hs:Small l) (hl:l.length≤100000000000) (he1:-1000000000000000≤e) (he2:e≤1000000000000000) (n:Nat) (hn:val l = n):Ctr Tryz.prog 169 [V.one (Leaf.val (.bool s)),V.one (natL l),V.one (Leaf.val (.int .i64 e))] (R.tup [dV (nrm s n e),V.one (Leaf.val (.bool (nok n e)))]):=by
 refine Ctr.of_body Tryz.func169 rfl Tryz.ntmps169 (Nat.le_of_ble_eq_true rfl) (fun w0 A0=>?_)
 haveI i0:Bn n 100000000000:=by subst hn;exact Bn.val hs hl
 have hb:=bl_le_len (Bn.use (n:=n) (Nat.le_refl _))
 have ht:=tz_le_len (Bn.use (n:=n) (Nat.le_refl _))
 refine c_a (t_f rfl (Je_alloc (n:=0) rfl tz117 rfl) (a_ FT 1 rfl (cna (a_ FT 1 rfl (t_f rfl (Je_call rfl fn159 rfl (make_w l hs (Nat.le_trans hl (by omega)) (n) hn)) (a_ FT 1 rfl (cns (c_a (a_ FT 1 rfl ?_)))))))))
 refine t_q rfl (Jq_len rfl rfl un32) ?_
 by_cases hn0:n = 0
 ·refine t_q rfl (Jq_eql rfl rfl rfl (b:=true) (eT (by rw [hn0,limbs_zero];rfl))) (c_n (Tc_t rfl (c_a (t_q rfl (Jq_build rfl tz117 rfl pl117 rfl) (a_ FT 2 rfl (c_n ?_))))))
  exact Tc_ret2 hq_ rfl (rA ty117 rfl rfl rfl rfl) rfl (by rw [hn0,nrm_zero,nok_zero,dV_zero];rfl)
 ·refine t_q rfl (Jq_eql rfl rfl rfl (b:=false) (eF (by have:=limbs_len_pos.2 hn0;omega))) (c_n (Tc_f rfl (c_b (c_a (a_ FT 1 rfl (t_f rfl (Je_call rfl fn185 rfl (zeros_w n hn0 (Bn.use (by omega)))) (a_ FT 1 rfl (cns (c_a ?_)))))))))
  refine a_ FT 2 rfl (t_q rfl (Jq_add rfl rfl rfl (r:=e + (tz n:Int)) (w64 rfl (by omega) (by omega))) (a_ FT 1 rfl (cna (a_ FT 1 rfl ?_))))
  by_cases h1:e + (tz n:Int) < -1048576
  ·refine t_q rfl (Jq_lss rfl rfl rfl (b:=true) (dT (by omega))) (a_ FT 4 rfl (c_n (Tc_t rfl (c_a (t_q rfl (Jq_build rfl tz117 rfl pl117 rfl) (a_ FT 2 rfl (c_n ?_)))))))
   exact Tc_ret2 hq_ rfl (rA ty117 rfl rfl rfl rfl) rfl (by rw [nrm_out hn0 (.inl h1),nok_out hn0 (.inl h1),dV_zero];rfl)
  ·refine t_q rfl (Jq_lss rfl rfl rfl (b:=false) (dF (by omega))) (a_ FT 2 rfl ?_)
   by_cases h2:1048576 < e + (tz n:Int)
   ·refine t_g rfl rfl rfl rfl (Jq_gtr rfl rfl rfl (b:=true) (dT (by omega))) (a_ FT 1 rfl (c_n (Tc_t rfl (c_a (t_q rfl (Jq_build rfl tz117 rfl pl117 rfl) (a_ FT 2 rfl (c_n ?_)))))))
    exact Tc_ret2 hq_ rfl (rA ty117 rfl rfl rfl rfl) rfl (by rw [nrm_out hn0 (.inr h2),nok_out hn0 (.inr h2),dV_zero];rfl)
   ·refine t_g rfl rfl rfl rfl (Jq_gtr rfl rfl rfl (b:=false) (dF (by omega))) (a_ FT 1 rfl (c_n (Tc_f rfl (c_b (c_a (a_ FT 3 rfl (t_f rfl (Je_call rfl fn186 rfl (dshr_spec n (tz n:Int) (by omega) (Bn.use (by omega)))) (a_ FT 1 rfl (t_q rfl (Jq_build rfl tz117 rfl pl117 rfl) ?_)))))))))
    refine a_ FT 2 rfl (c_n ?_)
    exact Tc_ret2 hq_ rfl (rA ty117 rfl rfl rfl rfl) rfl (by rw [nrm_in hn0 (by omega) (by omega),nok_in hn0 (by omega) (by omega)];rfl)
set_option maxRecDepth 10000 in
theorem drat (d:Dy) (hd:Dfit 1000000000 d):Ctr Tryz.prog 89 [dV d] (R.one (qV (qOf (dq d)))):=by
 refine Ctr.of_body Tryz.func89 rfl Tryz.ntmps89 (Nat.le_of_ble_eq_true rfl) (fun w0 A0=>?_)
 haveI id:Bd d 1000000000:=⟨hd⟩
 have hlo:=hd.lo;have hhi:=hd.hi
 refine c_a (t_f rfl (Je_box (n:=0) rfl rfl rfl) (t_f rfl (Je_alloc (n:=1) rfl tz34 rfl) (cns (c_a (a_ FT 2 rfl ?_)))))
 by_cases h1:0≤d.exp
 ·refine t_q rfl (Jq_geq rfl rfl rfl (b:=true) (dT (by omega))) (c_n (Tc_t rfl (Tc_seq ?_)))
  haveI i1:Bn (d.mag * 2 ^ d.exp.toNat) (1000000000 + 32769):=Bn.shift 32769 inferInstance (by omega)
  refine Tc_drawK 0 [none,none,none,none,none,none,none,none,none,some 1] [1] follows (by kernel_rfl) (d_ FT 6 rfl (DK_c rfl rfl (Jd_call rfl fn133 rfl (dshl_spec d.mag d.exp (by omega) (Bn.use (by omega)))) (dq_ rfl rfl (Jq_build rfl tz34 rfl pl34 rfl) ?_)))
  refine DK_c rfl rfl (Jd_call rfl fn86 rfl (qcanon (Qr.mk d.neg (limbs (d.mag * 2 ^ d.exp.toNat)) [] (small_limbs _) Small.nil) (rq d.neg (d.mag * 2 ^ d.exp.toNat) (0)) (qr_eq (val_limbs _) rfl) (Fit.mk (Bn.use (by omega)) (Nat.zero_le _)))) (DK_s 1 rfl rfl rfl (Jd_store rfl rfl rfl rfl ty34 rfl (by decide) (Nat.le_of_ble_eq_true rfl) rfl) (DK_nil (At_then ?_)))
  exact Tc_ret1 hq_ rfl (rA ty34 rfl rfl rfl rfl) (by unfold dq;rw [if_pos h1];rfl)
 ·refine t_q rfl (Jq_geq rfl rfl rfl (b:=false) (dF (by omega))) (c_n (Tc_f rfl (c_b (Tc_seq ?_))))
  haveI i2:Bn (1 * 2 ^ (-d.exp).toNat) (1 + 32769):=Bn.shift 32769 ⟨by rw [limbs_one];exact Nat.le_refl _⟩ (by omega)
  refine Tc_drawK 0 [none,none,none,none,none,none,none,none,none,none,none,some 1] [1] follows (by kernel_rfl) (d_ FT 4 rfl (DK_c rfl rfl (Jd_call rfl fn130 rfl (of_spec 1 (by decide))) (d_ FT 2 rfl (dq_ rfl rfl (Jq_neg rfl rfl (r:=-d.exp) (w64 (by omega) (by omega) (by omega))) (DK_c rfl rfl (Jd_call rfl fn133 rfl (dshl_spec 1 (-d.exp) (by omega) (Bn.use (by omega)))) ?_)))))
  refine dq_ rfl rfl (Jq_build rfl tz34 rfl pl34 rfl) (DK_c rfl rfl (Jd_call rfl fn86 rfl (qcanon (Qr.mk d.neg (limbs (d.mag)) (limbs (1 * 2 ^ (-d.exp).toNat)) (small_limbs _) (small_limbs _)) (rq d.neg (d.mag) (1 * 2 ^ (-d.exp).toNat)) (qr_eq (val_limbs _) (val_limbs _)) (Fit.mk (Bn.use (by omega)) (Bn.use (by omega))))) ?_)
  refine DK_s 1 rfl rfl rfl (Jd_store rfl rfl rfl rfl ty34 rfl (by decide) (Nat.le_of_ble_eq_true rfl) rfl) (DK_nil (At_then ?_))
  exact Tc_ret1 hq_ rfl (rA ty34 rfl rfl rfl rfl) (by unfold dq;rw [if_neg h1,Nat.one_mul];rfl)
end Go.Proofs.YtjdbopkbfkgpdaaGreatDoor
set_option linter.unusedSimpArgs false
set_option linter.unusedVariables false
namespace Go.Proofs.YtjdbopkbfkgpdaaGreatDoor
open Go Go.RowKit Rc
set_option maxRecDepth 10000 in
theorem dsize (a b:Nat) (ha0:a≠0) (hb0:b≠0) (ha:(limbs a).length≤2000) (hb:(limbs b).length≤2000):Ctr Tryz.prog 167 [V.one (natL (limbs a)),V.one (natL (limbs b))] (R.tup [V.one (Leaf.val (.int .i64 (lg a b))),V.one (Leaf.val (.bool true))]):=by
 refine Ctr.of_body Tryz.func167 rfl Tryz.ntmps167 (Nat.le_of_ble_eq_true rfl) (fun w0 A0=>?_)
 haveI ia:Bn a 2000:=⟨ha⟩
 haveI ib:Bn b 2000:=⟨hb⟩
 have hla:=bl_le_len ha;have hlb:=bl_le_len hb
 have hlg:=lg_bound ha hb
 have hlo:=lg_or a b
 refine c_a (a_ FT 2 rfl (cna (a_ FT 1 rfl (t_f rfl (Je_call rfl fn164 rfl (bits_w (limbs (a)) (small_limbs _) (Bn.use (by omega)) (a) (val_limbs _))) (a_ FT 1 rfl (t_f rfl (Je_call rfl fn164 rfl (bits_w (limbs (b)) (small_limbs _) (Bn.use (by omega)) (b) (val_limbs _))) (t_q rfl (Jq_sub rfl rfl rfl (r:=(bl a:Int) - bl b) (w64 (by omega) (by omega) (by omega))) (a_ FT 1 rfl ?_))))))))
 refine cns (c_a (a_ FT 1 rfl (t_q rfl (Jq_gtr rfl rfl rfl (b:=false) (dF (by omega))) (a_ FT 2 rfl (t_g rfl rfl rfl rfl (Jq_lss rfl rfl rfl (b:=false) (dF (by omega))) (a_ FT 1 rfl (c_n (Tc_f rfl (c_b ?_)))))))))
 refine c_a (a_ FT 4 rfl (cns (c_a (a_ FT 1 rfl ?_))))
 by_cases h1:0≤(bl a:Int) - bl b
 ·refine t_q rfl (Jq_geq rfl rfl rfl (b:=true) (dT (by omega))) (c_n (Tc_t rfl ?_))
  haveI i1:Bn (b * 2 ^ ((bl a:Int) - bl b).toNat) (2000 + 5000):=Bn.shift 5000 ib (by omega)
  refine Tc_region (a_ FT 2 rfl (t_f rfl (Je_call rfl fn133 rfl (dshl_spec b ((bl a:Int) - bl b) (by omega) (Bn.use (by omega)))) (a_ FT 1 rfl (cns (c_a (a_ FT 2 rfl (t_f rfl (Je_call rfl fn137 rfl (cmp_w (limbs (a)) (small_limbs _) (limbs (b * 2 ^ ((bl a:Int) - bl b).toNat)) (small_limbs _) (a) (val_limbs _) (b * 2 ^ ((bl a:Int) - bl b).toNat) (val_limbs _))) ?_)))))))
  by_cases h2:a < b * 2 ^ ((bl a:Int) - bl b).toNat
  ·refine t_q rfl (Jq_lss rfl rfl rfl (b:=true) (dT (by rw [cmpN_lt h2];decide))) (c_n (Tc_t rfl (Tc_region (a_ FT 1 rfl (t_q rfl (Jq_sub rfl rfl rfl (r:=(bl a:Int) - bl b - 1) (w64 (by omega) (by omega) (by omega))) (a_ FT 1 rfl (cna (a_ FT 2 rfl (t_q rfl (Jq_geq rfl rfl rfl (b:=true) (dT (by omega))) ?_)))))))))
   refine a_ FT 2 rfl (t_g rfl rfl rfl rfl (Jq_lss rfl rfl rfl (b:=true) (dT (by omega))) (a_ FT 3 rfl (c_n ?_)))
   exact Tc_ret2 hq_ rfl rfl rfl (by unfold lg;rw [if_pos h1,if_pos h2] <;> rfl)
  ·refine t_q rfl (Jq_lss rfl rfl rfl (b:=false) (dF (by unfold cmpN;rw [if_neg h2];split <;> decide))) (c_n (Tc_f rfl (c_b (c_a (a_ FT 2 rfl (t_q rfl (Jq_geq rfl rfl rfl (b:=true) (dT (by omega))) (a_ FT 2 rfl (t_g rfl rfl rfl rfl (Jq_lss rfl rfl rfl (b:=true) (dT (by omega))) (a_ FT 3 rfl ?_)))))))))
   refine c_n ?_
   exact Tc_ret2 hq_ rfl rfl rfl (by unfold lg;rw [if_pos h1,if_neg h2] <;> rfl)
 ·refine t_q rfl (Jq_geq rfl rfl rfl (b:=false) (dF (by omega))) (c_n (Tc_f rfl ?_))
  haveI i2:Bn (a * 2 ^ (-((bl a:Int) - bl b)).toNat) (2000 + 5000):=Bn.shift 5000 ia (by omega)
  refine Tc_region (a_ FT 2 rfl (t_q rfl (Jq_neg rfl rfl (r:=-((bl a:Int) - bl b)) (w64 (by omega) (by omega) (by omega))) (t_f rfl (Je_call rfl fn133 rfl (dshl_spec a (-((bl a:Int) - bl b)) (by omega) (Bn.use (by omega)))) (a_ FT 1 rfl (cns (c_a (a_ FT 2 rfl ?_)))))))
  refine t_f rfl (Je_call rfl fn137 rfl (cmp_w (limbs (a * 2 ^ (-((bl a:Int) - bl b)).toNat)) (small_limbs _) (limbs (b)) (small_limbs _) (a * 2 ^ (-((bl a:Int) - bl b)).toNat) (val_limbs _) (b) (val_limbs _))) ?_
  by_cases h2:a * 2 ^ (-((bl a:Int) - bl b)).toNat < b
  ·refine t_q rfl (Jq_lss rfl rfl rfl (b:=true) (dT (by rw [cmpN_lt h2];decide))) (c_n (Tc_t rfl (Tc_region (a_ FT 1 rfl (t_q rfl (Jq_sub rfl rfl rfl (r:=(bl a:Int) - bl b - 1) (w64 (by omega) (by omega) (by omega))) (a_ FT 1 rfl (cna (a_ FT 2 rfl (t_q rfl (Jq_geq rfl rfl rfl (b:=true) (dT (by omega))) ?_)))))))))
   refine a_ FT 2 rfl (t_g rfl rfl rfl rfl (Jq_lss rfl rfl rfl (b:=true) (dT (by omega))) (a_ FT 3 rfl (c_n ?_)))
   exact Tc_ret2 hq_ rfl rfl rfl (by unfold lg;rw [if_neg h1,if_pos h2] <;> rfl)
  ·refine t_q rfl (Jq_lss rfl rfl rfl (b:=false) (dF (by unfold cmpN;rw [if_neg h2];split <;> decide))) (c_n (Tc_f rfl (c_b (c_a (a_ FT 2 rfl (t_q rfl (Jq_geq rfl rfl rfl (b:=true) (dT (by omega))) (a_ FT 2 rfl (t_g rfl rfl rfl rfl (Jq_lss rfl rfl rfl (b:=true) (dT (by omega))) (a_ FT 3 rfl ?_)))))))))
   refine c_n ?_
   exact Tc_ret2 hq_ rfl rfl rfl (by unfold lg;rw [if_neg h1,if_neg h2] <;> rfl)
set_option maxRecDepth 10000 in
theorem dround (x:Qr) (r:Rat) (hr:x.q = r) (hfx:Fit 1100 x) (p:Int) (away:Bool):Ctr Tryz.prog 132 [qV x,V.one (Leaf.val (.int .i64 p)),V.one (Leaf.val (.bool away))] (R.tup [dV (rndD r p away),V.one (Leaf.val (.int .i64 (rndE p)))]):=by
 refine Ctr.of_body Tryz.func132 rfl Tryz.ntmps132 (Nat.le_of_ble_eq_true rfl) (fun w0 A0=>?_)
 haveI ir:Br r 1100:=Br.fitq hr hfx
 have hnl:(limbs (Int.natAbs r.num)).length≤1100:=Bz.use (z:=r.num) (Nat.le_refl _)
 have hdl:(limbs r.den).length≤1101:=Bn.use (n:=r.den) (Nat.le_refl _)
 haveI ina:Bn (Int.natAbs r.num) 1100:=⟨hnl⟩
 have hlg:=lg_bound hnl hdl
 refine c_a (t_f rfl (Je_box (n:=0) rfl rfl rfl) (t_f rfl (Je_alloc (n:=1) rfl tz117 rfl) (a_ FT 1 rfl (cns (c_a (a_ FT 1 rfl ?_))))))
 by_cases h1:p < 1
 ·refine t_q rfl (Jq_lss rfl rfl rfl (b:=true) (dT (by omega))) (a_ FT 4 rfl (c_n (Tc_t rfl (c_a (t_q rfl (Jq_build rfl tz117 rfl pl117 rfl) (a_ FT 2 rfl (c_n ?_)))))))
  exact Tc_ret2 hq_ rfl (rA ty117 rfl rfl rfl rfl) rfl (by unfold rndD rndE;rw [if_pos (by omega),if_pos (by omega),dV_zero] <;> rfl)
 ·refine t_q rfl (Jq_lss rfl rfl rfl (b:=false) (dF (by omega))) (a_ FT 2 rfl ?_)
  by_cases h2:4096 < p
  ·refine t_g rfl rfl rfl rfl (Jq_gtr rfl rfl rfl (b:=true) (dT (by omega))) (a_ FT 1 rfl (c_n (Tc_t rfl (c_a (t_q rfl (Jq_build rfl tz117 rfl pl117 rfl) (a_ FT 2 rfl (c_n ?_)))))))
   exact Tc_ret2 hq_ rfl (rA ty117 rfl rfl rfl rfl) rfl (by unfold rndD rndE;rw [if_pos (by omega),if_pos (by omega),dV_zero] <;> rfl)
  ·refine t_g rfl rfl rfl rfl (Jq_gtr rfl rfl rfl (b:=false) (dF (by omega))) (a_ FT 1 rfl (c_n (Tc_f rfl (c_b (Tc_seq (Tc_drawK 1 [none,none,none,none,some 2,some 2,none] [2] follows (by kernel_rfl) (d_ FT 1 rfl (DK_c rfl rfl (Jd_call rfl fn165 rfl (qnum x (r) hr (hfx.mono (by omega)))) (d_ FT 1 rfl ?_)))))))))
   refine DK_c rfl rfl (Jd_call rfl fn166 rfl (qden x (r) hr (hfx.mono (by omega)))) (DK_s 2 rfl rfl rfl (Jd_alloc (i:=2) rfl tz130 rfl) (DK_s 2 rfl rfl rfl (Jd_store rfl rfl rfl rfl ty130 rfl (by decide) (Nat.le_of_ble_eq_true rfl) rfl) (d_ FT 1 rfl (DK_nil (At_then (Tc_seq (c_a (a_ FT 1 rfl ?_))))))))
   refine t_f rfl (Je_call rfl fn134 rfl (zsign (zOf (r.num)) (r.num) (zOf_z _) (Bz.use (by omega)))) ?_
   by_cases h3:r.num = 0
   ·refine t_q rfl (Jq_eql rfl rfl rfl (b:=true) (eT (by rw [h3];rfl))) (c_n (Tc_t rfl (c_a (t_q rfl (Jq_build rfl tz117 rfl pl117 rfl) (a_ FT 2 rfl (c_n ?_))))))
    exact Tc_ret2 hq_ rfl (rA ty117 rfl rfl rfl rfl) rfl (by unfold rndD;rw [if_pos (by omega),rndE_of h1 h2,dV_zero] <;> rfl)
   ·refine t_q rfl (Jq_eql rfl rfl rfl (b:=false) (eF (sgz_ne h3))) (c_n (Tc_f rfl (c_b (c_a (a_ FT 3 rfl (t_f rfl (Je_call rfl fn167 rfl (dsize (Int.natAbs (r.num)) r.den (by omega) r.den_nz (by omega) (by omega))) (a_ FT 5 rfl (cns (c_a ?_)))))))))
    refine a_ FT 2 rfl (c_n (Tc_f rfl (c_b (c_a (a_ FT 2 rfl (t_q rfl (Jq_sub rfl rfl rfl (r:=lg (Int.natAbs (r.num)) r.den - p) (w64 (by omega) (by omega) (by omega))) (t_q rfl (Jq_add rfl rfl rfl (r:=lg (Int.natAbs (r.num)) r.den - p + 1) (w64 (by omega) (by omega) (by omega))) (a_ FT 1 rfl (cna ?_)))))))))
    refine a_ FT 5 rfl (cns (c_a (a_ FT 1 rfl ?_)))
    by_cases hE:0≤lg (Int.natAbs (r.num)) r.den - p + 1
    ·refine t_q rfl (Jq_geq rfl rfl rfl (b:=true) (dT (by omega))) (c_n (Tc_t rfl ?_))
     haveI i1:Bn (r.den * 2 ^ (lg (Int.natAbs (r.num)) r.den - p + 1).toNat) (1101 + 5000):=Bn.shift 5000 inferInstance (by omega)
     refine Tc_region (a_ FT 2 rfl (t_f rfl (Je_call rfl fn133 rfl (dshl_spec r.den (lg (Int.natAbs (r.num)) r.den - p + 1) (by omega) (Bn.use (by omega)))) (a_ FT 1 rfl (cns ?_))))
     have hd0:r.den * 2 ^ (lg (Int.natAbs (r.num)) r.den - p + 1).toNat≠0:=by have h:=scD_ne r.den_nz (lg (Int.natAbs (r.num)) r.den - p + 1);rwa [scD_pos hE] at h
     refine Tc_region (a_ FT 2 rfl (t_f rfl (Je_call rfl fn162 rfl (divmod_w (limbs (Int.natAbs (r.num))) (limbs (r.den * 2 ^ (lg (Int.natAbs (r.num)) r.den - p + 1).toNat)) (small_limbs _) (small_limbs _) (Bn.use (by omega)) (Bn.use (by omega)) (Int.natAbs (r.num)) (r.den * 2 ^ (lg (Int.natAbs (r.num)) r.den - p + 1).toNat) (val_limbs _) (val_limbs _) hd0)) (a_ FT 7 rfl (cns (c_a ?_)))))
     refine a_ FT 2 rfl ?_
     refine Tl_two (fun hup=>?_) (fun hup=>?_)
     ·refine a_ FT 4 rfl (c_n (Tc_f rfl (c_b (c_a (a_ FT 4 rfl ?_)))))
      refine t_f rfl (Je_call rfl fn169 rfl (dnormal (decide (r.num < 0)) (limbs ((Int.natAbs (r.num)) / (r.den * 2 ^ (lg (Int.natAbs (r.num)) r.den - p + 1).toNat))) (lg (Int.natAbs (r.num)) r.den - p + 1) (small_limbs _) (Bn.use (by omega)) (by omega) (by omega) ((Int.natAbs (r.num)) / (r.den * 2 ^ (lg (Int.natAbs (r.num)) r.den - p + 1).toNat)) (val_limbs _))) (a_ FT 3 rfl ?_)
      refine t_f rfl (Je_alloc (n:=3) rfl tz117 rfl) (a_ FT 2 rfl (cna (a_ FT 3 rfl (c_n ?_))))
      exact Tc_ret2 hq_ rfl (rA ty117 rfl rfl rfl rfl) rfl (by subst hup;rw [rndD_of h1 h2 h3,rndE_of h1 h2];unfold rnd;rw [rndQ_no,scN_pos hE,scD_pos hE] <;> rfl)
     ·refine a_ FT 1 rfl (t_g rfl rfl rfl rfl (Jq_len rfl rfl un32) ?_)
      by_cases hr0:(Int.natAbs (r.num)) % (r.den * 2 ^ (lg (Int.natAbs (r.num)) r.den - p + 1).toNat)≠0
      ·refine t_g rfl rfl rfl rfl (Jq_gtr rfl rfl rfl (b:=true) (dT (by have:=limbs_len_pos.2 hr0;omega))) (a_ FT 1 rfl (c_n (Tc_t rfl (Tc_region (a_ FT 1 rfl (t_f rfl (Je_call rfl fn130 rfl (of_spec 1 (by decide))) ?_))))))
       refine t_f rfl (Je_call rfl fn168 rfl (add_w (limbs ((Int.natAbs (r.num)) / (r.den * 2 ^ (lg (Int.natAbs (r.num)) r.den - p + 1).toNat))) (small_limbs _) (Bn.use (by omega)) (limbs (1)) (small_limbs _) (Bn.use (by omega)) ((Int.natAbs (r.num)) / (r.den * 2 ^ (lg (Int.natAbs (r.num)) r.den - p + 1).toNat)) (val_limbs _) (1) (val_limbs _))) (a_ FT 1 rfl (cna (a_ FT 4 rfl ?_)))
       refine t_f rfl (Je_call rfl fn169 rfl (dnormal (decide (r.num < 0)) (limbs (((Int.natAbs (r.num)) / (r.den * 2 ^ (lg (Int.natAbs (r.num)) r.den - p + 1).toNat)) + (1))) (lg (Int.natAbs (r.num)) r.den - p + 1) (small_limbs _) (Bn.use (by omega)) (by omega) (by omega) (((Int.natAbs (r.num)) / (r.den * 2 ^ (lg (Int.natAbs (r.num)) r.den - p + 1).toNat)) + (1)) (val_limbs _))) (a_ FT 3 rfl ?_)
       refine t_f rfl (Je_alloc (n:=3) rfl tz117 rfl) (a_ FT 2 rfl (cna (a_ FT 3 rfl (c_n ?_))))
       exact Tc_ret2 hq_ rfl (rA ty117 rfl rfl rfl rfl) rfl (by subst hup;rw [rndD_of h1 h2 h3,rndE_of h1 h2];unfold rnd;rw [rndQ_up (by rw [scN_pos hE,scD_pos hE];exact hr0),scN_pos hE,scD_pos hE] <;> rfl)
      ·refine t_g rfl rfl rfl rfl (Jq_gtr rfl rfl rfl (b:=false) (dF (by rw [Classical.not_not.1 hr0,limbs_zero];decide))) (a_ FT 1 rfl (c_n (Tc_f rfl (c_b (c_a (a_ FT 4 rfl ?_))))))
       refine t_f rfl (Je_call rfl fn169 rfl (dnormal (decide (r.num < 0)) (limbs ((Int.natAbs (r.num)) / (r.den * 2 ^ (lg (Int.natAbs (r.num)) r.den - p + 1).toNat))) (lg (Int.natAbs (r.num)) r.den - p + 1) (small_limbs _) (Bn.use (by omega)) (by omega) (by omega) ((Int.natAbs (r.num)) / (r.den * 2 ^ (lg (Int.natAbs (r.num)) r.den - p + 1).toNat)) (val_limbs _))) (a_ FT 3 rfl ?_)
       refine t_f rfl (Je_alloc (n:=3) rfl tz117 rfl) (a_ FT 2 rfl (cna (a_ FT 3 rfl (c_n ?_))))
       exact Tc_ret2 hq_ rfl (rA ty117 rfl rfl rfl rfl) rfl (by subst hup;rw [rndD_of h1 h2 h3,rndE_of h1 h2];unfold rnd;rw [rndQ_ex (by rw [scN_pos hE,scD_pos hE];exact hr0),scN_pos hE,scD_pos hE] <;> rfl)
    ·refine t_q rfl (Jq_geq rfl rfl rfl (b:=false) (dF (by omega))) (c_n (Tc_f rfl ?_))
     haveI i1:Bn (Int.natAbs (r.num) * 2 ^ (-(lg (Int.natAbs (r.num)) r.den - p + 1)).toNat) (1100 + 5000):=Bn.shift 5000 ina (by omega)
     refine Tc_region (a_ FT 3 rfl (t_q rfl (Jq_neg rfl rfl (r:=-(lg (Int.natAbs (r.num)) r.den - p + 1)) (w64 (by omega) (by omega) (by omega))) (t_f rfl (Je_call rfl fn133 rfl (dshl_spec (Int.natAbs (r.num)) (-(lg (Int.natAbs (r.num)) r.den - p + 1)) (by omega) (Bn.use (by omega)))) (a_ FT 1 rfl (cns ?_)))))
     have hd0:r.den≠0:=by have h:=scD_ne r.den_nz (lg (Int.natAbs (r.num)) r.den - p + 1);rwa [scD_neg hE] at h
     refine Tc_region (a_ FT 2 rfl (t_f rfl (Je_call rfl fn162 rfl (divmod_w (limbs (Int.natAbs (r.num) * 2 ^ (-(lg (Int.natAbs (r.num)) r.den - p + 1)).toNat)) (limbs (r.den)) (small_limbs _) (small_limbs _) (Bn.use (by omega)) (Bn.use (by omega)) (Int.natAbs (r.num) * 2 ^ (-(lg (Int.natAbs (r.num)) r.den - p + 1)).toNat) (r.den) (val_limbs _) (val_limbs _) hd0)) (a_ FT 7 rfl (cns (c_a ?_)))))
     refine a_ FT 2 rfl ?_
     refine Tl_two (fun hup=>?_) (fun hup=>?_)
     ·refine a_ FT 4 rfl (c_n (Tc_f rfl (c_b (c_a (a_ FT 4 rfl ?_)))))
      refine t_f rfl (Je_call rfl fn169 rfl (dnormal (decide (r.num < 0)) (limbs ((Int.natAbs (r.num) * 2 ^ (-(lg (Int.natAbs (r.num)) r.den - p + 1)).toNat) / r.den)) (lg (Int.natAbs (r.num)) r.den - p + 1) (small_limbs _) (Bn.use (by omega)) (by omega) (by omega) ((Int.natAbs (r.num) * 2 ^ (-(lg (Int.natAbs (r.num)) r.den - p + 1)).toNat) / r.den) (val_limbs _))) (a_ FT 3 rfl ?_)
      refine t_f rfl (Je_alloc (n:=3) rfl tz117 rfl) (a_ FT 2 rfl (cna (a_ FT 3 rfl (c_n ?_))))
      exact Tc_ret2 hq_ rfl (rA ty117 rfl rfl rfl rfl) rfl (by subst hup;rw [rndD_of h1 h2 h3,rndE_of h1 h2];unfold rnd;rw [rndQ_no,scN_neg hE,scD_neg hE] <;> rfl)
     ·refine a_ FT 1 rfl (t_g rfl rfl rfl rfl (Jq_len rfl rfl un32) ?_)
      by_cases hr0:(Int.natAbs (r.num) * 2 ^ (-(lg (Int.natAbs (r.num)) r.den - p + 1)).toNat) % r.den≠0
      ·refine t_g rfl rfl rfl rfl (Jq_gtr rfl rfl rfl (b:=true) (dT (by have:=limbs_len_pos.2 hr0;omega))) (a_ FT 1 rfl (c_n (Tc_t rfl (Tc_region (a_ FT 1 rfl (t_f rfl (Je_call rfl fn130 rfl (of_spec 1 (by decide))) ?_))))))
       refine t_f rfl (Je_call rfl fn168 rfl (add_w (limbs ((Int.natAbs (r.num) * 2 ^ (-(lg (Int.natAbs (r.num)) r.den - p + 1)).toNat) / r.den)) (small_limbs _) (Bn.use (by omega)) (limbs (1)) (small_limbs _) (Bn.use (by omega)) ((Int.natAbs (r.num) * 2 ^ (-(lg (Int.natAbs (r.num)) r.den - p + 1)).toNat) / r.den) (val_limbs _) (1) (val_limbs _))) (a_ FT 1 rfl (cna (a_ FT 4 rfl ?_)))
       refine t_f rfl (Je_call rfl fn169 rfl (dnormal (decide (r.num < 0)) (limbs (((Int.natAbs (r.num) * 2 ^ (-(lg (Int.natAbs (r.num)) r.den - p + 1)).toNat) / r.den) + (1))) (lg (Int.natAbs (r.num)) r.den - p + 1) (small_limbs _) (Bn.use (by omega)) (by omega) (by omega) (((Int.natAbs (r.num) * 2 ^ (-(lg (Int.natAbs (r.num)) r.den - p + 1)).toNat) / r.den) + (1)) (val_limbs _))) ?_
       refine a_ FT 3 rfl (t_f rfl (Je_alloc (n:=3) rfl tz117 rfl) (a_ FT 2 rfl (cna (a_ FT 3 rfl (c_n ?_)))))
       exact Tc_ret2 hq_ rfl (rA ty117 rfl rfl rfl rfl) rfl (by subst hup;rw [rndD_of h1 h2 h3,rndE_of h1 h2];unfold rnd;rw [rndQ_up (by rw [scN_neg hE,scD_neg hE];exact hr0),scN_neg hE,scD_neg hE] <;> rfl)
      ·refine t_g rfl rfl rfl rfl (Jq_gtr rfl rfl rfl (b:=false) (dF (by rw [Classical.not_not.1 hr0,limbs_zero];decide))) (a_ FT 1 rfl (c_n (Tc_f rfl (c_b (c_a (a_ FT 4 rfl ?_))))))
       refine t_f rfl (Je_call rfl fn169 rfl (dnormal (decide (r.num < 0)) (limbs ((Int.natAbs (r.num) * 2 ^ (-(lg (Int.natAbs (r.num)) r.den - p + 1)).toNat) / r.den)) (lg (Int.natAbs (r.num)) r.den - p + 1) (small_limbs _) (Bn.use (by omega)) (by omega) (by omega) ((Int.natAbs (r.num) * 2 ^ (-(lg (Int.natAbs (r.num)) r.den - p + 1)).toNat) / r.den) (val_limbs _))) (a_ FT 3 rfl ?_)
       refine t_f rfl (Je_alloc (n:=3) rfl tz117 rfl) (a_ FT 2 rfl (cna (a_ FT 3 rfl (c_n ?_))))
       exact Tc_ret2 hq_ rfl (rA ty117 rfl rfl rfl rfl) rfl (by subst hup;rw [rndD_of h1 h2 h3,rndE_of h1 h2];unfold rnd;rw [rndQ_ex (by rw [scN_neg hE,scD_neg hE];exact hr0),scN_neg hE,scD_neg hE] <;> rfl)
set_option maxRecDepth 10000 in
theorem ddown (x:Qr) (r:Rat) (hr:x.q = r) (hfx:Fit 1100 x) (p:Int):Ctr Tryz.prog 87 [qV x,V.one (Leaf.val (.int .i64 p))] (R.tup [dV (rndD r p (decide (sg r < 0))),V.one (Leaf.val (.int .i64 (rndE p)))]):=by
 refine Ctr.of_body Tryz.func87 rfl Tryz.ntmps87 (Nat.le_of_ble_eq_true rfl) (fun w0 A0=>?_)
 haveI ir:Br r 1100:=Br.fitq hr hfx
 refine c_a (t_f rfl (Je_box (n:=0) rfl rfl rfl) (t_f rfl (Je_alloc (n:=1) rfl tz117 rfl) (a_ FT 1 rfl (cns (Tc_drawK 0 [none,none,none,none,none,none,none,none,some 1,none] [1] follows (by kernel_rfl) (d_ FT 3 rfl (DK_c rfl rfl (Jd_call rfl fn90 rfl (qsign x (r) hr (hfx.mono (by omega)))) (dq_ rfl rfl (Jq_lss rfl rfl rfl (b:=_) (rfl)) ?_))))))))
 refine DK_c rfl rfl (Jd_call rfl fn132 rfl (dround x (r) hr (hfx.mono (by omega)) p (decide ((sg (r)) < 0)))) (d_ FT 2 rfl (DK_s 1 rfl rfl rfl (Jd_store rfl rfl rfl rfl ty117 rfl (by decide) (Nat.le_of_ble_eq_true rfl) rfl) (d_ FT 1 rfl (DK_nil (At_then ?_)))))
 exact Tc_ret2 hq_ rfl (rA ty117 rfl rfl rfl rfl) rfl rfl
set_option maxRecDepth 10000 in
theorem dup (x:Qr) (r:Rat) (hr:x.q = r) (hfx:Fit 1100 x) (p:Int):Ctr Tryz.prog 88 [qV x,V.one (Leaf.val (.int .i64 p))] (R.tup [dV (rndD r p (decide (0 < sg r))),V.one (Leaf.val (.int .i64 (rndE p)))]):=by
 refine Ctr.of_body Tryz.func88 rfl Tryz.ntmps88 (Nat.le_of_ble_eq_true rfl) (fun w0 A0=>?_)
 haveI ir:Br r 1100:=Br.fitq hr hfx
 refine c_a (t_f rfl (Je_box (n:=0) rfl rfl rfl) (t_f rfl (Je_alloc (n:=1) rfl tz117 rfl) (a_ FT 1 rfl (cns (Tc_drawK 0 [none,none,none,none,none,none,none,none,some 1,none] [1] follows (by kernel_rfl) (d_ FT 3 rfl (DK_c rfl rfl (Jd_call rfl fn90 rfl (qsign x (r) hr (hfx.mono (by omega)))) (dq_ rfl rfl (Jq_gtr rfl rfl rfl (b:=_) (rfl)) ?_))))))))
 refine DK_c rfl rfl (Jd_call rfl fn132 rfl (dround x (r) hr (hfx.mono (by omega)) p (decide (0 < (sg (r)))))) (d_ FT 2 rfl (DK_s 1 rfl rfl rfl (Jd_store rfl rfl rfl rfl ty117 rfl (by decide) (Nat.le_of_ble_eq_true rfl) rfl) (d_ FT 1 rfl (DK_nil (At_then ?_)))))
 exact Tc_ret2 hq_ rfl (rA ty117 rfl rfl rfl rfl) rfl rfl
end Go.Proofs.YtjdbopkbfkgpdaaGreatDoor
set_option linter.unusedSimpArgs false
set_option linter.unusedVariables false
namespace Go.Proofs.YtjdbopkbfkgpdaaGreatDoor
open Go Go.RowKit Rc
set_option maxRecDepth 10000 in
theorem scale_p (f:Af) (c:Rat) {C K n:Nat} (hf:FL C n f) [Br c K] (h2:C≤10000000000) (h3:K≤10000000000) (hn:n≤1000):Ctr Tryz.prog 40 [afV f,V.agg (qL (c))] (R.one (afV (fSc f c))):=by
 refine Ctr.of_body Tryz.func40 rfl Tryz.ntmps40 (Nat.le_of_ble_eq_true rfl) (fun w0 A0=>?_)
 refine c_a (t_f rfl (Je_box (n:=0) rfl rfl rfl) (t_f rfl (Je_box (n:=1) rfl rfl rfl) (t_f rfl (Je_alloc (n:=2) rfl tz36 rfl) (cna (t_q rfl (Jq_build rfl tz36 rfl pl36 rfl) (Tl_eq (D.agg (afL fZ)) (congrArg D.agg fZ_ls.symm) (a_ FT 2 rfl (t_f rfl (Je_call rfl fn83 rfl (merge_p fZ f c (FL.z (n:=n)) hf (by omega) (by omega) (by omega) (by omega))) (a_ FT 1 rfl ?_)))))))))
 refine c_n ?_
 exact Tc_ret1 hq_ rfl (rA ty36 rfl rfl rfl rfl) (by have e:f.c * c = fZ.c + f.c * c:=(Rat.zero_add _).symm;show R.one (afV ⟨mrg c [] f.ts,fZ.c + f.c * c⟩) = R.one (afV ⟨scT f.ts c,f.c * c⟩);rw [← mrg_nil hf.can,← e])
set_option maxRecDepth 10000 in
theorem clone_dc (l:List Dc) (hl:l.length≤100000):Ctr Tryz.prog 37 [V.one (El.row dcE l)] (R.one (V.one (El.row dcE l))):=by
 refine Ctr.of_body Tryz.func37 rfl Tryz.ntmps37 (Nat.le_of_ble_eq_true rfl) (fun w0 A0=>?_)
 refine c_a (t_q rfl (Jq_assign_nil rfl) (cns (c_a (a_ FT 1 rfl ?_))))
 refine Tl_eqnil rfl rfl rfl rfl rfl un39 (fun b1 hb1=>?_)
 refine c_n ?_
 refine Tc_cond rfl (fun hc4=>?_) (fun hc4=>?_)
 ·refine c_a (t_q rfl (Jq_assign_nil rfl) (c_n ?_))
  exact Tc_ret1 hq_ rfl rfl (by obtain ⟨h1,h2⟩:=hb1 hc4;have:=List.eq_nil_of_length_eq_zero h1;subst this;rfl)
 ·refine c_b (c_a (t_f rfl (Je_build0F rfl un39 ty73 _) (a_ FT 1 rfl ?_)))
  obtain ⟨ti2,hi2,hz2,hs2,hb2⟩:=in73
  refine t_f rfl (Je_append0F dcE l rfl rfl rfl (by decide) un39 un39 hi2 hz2 hs2 rfl (by simp only [maxLen];omega) (by rw [hb2];omega) (H2:=_)) (a_ FT 1 rfl (c_n ?_))
  exact Tc_ret1 hq_ rfl rfl rfl
set_option maxRecDepth 10000 in
theorem clone_lm (l:List Lm) (hl:l.length≤100000):CtrG Tryz.prog 38 64 6 (El.all lmE l) [V.one (El.row lmE l)]:=by
 refine CtrG.of_body Tryz.func38 rfl Tryz.ntmps38 (Nat.le_of_ble_eq_true rfl) (fun w0 A0 hX=>?_)
 refine c_a (t_q rfl (Jq_assign_nil rfl) (cns (c_a (a_ FT 1 rfl ?_))))
 refine Tl_eqnil rfl rfl rfl rfl rfl un40 (fun b1 hb1=>?_)
 refine c_n ?_
 refine Tc_cond rfl (fun hc4=>?_) (fun hc4=>?_)
 ·refine c_a (t_q rfl (Jq_assign rfl (rfl)) (c_n ?_))
  exact Tc_retG0 (fun _ _ h=>h) rfl rfl (by obtain ⟨h1,h2⟩:=hb1 hc4;have:=List.eq_nil_of_length_eq_zero h1;subst this;rfl)
 ·refine c_b (c_a (Tl_build0 rfl rfl rfl rfl un40 ty64 rfl (Tl_ownG 5 0 rfl rfl (a_ FT 1 rfl ?_))))
  obtain ⟨ti2,hi2,hz2,hs2,hb2⟩:=in64
  refine t_f rfl (Je_appendRL lmE ([]) l rfl rfl rfl rfl (by decide) un40 un40 hi2 hz2 hs2 rfl (by first | (simp only [maxLen];omega) | (simp only [maxLen,List.length_append,List.length_take,List.length_drop,List.length_cons,List.length_nil];omega)) (by rw [hb2];first | omega | (simp only [List.length_append,List.length_take,List.length_drop,List.length_cons,List.length_nil];omega))) ?_
  refine a_ FT 1 rfl (c_n ?_)
  exact Tc_retG (fun _ _ h=>h) hX rfl rfl rfl (by rw [List.nil_append])
end Go.Proofs.YtjdbopkbfkgpdaaGreatDoor
set_option linter.unusedSimpArgs false
set_option linter.unusedVariables false
namespace Go.Proofs.YtjdbopkbfkgpdaaGreatDoor
open Go Go.RowKit Rc
set_option maxRecDepth 10000 in
theorem round_p (x:Rat) (up:Bool) (bits:Int) {H:Nat} (hx:Hb x H) (hH:H < 35200) (h0:0≤bits) (h4:bits≤4096):Ctr Tryz.prog 44 [V.agg (qL (x)),V.one (Leaf.val (.bool up)),V.one (Leaf.val (.int .i64 (bits)))] (R.one (V.agg (qL (rndB x up bits)))):=by
 refine Ctr.of_body Tryz.func44 rfl Tryz.ntmps44 (Nat.le_of_ble_eq_true rfl) (fun w0 A0=>?_)
 haveI hbr:Br x 1100:=hx.limb (by omega)
 refine c_a (t_f rfl (Je_box (n:=0) rfl rfl rfl) (t_f rfl (Je_alloc (n:=1) rfl tz34 rfl) (cns (c_a (a_ FT 1 rfl ?_)))))
 by_cases hb0:bits = 0
 ·refine t_q rfl (Jq_eql rfl rfl rfl (b:=true) (eT (by omega))) (c_n (Tc_t rfl (c_a (a_ FT 2 rfl (c_n ?_)))))
  exact Tc_ret1 hq_ rfl (rA ty34 rfl rfl rfl rfl) (by unfold rndB;rw [if_pos hb0];rfl)
 ·refine t_q rfl (Jq_eql rfl rfl rfl (b:=false) (eF (by omega))) (c_n (Tc_f rfl (c_b (c_a (a_ FT 1 rfl (cns (c_a (a_ FT 1 rfl (c_n ?_)))))))))
  refine Tc_cond rfl (fun hup=>?_) (fun hup=>?_)
  ·refine Tc_region (a_ FT 1 rfl (cna (a_ FT 3 rfl (t_f rfl (Je_callV rfl rfl fn88 rfl (dup (qOf x) x (qOf_q _) (Br.use (by omega)) bits)) (a_ FT 3 rfl (Tl_eq (D.val (.int .i64 0)) (by unfold rndE;rw [if_neg (by omega)]) (t_f rfl (Je_alloc (n:=2) rfl tz117 rfl) (a_ FT 2 rfl (cns ?_)))))))))
   refine c_a (a_ FT 1 rfl (t_q rfl (Jq_neq rfl rfl rfl (b:=false) (rfl)) (c_n (Tc_f rfl (c_b (c_a (a_ FT 1 rfl (t_f rfl (Je_call rfl fn89 rfl (drat (rndD x bits (decide (0 < sg x))) (Bd.use (by omega)))) (a_ FT 1 rfl ?_)))))))))
   refine c_n ?_
   exact Tc_ret1 hq_ rfl (rA ty34 rfl rfl rfl rfl) (by unfold rndB;rw [if_neg hb0,if_pos hup];rfl)
  ·refine c_b (c_a (a_ FT 3 rfl (t_f rfl (Je_callV rfl rfl fn87 rfl (ddown (qOf x) x (qOf_q _) (Br.use (by omega)) bits)) (a_ FT 3 rfl (Tl_eq (D.val (.int .i64 0)) (by unfold rndE;rw [if_neg (by omega)]) (t_f rfl (Je_alloc (n:=2) rfl tz117 rfl) (a_ FT 2 rfl (cns (c_a ?_)))))))))
   refine a_ FT 1 rfl (t_q rfl (Jq_neq rfl rfl rfl (b:=false) (rfl)) (c_n (Tc_f rfl (c_b (c_a (a_ FT 1 rfl (t_f rfl (Je_call rfl fn89 rfl (drat (rndD x bits (decide (sg x < 0))) (Bd.use (by omega)))) (a_ FT 1 rfl (c_n ?_)))))))))
   exact Tc_ret1 hq_ rfl (rA ty34 rfl rfl rfl rfl) (by unfold rndB;rw [if_neg hb0,if_neg (by rw [hup];decide)];rfl)
set_option maxRecDepth 10000 in
set_option maxHeartbeats 2000000 in
theorem drun (d:Dom) (hdm:DomOk d) (tD fL:Nat) (cs:List Value) (hone:cs.all Value.oneCell' = true) (hm:methF Tryz.prog tD "Lower" = some fL) (hfL:FnOk Tryz.prog fL) (hL:∀ (s:Sc) (f:Af),SOk s→FOk 3 (s.q.g.inp + s.q.g.us.length) f→Ctr Tryz.prog fL [V.agg (vals cs),scV s,afV f] (R.tup [qV (qOf (d s f).1),V.one (El.row muE (d s f).2.1),V.one (Leaf.val (.bool (d s f).2.2))])) (s:Sc) (hs:SOk s) (h80:s.lems.length≤80) (bits:Int) (h0:0≤bits) (h4:bits≤4096):Ctr Tryz.prog 12 [V.one (Leaf.val (ifV tD cs)),scV s,V.one (Leaf.val (.int .i64 (bits)))] (R.tup [scV (runM d s bits),V.one (Leaf.val (.int .i64 0))]):=by
 refine Ctr.of_body Tryz.func12 rfl Tryz.ntmps12 (Nat.le_of_ble_eq_true rfl) (fun w0 A0=>?_)
 have hq:=hs.q;have hd:=hs.d;have hpl:=hs.pl;have hB:=hs.B;have hll:=hs.ll
 have hg:=hq.g;have hr:=hq.r;have hlo:=hr.lo;have hhi:=hr.hi
 have g1:=hg.i1;have g2:=hg.i3;have g3:=hg.u4;have g4:=hg.o1;have g5:=hg.o3
 refine c_a (t_f rfl (Je_box (n:=0) rfl rfl rfl) (t_f rfl (Je_box (n:=1) rfl rfl rfl) (t_f rfl (Je_box (n:=2) rfl rfl rfl) (t_f rfl (Je_alloc (n:=3) rfl tz42 rfl) (a_ FT 1 rfl (cns (c_a (a_ FT 1 rfl (t_q rfl (Jq_eql_if rfl rfl rfl (by kernel_rfl)) ?_)))))))))
 refine a_ FT 3 rfl (Tl_e (JO_eg rfl rfl rfl rfl (Je_call rfl fn36 rfl (qvalid_p s.q hq))) rfl rfl (a_ FT 4 rfl (t_g rfl rfl rfl rfl (Jq_lss rfl rfl rfl (b:=false) (dF (by omega))) (a_ FT 3 rfl (t_g rfl rfl rfl rfl (Jq_gtr rfl rfl rfl (b:=false) (dF (by omega))) (a_ FT 1 rfl (c_n (Tc_f rfl (c_b ?_)))))))))
 refine Tc_seq (Tc_norm [(3,some (D.ptr 0 0)),(4,some (D.ptr 1 0)),(5,some (D.ptr 2 0)),(6,some (D.ptr 3 0))] [hb_ 83 [Leaf.val (ifV tD cs)],hb_ 42 (scL s),hb_ 3 [Leaf.val (.int .i64 bits)],hb_ 42 scZ] ⟨rfl,rfl,rfl,rfl,trivial⟩ rfl (Tc_drawK 1 [none,none,none,none,none,some 4,none,some 1,none,some 1] [4,1] follows (by kernel_rfl) (d_ FT 1 rfl ?_)))
 refine DK_qp [4] (JO_q rfl rfl (Jq_load rfl rfl rfl (by decide) ty39 rfl)) (by kernel_rfl) (DK_c rfl rfl (Jd_call rfl fn37 rfl (clone_dc s.path (by omega))) (d_ FT 1 rfl (DK_qp [4] (JO_q rfl rfl (Jq_load rfl rfl rfl (by decide) ty40 rfl)) (by kernel_rfl) (DK_s 4 rfl rfl rfl (Jd_callG (i:=4) rfl fn38 rfl (clone_lm s.lems (by omega)) (by decide) rfl) (d_ FT 1 rfl ?_)))))
 refine DK_s 1 rfl rfl rfl (Jd_store rfl rfl rfl rfl ty39 rfl (by decide) (Nat.le_of_ble_eq_true rfl) rfl) (d_ FT 1 rfl (DK_s 1 rfl rfl rfl (Jd_store rfl rfl rfl rfl ty40 rfl (by decide) (Nat.le_of_ble_eq_true rfl) rfl) (DK_nil (At_then (Tc_seq (Tc_seq ?_))))))
 refine Tc_norm [(3,some (D.ptr 0 0)),(4,some (D.ptr 1 0)),(5,some (D.ptr 2 0)),(6,some (D.ptr 3 0))] [hb_ 83 [Leaf.val (ifV tD cs)],hb_ 42 (quL s.q ++ [El.row dcE s.path,Leaf.own 4 0]),hb_ 3 [Leaf.val (.int .i64 bits)],hb_ 42 scZ,hgr 64 6 lmE s.lems 0] ⟨rfl,rfl,rfl,rfl,trivial⟩ rfl ?_
 refine Tc_pin 0 rfl (fun q1=>?_)
 refine Tc_pin 1 rfl (fun q2=>?_)
 refine Tc_pin 2 rfl (fun q3=>?_)
 refine Tc_region (a_ FT 4 rfl (t_q rfl (Jq_len rfl rfl un24) (a_ FT 1 rfl (c_n (Tc_block ?_)))))
 refine Tc_loopR (fun m Γ H=>∃ (i:Nat) (n:Nat) (out:List Lm),s.q.g.us.length - i = m∧Γ = [(3,some (D.ptr 0 0)),(4,some (D.ptr 1 0)),(5,some (D.ptr 2 0)),(6,some (D.ptr 3 0)),(39,some (D.v (V.one (El.row afE s.q.g.us)))),(40,some (D.val (.int .i64 ((s.q.g.us.length:Nat):Int)))),(41,some (D.val (.int .i64 ((i:Nat):Int))))]∧H = [hbq 83 [Leaf.val (ifV tD cs)] q1,hbq 42 (quL s.q ++ [El.row dcE s.path,Leaf.own 4 n]) q2,hbq 3 [Leaf.val (.int .i64 bits)] q3,hb_ 42 scZ,hgr 64 6 lmE out n]∧i≤s.q.g.us.length∧out = Rc.runN d s bits i) ⟨0,0,s.lems,rfl,rfl,rfl,Nat.zero_le _,rfl⟩ ⟨rfl,rfl,rfl,rfl,rfl,rfl,rfl,trivial⟩ ?_
 rintro m Γ H ⟨i,n,out,rfl,rfl,rfl,hi0,hout⟩
 refine c_a ?_
 by_cases hi:i < s.q.g.us.length
 ·refine t_q rfl (Jq_lss rfl rfl rfl (b:=true) (dT (by omega))) (cns (Tc_t rfl (c_b (Tc_seq (Tc_block (Tc_seq ?_))))))
  obtain ⟨p,hp⟩:∃ p,s.q.g.us[i]? = some p:=⟨_,List.getElem?_eq_getElem hi⟩
  have hso:=runN_sok hdm hs h80 (bits:=bits) (n:=i) (by omega)
  have hln:=(runN_ok hdm hs h80 bits i (by omega)).2
  rw [← hout] at hso hln
  have hpf:=hq.g.us i p hp
  have hpf2:FOk 3 (s.q.g.inp + s.q.g.us.length) p:=hpf.mono (Nat.le_refl _) (by omega)
  have hnf:=hpf.neg
  have hnf2:=hpf2.neg
  have hpl_:=hpf2.fl
  haveI:=hpl_.fm (by omega);haveI:=hpl_.cb
  have hK:=KB_le (j:=i) (by omega)
  have hrA:=runA_ok hdm hs (bits:=bits) hso hp
  refine Tc_norm [(3,some (D.ptr 0 0)),(4,some (D.ptr 1 0)),(5,some (D.ptr 2 0)),(6,some (D.ptr 3 0)),(39,some (D.v (V.one (El.row afE s.q.g.us)))),(40,some (D.val (.int .i64 ((s.q.g.us.length:Nat):Int)))),(41,some (D.val (.int .i64 ((i:Nat):Int))))] [hbq 83 [Leaf.val (ifV tD cs)] q1,hbq 42 (quL s.q ++ [El.row dcE s.path,Leaf.own 4 n]) q2,hbq 3 [Leaf.val (.int .i64 bits)] q3,hb_ 42 scZ,hgr 64 6 lmE out n] ⟨rfl,rfl,rfl,rfl,rfl,rfl,rfl,trivial⟩ rfl ?_
  refine Tc_region (a_ FT 1 rfl (t_q rfl (Jq_indexX afE s.q.g.us (i) rfl rfl rfl un24 ty36 hp) (t_q rfl (Jq_load_ref_agg rfl rfl ty36 rfl) (t_f rfl (Je_alloc (n:=5) rfl tz3 rfl) (t_f rfl (Je_alloc (n:=6) rfl tz36 rfl) (a_ FT 2 rfl (cns ?_)))))))
  refine Tc_pin 5 rfl (fun q6=>?_)
  refine Tc_pin 6 rfl (fun q7=>?_)
  refine Tc_region ?_
  refine t_f rfl (Je_makeFunc (vs:=[.pointer (some ⟨q7,0,none⟩),.pointer (some ⟨q1,0,none⟩),.pointer (some ⟨q2,0,none⟩),.pointer (some ⟨q6,0,none⟩),.pointer (some ⟨q3,0,none⟩)]) rfl ⟨⟨_,rfl,.inr ⟨_,_,_,rfl,rfl,rfl,rfl,rfl⟩⟩,⟨_,rfl,.inr ⟨_,_,_,rfl,rfl,rfl,rfl,rfl⟩⟩,⟨_,rfl,.inr ⟨_,_,_,rfl,rfl,rfl,rfl,rfl⟩⟩,⟨_,rfl,.inr ⟨_,_,_,rfl,rfl,rfl,rfl,rfl⟩⟩,⟨_,rfl,.inr ⟨_,_,_,rfl,rfl,rfl,rfl,rfl⟩⟩,trivial⟩) ?_
  refine a_ FT 1 rfl (cns ?_)
  refine Tc_norm [(3,some (D.ptr 0 0)),(4,some (D.ptr 1 0)),(5,some (D.ptr 2 0)),(6,some (D.ptr 3 0)),(10,some (D.val (.func (.func 39) #[] #[.pointer (some ⟨q7,0,none⟩),.pointer (some ⟨q1,0,none⟩),.pointer (some ⟨q2,0,none⟩),.pointer (some ⟨q6,0,none⟩),.pointer (some ⟨q3,0,none⟩)]))),(39,some (D.v (V.one (El.row afE s.q.g.us)))),(40,some (D.val (.int .i64 ((s.q.g.us.length:Nat):Int)))),(41,some (D.val (.int .i64 ((i:Nat):Int))))] [hbq 83 [Leaf.val (ifV tD cs)] q1,hbq 42 (quL s.q ++ [El.row dcE s.path,Leaf.own 4 n]) q2,hbq 3 [Leaf.val (.int .i64 bits)] q3,hb_ 42 scZ,hgr 64 6 lmE out n,hbq 3 [Leaf.val (.int .i64 ((i:Nat):Int))] q6,hbq 36 (afL p) q7] ⟨rfl,rfl,rfl,rfl,rfl,rfl,rfl,rfl,trivial⟩ rfl ?_
  refine Tc_region (a_ FT 1 rfl ?_)
  refine Tl_inlineF (dc:=[D.ptr 6 0,D.ptr 0 0,D.ptr 1 0,D.ptr 5 0,D.ptr 2 0]) rfl rfl rfl ⟨.inr ⟨_,_,_,rfl,rfl,rfl,rfl,rfl⟩,.inr ⟨_,_,_,rfl,rfl,rfl,rfl,rfl⟩,.inr ⟨_,_,_,rfl,rfl,rfl,rfl,rfl⟩,.inr ⟨_,_,_,rfl,rfl,rfl,rfl,rfl⟩,.inr ⟨_,_,_,rfl,rfl,rfl,rfl,rfl⟩,trivial⟩ Tryz.func39 rfl rfl Tryz.ntmps39 (Nat.le_of_ble_eq_true rfl) rfl (fun a8 d8 s8=>?_)
  refine c_a (a_ FT 1 rfl (t_f rfl (Je_alloc (n:=7) rfl tz36 rfl) (a_ FT 1 rfl (cns (c_a (a_ FT 1 rfl (c_n (Tc_f rfl (c_b ?_)))))))))
  refine c_a (a_ FT 1 rfl ?_)
  refine t_q rfl (Jq_view (r:=4) (n:=n) (x:=V.agg (quL s.q ++ [El.row dcE s.path,Leaf.own 4 n])) (x':=V.agg (quL s.q ++ [El.row dcE s.path,El.row lmE out])) (Jq_load_agg rfl rfl rfl (by decide) ty42 (by decide) (Nat.le_of_ble_eq_true rfl) rfl) (RowAt.ofE lmE out rfl (by decide)) (by decide) ⟨.inl rfl,.inl rfl,.inl rfl,.inl rfl,.inl rfl,.inl rfl,.inl rfl,.inl rfl,.inl rfl,.inl rfl,.inl rfl,.inr ⟨rfl,rfl⟩,trivial⟩) ?_
  refine a_ FT 1 rfl (t_f rfl (Je_invoke rfl rfl hm hfL rfl (hL (withL s out) p hso hpf2) hone) (a_ FT 4 rfl (t_f rfl (Je_alloc (n:=8) rfl tz34 rfl) (a_ FT 3 rfl (cns (c_a (a_ FT 2 rfl (c_n ?_))))))))
  refine Tc_cond rfl (fun hb1n=>?_) (fun hb1n=>?_)
  ·refine Tc_retI0 [(3,some (D.ptr 0 0)),(4,some (D.ptr 1 0)),(5,some (D.ptr 2 0)),(6,some (D.ptr 3 0)),(10,some (D.val (.func (.func 39) #[] #[.pointer (some ⟨q7,0,none⟩),.pointer (some ⟨q1,0,none⟩),.pointer (some ⟨q2,0,none⟩),.pointer (some ⟨q6,0,none⟩),.pointer (some ⟨q3,0,none⟩)]))),(39,some (D.v (V.one (El.row afE s.q.g.us)))),(40,some (D.val (.int .i64 ((s.q.g.us.length:Nat):Int)))),(41,some (D.val (.int .i64 ((i:Nat):Int))))] (fun _ _ h=>h) d8 s8 rfl rfl ⟨rfl,rfl,rfl,rfl,rfl,rfl,rfl,rfl,trivial⟩ ?_
   refine c_n ?_
   have hA:runA d s bits out i p = out:=by unfold runA;rw [sideN_f1 (by have h:(d (withL s out) p).2.2 = false:=(by simpa using hb1n);exact h),List.append_nil]
   have hso1:SOk (withL s out):=by rw [← hA];exact LOk.withL hs hrA.1 (by have:=hrA.2;have hl2:out.length≤s.lems.length + 2 * i:=hln;omega)
   refine Tc_region (a_ FT 1 rfl ?_)
   refine Tl_inlineF (dc:=[D.ptr 6 0,D.ptr 0 0,D.ptr 1 0,D.ptr 5 0,D.ptr 2 0]) rfl rfl rfl ⟨.inr ⟨_,_,_,rfl,rfl,rfl,rfl,rfl⟩,.inr ⟨_,_,_,rfl,rfl,rfl,rfl,rfl⟩,.inr ⟨_,_,_,rfl,rfl,rfl,rfl,rfl⟩,.inr ⟨_,_,_,rfl,rfl,rfl,rfl,rfl⟩,.inr ⟨_,_,_,rfl,rfl,rfl,rfl,rfl⟩,trivial⟩ Tryz.func39 rfl rfl Tryz.ntmps39 (Nat.le_of_ble_eq_true rfl) rfl (fun a9 d9 s9=>?_)
   refine c_a (a_ FT 1 rfl (t_f rfl (Je_alloc (n:=9) rfl tz36 rfl) (a_ FT 1 rfl (cns (c_a (a_ FT 1 rfl (c_n (Tc_t rfl (Tc_drawK 0 [none,none,none,some 9] [9] follows (by kernel_rfl) ?_)))))))))
   refine d_ FT 1 rfl (DK_c rfl rfl (Jd_call rfl fn41 rfl (qof_spec (-1) (by decide) (by decide))) (DK_c rfl rfl (Jd_call rfl fn40 rfl (scale_p p ((-1:Int):Rat) hpl_ (by omega) (by omega) (by omega))) (DK_s 9 rfl rfl rfl (Jd_store rfl rfl rfl rfl ty36 rfl (by decide) (Nat.le_of_ble_eq_true rfl) rfl) (DK_nil (At_then (c_a (a_ FT 1 rfl ?_)))))))
   refine t_q rfl (Jq_view (r:=4) (n:=n) (x:=V.agg (quL s.q ++ [El.row dcE s.path,Leaf.own 4 n])) (x':=V.agg (quL s.q ++ [El.row dcE s.path,El.row lmE out])) (Jq_load_agg rfl rfl rfl (by decide) ty42 (by decide) (Nat.le_of_ble_eq_true rfl) rfl) (RowAt.ofE lmE out rfl (by decide)) (by decide) ⟨.inl rfl,.inl rfl,.inl rfl,.inl rfl,.inl rfl,.inl rfl,.inl rfl,.inl rfl,.inl rfl,.inl rfl,.inl rfl,.inr ⟨rfl,rfl⟩,trivial⟩) ?_
   refine a_ FT 1 rfl (t_f rfl (Je_invoke rfl rfl hm hfL rfl (hL (withL s out) (negF p) hso1 hnf2) hone) (a_ FT 4 rfl (t_f rfl (Je_alloc (n:=10) rfl tz34 rfl) (a_ FT 3 rfl (cns (c_a (a_ FT 2 rfl (c_n ?_))))))))
   refine Tc_cond rfl (fun hb2n=>?_) (fun hb2n=>?_)
   ·refine Tc_retI0 [(3,some (D.ptr 0 0)),(4,some (D.ptr 1 0)),(5,some (D.ptr 2 0)),(6,some (D.ptr 3 0)),(39,some (D.v (V.one (El.row afE s.q.g.us)))),(40,some (D.val (.int .i64 ((s.q.g.us.length:Nat):Int)))),(41,some (D.val (.int .i64 ((i:Nat):Int))))] (fun _ _ h=>h) d9 s9 rfl rfl ⟨rfl,rfl,rfl,rfl,rfl,rfl,rfl,trivial⟩ (Tl_end (At_block (At_then (Tc_region ?_))))
    refine t_q rfl (Jq_add rfl rfl rfl (r:=((i + 1:Nat):Int)) (w64 (by omega) (by omega) (by omega))) (a_ FT 1 rfl (Tl_end (At_free 5 (At_free 6 (At_free 7 (At_free 8 (At_free 9 (At_free 10 (trim_ 5 rfl ?_)))))))))
    exact At_next (m':=s.q.g.us.length - (i + 1)) (by omega) ⟨i + 1,_,_,rfl,rfl,rfl,hi,by rw [runN_get hp,← hout,hA,sideN_f1 (by have h:(d (withL s out) (negF p)).2.2 = false:=(by simpa using hb2n);exact h)];simp only [List.append_nil]⟩ ⟨rfl,rfl,rfl,rfl,rfl,rfl,rfl,trivial⟩
   ·refine c_b (Tc_seq ?_)
    have hb2:(d (withL s out) (negF p)).2.2 = true:=by simpa using hb2n
    haveI h1hb2:Hb (d (withL s out) (negF p)).1 (KB i - 4200):=hdm (withL s out) hso1 i (negF p) (by exact hi) (by exact hnf) (by exact hb2)
    have h2hb2:Hb (-(d (withL s out) (negF p)).1) (KB i - 4200):=Hb.neg
    haveI h3hb2:Br (d (withL s out) (negF p)).1 34402:=h1hb2.limb (by omega)
    haveI:Br (rndB (-(d (withL s out) (negF p)).1) true bits) 38501:=((rndB_hb (up:=true) (bits:=bits) h2hb2 (by omega)).mono (show _≤38500 by omega)).br
    have hso_B_2:∀ m∈out,Fq m.v 34401:=hso1.B
    have hso_L_2:(out).length≤100:=hso1.ll
    refine Tc_region ?_
    refine t_q rfl (Jq_view (r:=4) (n:=n) (x:=V.agg (quL s.q ++ [El.row dcE s.path,Leaf.own 4 n])) (x':=V.agg (quL s.q ++ [El.row dcE s.path,El.row lmE out])) (Jq_load_agg rfl rfl rfl (by decide) ty42 (by decide) (Nat.le_of_ble_eq_true rfl) rfl) (RowAt.ofE lmE out rfl (by decide)) (by decide) ⟨.inl rfl,.inl rfl,.inl rfl,.inl rfl,.inl rfl,.inl rfl,.inl rfl,.inl rfl,.inl rfl,.inl rfl,.inl rfl,.inr ⟨rfl,rfl⟩,trivial⟩) ?_
    refine a_ FT 1 rfl (t_f rfl (Je_call rfl fn42 rfl (best_p (withL s out) hso_B_2 (by omega) (by show (out).length≤_;omega) ((i:Nat):Int))) (a_ FT 5 rfl (cns (Tc_free 7 (Tc_free 8 (Tc_free 9 ?_))))))
    refine Tc_norm [(0,some (D.bool true)),(3,some (D.ptr 1 0)),(4,some (D.ptr 5 0)),(5,some (D.ptr 2 0)),(8,some (D.ptr 10 0)),(9,some (D.v (V.one (El.row muE ((d (withL s out) (negF p)).2.1))))),(11,some (D.val (.int .i64 (((best out ((i:Nat):Int)).1:Nat):Int)))),(12,some (D.val (.int .i64 (((best out ((i:Nat):Int)).2:Nat):Int)))),(2003,some (D.ptr 0 0)),(2004,some (D.ptr 1 0)),(2005,some (D.ptr 2 0)),(2006,some (D.ptr 3 0)),(2039,some (D.v (V.one (El.row afE s.q.g.us)))),(2040,some (D.val (.int .i64 ((s.q.g.us.length:Nat):Int)))),(2041,some (D.val (.int .i64 ((i:Nat):Int))))] [hbq 83 [Leaf.val (ifV tD cs)] q1,hbq 42 (quL s.q ++ [El.row dcE s.path,Leaf.own 4 n]) q2,hbq 3 [Leaf.val (.int .i64 bits)] q3,hb_ 42 scZ,hgr 64 6 lmE out n,hbq 3 [Leaf.val (.int .i64 ((i:Nat):Int))] q6,hbq 36 (afL p) q7,none,none,none,hb_ 34 (qL ((d (withL s out) (negF p)).1))] ⟨rfl,rfl,rfl,rfl,rfl,rfl,rfl,rfl,rfl,rfl,rfl,rfl,rfl,rfl,rfl,trivial⟩ rfl ?_
    refine Tc_region (a_ FT 3 rfl (cns (c_a (a_ FT 1 rfl (c_n (Tc_t rfl (Tc_region (a_ FT 1 rfl (t_f rfl (Je_call rfl fn43 rfl (qneg (qOf ((d (withL s out) (negF p)).1)) ((d (withL s out) (negF p)).1) (qOf_q _) (Br.use (by omega)))) ?_)))))))))
    refine a_ FT 4 rfl (cns ?_)
    refine Tc_norm [(0,some (D.bool true)),(3,some (D.ptr 1 0)),(4,some (D.ptr 5 0)),(5,some (D.ptr 2 0)),(8,some (D.ptr 10 0)),(9,some (D.v (V.one (El.row muE ((d (withL s out) (negF p)).2.1))))),(13,some (D.val (.int .i64 (((best out ((i:Nat):Int)).2:Nat):Int)))),(14,some (D.val (.int .i64 (-1)))),(2003,some (D.ptr 0 0)),(2004,some (D.ptr 1 0)),(2005,some (D.ptr 2 0)),(2006,some (D.ptr 3 0)),(2039,some (D.v (V.one (El.row afE s.q.g.us)))),(2040,some (D.val (.int .i64 ((s.q.g.us.length:Nat):Int)))),(2041,some (D.val (.int .i64 ((i:Nat):Int))))] [hbq 83 [Leaf.val (ifV tD cs)] q1,hbq 42 (quL s.q ++ [El.row dcE s.path,Leaf.own 4 n]) q2,hbq 3 [Leaf.val (.int .i64 bits)] q3,hb_ 42 scZ,hgr 64 6 lmE out n,hbq 3 [Leaf.val (.int .i64 ((i:Nat):Int))] q6,hbq 36 (afL p) q7,none,none,none,hb_ 34 (qL (-((d (withL s out) (negF p)).1)))] ⟨rfl,rfl,rfl,rfl,rfl,rfl,rfl,rfl,rfl,rfl,rfl,rfl,rfl,rfl,rfl,trivial⟩ rfl ?_
    refine Tc_region (a_ FT 3 rfl (t_f rfl (Je_call rfl fn44 rfl (round_p (-(d (withL s out) (negF p)).1) true bits h2hb2 (by omega) h0 h4)) (a_ FT 1 rfl (c_n ?_))))
    refine Tc_meet (Γ':=[(0,some (D.bool true)),(3,some (D.ptr 1 0)),(4,some (D.ptr 5 0)),(8,some (D.ptr 10 0)),(9,some (D.v (V.one (El.row muE ((d (withL s out) (negF p)).2.1))))),(59,some (D.bool (strong out i true (rndB (-(d (withL s out) (negF p)).1) true bits)))),(2003,some (D.ptr 0 0)),(2004,some (D.ptr 1 0)),(2005,some (D.ptr 2 0)),(2006,some (D.ptr 3 0)),(2039,some (D.v (V.one (El.row afE s.q.g.us)))),(2040,some (D.val (.int .i64 ((s.q.g.us.length:Nat):Int)))),(2041,some (D.val (.int .i64 ((i:Nat):Int))))]) (H':=[hbq 83 [Leaf.val (ifV tD cs)] q1,hbq 42 (quL s.q ++ [El.row dcE s.path,Leaf.own 4 n]) q2,hbq 3 [Leaf.val (.int .i64 bits)] q3,hb_ 42 scZ,hgr 64 6 lmE out n,hbq 3 [Leaf.val (.int .i64 ((i:Nat):Int))] q6,hbq 36 (afL p) q7,none,none,none,hb_ 34 (qL (rndB (-(d (withL s out) (negF p)).1) true bits))]) ?_ ?_
    ·refine Tc_drawK 0 [none,none,none,none,none,none,none,none,none,none,none,none,none,none,none] [] follows (by kernel_rfl) (d_ FT 1 rfl ?_)
     by_cases hk2:(best out ((i:Nat):Int)).2 = 0
     ·refine dq_ rfl rfl (Jq_eql rfl rfl rfl (b:=true) (eT (by omega))) (d_ FT 13 rfl (DK_is (strong out i true (rndB (-(d (withL s out) (negF p)).1) true bits)) (by exact (strong_ut (.inl hk2)).symm) (DK_nil ?_)))
      exact At_meet ⟨rfl,rfl,rfl,rfl,rfl,rfl,rfl,rfl,rfl,rfl,rfl,rfl,rfl,trivial⟩
     ·refine dq_ rfl rfl (Jq_eql rfl rfl rfl (b:=false) (eF (by omega))) (d_ FT 3 rfl ?_)
      obtain ⟨y,hy,_,_,hly,hy0,hyl⟩:=best_hi hk2
      haveI hyB:=hso_B_2 y (List.mem_of_getElem? hy)
      refine DK_q (JO_qg rfl rfl rfl rfl (Jq_view (r:=4) (n:=n) (x:=V.one (Leaf.own 4 n)) (x':=V.one (El.row lmE out)) (Jq_load rfl rfl rfl (by decide) ty40 rfl) (RowAt.ofE lmE out rfl (by decide)) (by decide) (.inr ⟨rfl,rfl⟩))) (d_ FT 1 rfl ?_)
      refine DK_q (JO_qg rfl rfl rfl rfl (Jq_sub rfl rfl rfl (r:=(((best out ((i:Nat):Int)).2 - 1:Nat):Int)) (w64 (by omega) (by omega) (by omega)))) (DK_q (JO_qg rfl rfl rfl rfl (Jq_indexX lmE out ((best out ((i:Nat):Int)).2 - 1) rfl rfl rfl un40 ty64 hy)) (DK_q (JO_qg rfl rfl rfl rfl (Jq_fieldAddr_refT rfl rfl fo64_2 rfl rfl)) ?_))
      refine DK_q (JO_qg rfl rfl rfl rfl (Jq_load_ref_agg rfl rfl ty34 rfl)) (DK_cg rfl rfl rfl rfl (Jd_call rfl fn45 rfl (qcmp (qOf ((rndB (-(d (withL s out) (negF p)).1) true bits))) ((rndB (-(d (withL s out) (negF p)).1) true bits)) (qOf_q _) (Br.use (by omega)) y.v (y.v.q) rfl (Fq.use (x:=y.v) (by omega)))) (d_ FT 1 rfl ?_))
      by_cases hc2:rndB (-(d (withL s out) (negF p)).1) true bits < lv out (best out ((i:Nat):Int)).2
      ·refine DK_q (JO_qg rfl rfl rfl rfl (Jq_eql rfl rfl rfl (b:=true) (eT (by rw [cmpq_lt1,← hly];exact hc2)))) (d_ FT 1 rfl (DK_is (strong out i true (rndB (-(d (withL s out) (negF p)).1) true bits)) (by exact (strong_ut (.inr hc2)).symm) (DK_nil ?_)))
       exact At_meet ⟨rfl,rfl,rfl,rfl,rfl,rfl,rfl,rfl,rfl,rfl,rfl,rfl,rfl,trivial⟩
      ·refine DK_q (JO_qg rfl rfl rfl rfl (Jq_eql rfl rfl rfl (b:=false) (eF (fun e=>hc2 (by rw [hly];exact cmpq_lt1.1 e))))) (d_ FT 1 rfl (DK_is (strong out i true (rndB (-(d (withL s out) (negF p)).1) true bits)) (by exact (strong_uf hk2 hc2).symm) (DK_nil ?_)))
       exact At_meet ⟨rfl,rfl,rfl,rfl,rfl,rfl,rfl,rfl,rfl,rfl,rfl,rfl,rfl,trivial⟩
    ·refine Tc_cond rfl (fun hs2=>?_) (fun hs2=>?_)
     ·refine Tc_region (a_ FT 6 rfl (t_q rfl (Jq_build rfl tz64 rfl pl64 rfl) (t_f rfl (Je_buildSlice rfl un40 ty64 tz64 rfl (by decide) (by decide) rfl (by decide) rfl) ?_)))
      obtain ⟨ti12,hi12,hz12,hs12,hb12⟩:=in64
      refine t_f rfl (Je_appendR lmE out (⟨((i:Nat):Int),true,(qOf ((rndB (-(d (withL s out) (negF p)).1) true bits))),(d (withL s out) (negF p)).2.1⟩) rfl rfl rfl rfl (by decide) un40 un40 hi12 hz12 hs12 rfl (by first | (simp only [maxLen];omega) | (simp only [maxLen,List.length_append,List.length_take,List.length_drop,List.length_cons,List.length_nil];omega)) (by rw [hb12];first | omega | (simp only [List.length_append,List.length_take,List.length_drop,List.length_cons,List.length_nil];omega))) ?_
      refine a_ FT 2 rfl (Tl_end (At_retI0 [(3,some (D.ptr 0 0)),(4,some (D.ptr 1 0)),(5,some (D.ptr 2 0)),(6,some (D.ptr 3 0)),(39,some (D.v (V.one (El.row afE s.q.g.us)))),(40,some (D.val (.int .i64 ((s.q.g.us.length:Nat):Int)))),(41,some (D.val (.int .i64 ((i:Nat):Int))))] d9 s9 rfl rfl ⟨rfl,rfl,rfl,rfl,rfl,rfl,rfl,trivial⟩ (Tl_end (At_block (At_then ?_)))))
      refine Tc_region (t_q rfl (Jq_add rfl rfl rfl (r:=((i + 1:Nat):Int)) (w64 (by omega) (by omega) (by omega))) (a_ FT 1 rfl (Tl_end (At_free 5 (At_free 6 (At_free 10 (trim_ 5 rfl ?_)))))))
      exact At_next (m':=s.q.g.us.length - (i + 1)) (by omega) ⟨i + 1,_,_,rfl,rfl,rfl,hi,by rw [runN_get hp,← hout,hA,sideN_t (by exact hb2) (by exact hs2)];rfl⟩ ⟨rfl,rfl,rfl,rfl,rfl,rfl,rfl,trivial⟩
     ·refine Tc_skipA (At_retI0 [(3,some (D.ptr 0 0)),(4,some (D.ptr 1 0)),(5,some (D.ptr 2 0)),(6,some (D.ptr 3 0)),(39,some (D.v (V.one (El.row afE s.q.g.us)))),(40,some (D.val (.int .i64 ((s.q.g.us.length:Nat):Int)))),(41,some (D.val (.int .i64 ((i:Nat):Int))))] d9 s9 rfl rfl ⟨rfl,rfl,rfl,rfl,rfl,rfl,rfl,trivial⟩ (Tl_end (At_block (At_then (Tc_region ?_)))))
      refine t_q rfl (Jq_add rfl rfl rfl (r:=((i + 1:Nat):Int)) (w64 (by omega) (by omega) (by omega))) (a_ FT 1 rfl (Tl_end (At_free 5 (At_free 6 (At_free 10 (trim_ 5 rfl ?_))))))
      exact At_next (m':=s.q.g.us.length - (i + 1)) (by omega) ⟨i + 1,_,_,rfl,rfl,rfl,hi,by rw [runN_get hp,← hout,hA,sideN_f2 (by exact hs2)];simp only [List.append_nil]⟩ ⟨rfl,rfl,rfl,rfl,rfl,rfl,rfl,trivial⟩
  ·refine c_b (Tc_seq ?_)
   have hb1:(d (withL s out) p).2.2 = true:=by simpa using hb1n
   haveI h1hb1:Hb (d (withL s out) p).1 (KB i - 4200):=hdm (withL s out) hso i p (by exact hi) (by exact hpf) (by exact hb1)
   have h2hb1:=h1hb1
   haveI h3hb1:Br (d (withL s out) p).1 34402:=h1hb1.limb (by omega)
   haveI:Br (rndB (d (withL s out) p).1 false bits) 38501:=((rndB_hb (up:=false) (bits:=bits) h2hb1 (by omega)).mono (show _≤38500 by omega)).br
   have hso_B_1:∀ m∈out,Fq m.v 34401:=hso.B
   have hso_L_1:(out).length≤100:=hso.ll
   refine Tc_region ?_
   refine t_q rfl (Jq_view (r:=4) (n:=n) (x:=V.agg (quL s.q ++ [El.row dcE s.path,Leaf.own 4 n])) (x':=V.agg (quL s.q ++ [El.row dcE s.path,El.row lmE out])) (Jq_load_agg rfl rfl rfl (by decide) ty42 (by decide) (Nat.le_of_ble_eq_true rfl) rfl) (RowAt.ofE lmE out rfl (by decide)) (by decide) ⟨.inl rfl,.inl rfl,.inl rfl,.inl rfl,.inl rfl,.inl rfl,.inl rfl,.inl rfl,.inl rfl,.inl rfl,.inl rfl,.inr ⟨rfl,rfl⟩,trivial⟩) ?_
   refine a_ FT 1 rfl (t_f rfl (Je_call rfl fn42 rfl (best_p (withL s out) hso_B_1 (by omega) (by show (out).length≤_;omega) ((i:Nat):Int))) (a_ FT 5 rfl (cns (Tc_free 7 ?_))))
   refine Tc_norm [(0,some (D.bool false)),(3,some (D.ptr 1 0)),(4,some (D.ptr 5 0)),(5,some (D.ptr 2 0)),(8,some (D.ptr 8 0)),(9,some (D.v (V.one (El.row muE ((d (withL s out) p).2.1))))),(11,some (D.val (.int .i64 (((best out ((i:Nat):Int)).1:Nat):Int)))),(12,some (D.val (.int .i64 (((best out ((i:Nat):Int)).2:Nat):Int)))),(2003,some (D.ptr 0 0)),(2004,some (D.ptr 1 0)),(2005,some (D.ptr 2 0)),(2006,some (D.ptr 3 0)),(2010,some (D.val (.func (.func 39) #[] #[.pointer (some ⟨q7,0,none⟩),.pointer (some ⟨q1,0,none⟩),.pointer (some ⟨q2,0,none⟩),.pointer (some ⟨q6,0,none⟩),.pointer (some ⟨q3,0,none⟩)]))),(2039,some (D.v (V.one (El.row afE s.q.g.us)))),(2040,some (D.val (.int .i64 ((s.q.g.us.length:Nat):Int)))),(2041,some (D.val (.int .i64 ((i:Nat):Int))))] [hbq 83 [Leaf.val (ifV tD cs)] q1,hbq 42 (quL s.q ++ [El.row dcE s.path,Leaf.own 4 n]) q2,hbq 3 [Leaf.val (.int .i64 bits)] q3,hb_ 42 scZ,hgr 64 6 lmE out n,hbq 3 [Leaf.val (.int .i64 ((i:Nat):Int))] q6,hbq 36 (afL p) q7,none,hb_ 34 (qL ((d (withL s out) p).1))] ⟨rfl,rfl,rfl,rfl,rfl,rfl,rfl,rfl,rfl,rfl,rfl,rfl,rfl,rfl,rfl,rfl,trivial⟩ rfl ?_
   refine Tc_region (a_ FT 3 rfl (cns (c_a (a_ FT 1 rfl (c_n (Tc_f rfl (c_b (c_a (a_ FT 3 rfl ?_)))))))))
   refine t_f rfl (Je_call rfl fn44 rfl (round_p ((d (withL s out) p).1) false bits h2hb1 (by omega) h0 h4)) (a_ FT 1 rfl (c_n ?_))
   refine Tc_meet (Γ':=[(0,some (D.bool false)),(3,some (D.ptr 1 0)),(4,some (D.ptr 5 0)),(8,some (D.ptr 8 0)),(9,some (D.v (V.one (El.row muE ((d (withL s out) p).2.1))))),(59,some (D.bool (strong out i false (rndB (d (withL s out) p).1 false bits)))),(2003,some (D.ptr 0 0)),(2004,some (D.ptr 1 0)),(2005,some (D.ptr 2 0)),(2006,some (D.ptr 3 0)),(2010,some (D.val (.func (.func 39) #[] #[.pointer (some ⟨q7,0,none⟩),.pointer (some ⟨q1,0,none⟩),.pointer (some ⟨q2,0,none⟩),.pointer (some ⟨q6,0,none⟩),.pointer (some ⟨q3,0,none⟩)]))),(2039,some (D.v (V.one (El.row afE s.q.g.us)))),(2040,some (D.val (.int .i64 ((s.q.g.us.length:Nat):Int)))),(2041,some (D.val (.int .i64 ((i:Nat):Int))))]) (H':=[hbq 83 [Leaf.val (ifV tD cs)] q1,hbq 42 (quL s.q ++ [El.row dcE s.path,Leaf.own 4 n]) q2,hbq 3 [Leaf.val (.int .i64 bits)] q3,hb_ 42 scZ,hgr 64 6 lmE out n,hbq 3 [Leaf.val (.int .i64 ((i:Nat):Int))] q6,hbq 36 (afL p) q7,none,hb_ 34 (qL (rndB (d (withL s out) p).1 false bits))]) ?_ ?_
   ·refine Tc_norm [(0,some (D.bool false)),(3,some (D.ptr 1 0)),(4,some (D.ptr 5 0)),(8,some (D.ptr 8 0)),(9,some (D.v (V.one (El.row muE ((d (withL s out) p).2.1))))),(13,some (D.val (.int .i64 (((best out ((i:Nat):Int)).1:Nat):Int)))),(14,some (D.val (.int .i64 1))),(2003,some (D.ptr 0 0)),(2004,some (D.ptr 1 0)),(2005,some (D.ptr 2 0)),(2006,some (D.ptr 3 0)),(2010,some (D.val (.func (.func 39) #[] #[.pointer (some ⟨q7,0,none⟩),.pointer (some ⟨q1,0,none⟩),.pointer (some ⟨q2,0,none⟩),.pointer (some ⟨q6,0,none⟩),.pointer (some ⟨q3,0,none⟩)]))),(2039,some (D.v (V.one (El.row afE s.q.g.us)))),(2040,some (D.val (.int .i64 ((s.q.g.us.length:Nat):Int)))),(2041,some (D.val (.int .i64 ((i:Nat):Int))))] [hbq 83 [Leaf.val (ifV tD cs)] q1,hbq 42 (quL s.q ++ [El.row dcE s.path,Leaf.own 4 n]) q2,hbq 3 [Leaf.val (.int .i64 bits)] q3,hb_ 42 scZ,hgr 64 6 lmE out n,hbq 3 [Leaf.val (.int .i64 ((i:Nat):Int))] q6,hbq 36 (afL p) q7,none,hb_ 34 (qL (rndB (d (withL s out) p).1 false bits))] ⟨rfl,rfl,rfl,rfl,rfl,rfl,rfl,rfl,rfl,rfl,rfl,rfl,rfl,rfl,rfl,trivial⟩ rfl ?_
    refine Tc_drawK 0 [none,none,none,none,none,none,none,none,none,none,none,none,none,none,none] [] follows (by kernel_rfl) (d_ FT 1 rfl ?_)
    by_cases hk1:(best out ((i:Nat):Int)).1 = 0
    ·refine dq_ rfl rfl (Jq_eql rfl rfl rfl (b:=true) (eT (by omega))) (d_ FT 13 rfl (DK_is (strong out i false (rndB (d (withL s out) p).1 false bits)) (by exact (strong_lt (.inl hk1)).symm) (DK_nil ?_)))
     exact At_meet ⟨rfl,rfl,rfl,rfl,rfl,rfl,rfl,rfl,rfl,rfl,rfl,rfl,rfl,rfl,trivial⟩
    ·refine dq_ rfl rfl (Jq_eql rfl rfl rfl (b:=false) (eF (by omega))) (d_ FT 3 rfl ?_)
     obtain ⟨y,hy,_,_,hly,hy0,hyl⟩:=best_lo hk1
     haveI hyB:=hso_B_1 y (List.mem_of_getElem? hy)
     refine DK_q (JO_qg rfl rfl rfl rfl (Jq_view (r:=4) (n:=n) (x:=V.one (Leaf.own 4 n)) (x':=V.one (El.row lmE out)) (Jq_load rfl rfl rfl (by decide) ty40 rfl) (RowAt.ofE lmE out rfl (by decide)) (by decide) (.inr ⟨rfl,rfl⟩))) (d_ FT 1 rfl ?_)
     refine DK_q (JO_qg rfl rfl rfl rfl (Jq_sub rfl rfl rfl (r:=(((best out ((i:Nat):Int)).1 - 1:Nat):Int)) (w64 (by omega) (by omega) (by omega)))) (DK_q (JO_qg rfl rfl rfl rfl (Jq_indexX lmE out ((best out ((i:Nat):Int)).1 - 1) rfl rfl rfl un40 ty64 hy)) (DK_q (JO_qg rfl rfl rfl rfl (Jq_fieldAddr_refT rfl rfl fo64_2 rfl rfl)) ?_))
     refine DK_q (JO_qg rfl rfl rfl rfl (Jq_load_ref_agg rfl rfl ty34 rfl)) (DK_cg rfl rfl rfl rfl (Jd_call rfl fn45 rfl (qcmp (qOf ((rndB (d (withL s out) p).1 false bits))) ((rndB (d (withL s out) p).1 false bits)) (qOf_q _) (Br.use (by omega)) y.v (y.v.q) rfl (Fq.use (x:=y.v) (by omega)))) (d_ FT 1 rfl ?_))
     by_cases hc1:lv out (best out ((i:Nat):Int)).1 < rndB (d (withL s out) p).1 false bits
     ·refine DK_q (JO_qg rfl rfl rfl rfl (Jq_eql rfl rfl rfl (b:=true) (eT (by rw [cmpq_gt1,← hly];exact hc1)))) (d_ FT 1 rfl (DK_is (strong out i false (rndB (d (withL s out) p).1 false bits)) (by exact (strong_lt (.inr hc1)).symm) (DK_nil ?_)))
      exact At_meet ⟨rfl,rfl,rfl,rfl,rfl,rfl,rfl,rfl,rfl,rfl,rfl,rfl,rfl,rfl,trivial⟩
     ·refine DK_q (JO_qg rfl rfl rfl rfl (Jq_eql rfl rfl rfl (b:=false) (eF (fun e=>hc1 (by rw [hly];exact cmpq_gt1.1 e))))) (d_ FT 1 rfl (DK_is (strong out i false (rndB (d (withL s out) p).1 false bits)) (by exact (strong_lf hk1 hc1).symm) (DK_nil ?_)))
      exact At_meet ⟨rfl,rfl,rfl,rfl,rfl,rfl,rfl,rfl,rfl,rfl,rfl,rfl,rfl,rfl,trivial⟩
   ·refine Tc_cond rfl (fun hs1=>?_) (fun hs1=>?_)
    ·refine Tc_region (a_ FT 6 rfl (t_q rfl (Jq_build rfl tz64 rfl pl64 rfl) (t_f rfl (Je_buildSlice rfl un40 ty64 tz64 rfl (by decide) (by decide) rfl (by decide) rfl) ?_)))
     obtain ⟨ti15,hi15,hz15,hs15,hb15⟩:=in64
     refine t_f rfl (Je_appendR lmE out (⟨((i:Nat):Int),false,(qOf ((rndB (d (withL s out) p).1 false bits))),(d (withL s out) p).2.1⟩) rfl rfl rfl rfl (by decide) un40 un40 hi15 hz15 hs15 rfl (by first | (simp only [maxLen];omega) | (simp only [maxLen,List.length_append,List.length_take,List.length_drop,List.length_cons,List.length_nil];omega)) (by rw [hb15];first | omega | (simp only [List.length_append,List.length_take,List.length_drop,List.length_cons,List.length_nil];omega))) ?_
     refine a_ FT 2 rfl (Tl_end ?_)
     refine At_retI0 [(3,some (D.ptr 0 0)),(4,some (D.ptr 1 0)),(5,some (D.ptr 2 0)),(6,some (D.ptr 3 0)),(10,some (D.val (.func (.func 39) #[] #[.pointer (some ⟨q7,0,none⟩),.pointer (some ⟨q1,0,none⟩),.pointer (some ⟨q2,0,none⟩),.pointer (some ⟨q6,0,none⟩),.pointer (some ⟨q3,0,none⟩)]))),(39,some (D.v (V.one (El.row afE s.q.g.us)))),(40,some (D.val (.int .i64 ((s.q.g.us.length:Nat):Int)))),(41,some (D.val (.int .i64 ((i:Nat):Int))))] d8 s8 rfl rfl ⟨rfl,rfl,rfl,rfl,rfl,rfl,rfl,rfl,trivial⟩ ?_
     refine c_n ?_
     have hA:runA d s bits out i p = out ++ [(⟨(i:Int),false,qOf (rndB (d (withL s out) p).1 false bits),(d (withL s out) p).2.1⟩:Lm)]:=by unfold runA;rw [sideN_t (by exact hb1) (by exact hs1)];rfl
     have hso1:SOk (withL s (out ++ [(⟨(i:Int),false,qOf (rndB (d (withL s out) p).1 false bits),(d (withL s out) p).2.1⟩:Lm)])):=by rw [← hA];exact LOk.withL hs hrA.1 (by have:=hrA.2;have hl2:out.length≤s.lems.length + 2 * i:=hln;omega)
     refine Tc_region (a_ FT 1 rfl ?_)
     refine Tl_inlineF (dc:=[D.ptr 6 0,D.ptr 0 0,D.ptr 1 0,D.ptr 5 0,D.ptr 2 0]) rfl rfl rfl ⟨.inr ⟨_,_,_,rfl,rfl,rfl,rfl,rfl⟩,.inr ⟨_,_,_,rfl,rfl,rfl,rfl,rfl⟩,.inr ⟨_,_,_,rfl,rfl,rfl,rfl,rfl⟩,.inr ⟨_,_,_,rfl,rfl,rfl,rfl,rfl⟩,.inr ⟨_,_,_,rfl,rfl,rfl,rfl,rfl⟩,trivial⟩ Tryz.func39 rfl rfl Tryz.ntmps39 (Nat.le_of_ble_eq_true rfl) rfl (fun a16 d16 s16=>?_)
     refine c_a (a_ FT 1 rfl (t_f rfl (Je_alloc (n:=9) rfl tz36 rfl) (a_ FT 1 rfl (cns (c_a (a_ FT 1 rfl (c_n (Tc_t rfl (Tc_drawK 0 [none,none,none,some 9] [9] follows (by kernel_rfl) ?_)))))))))
     refine d_ FT 1 rfl (DK_c rfl rfl (Jd_call rfl fn41 rfl (qof_spec (-1) (by decide) (by decide))) (DK_c rfl rfl (Jd_call rfl fn40 rfl (scale_p p ((-1:Int):Rat) hpl_ (by omega) (by omega) (by omega))) (DK_s 9 rfl rfl rfl (Jd_store rfl rfl rfl rfl ty36 rfl (by decide) (Nat.le_of_ble_eq_true rfl) rfl) (DK_nil (At_then (c_a (a_ FT 1 rfl ?_)))))))
     refine t_q rfl (Jq_view (r:=4) (n:=(n + 1)) (x:=V.agg (quL s.q ++ [El.row dcE s.path,Leaf.own 4 (n + 1)])) (x':=V.agg (quL s.q ++ [El.row dcE s.path,El.row lmE (out ++ [⟨((i:Nat):Int),false,(qOf ((rndB (d (withL s out) p).1 false bits))),(d (withL s out) p).2.1⟩])])) (Jq_load_agg rfl rfl rfl (by decide) ty42 (by decide) (Nat.le_of_ble_eq_true rfl) rfl) (RowAt.ofE lmE (out ++ [⟨((i:Nat):Int),false,(qOf ((rndB (d (withL s out) p).1 false bits))),(d (withL s out) p).2.1⟩]) rfl (by decide)) (by decide) ⟨.inl rfl,.inl rfl,.inl rfl,.inl rfl,.inl rfl,.inl rfl,.inl rfl,.inl rfl,.inl rfl,.inl rfl,.inl rfl,.inr ⟨rfl,rfl⟩,trivial⟩) ?_
     refine a_ FT 1 rfl (t_f rfl (Je_invoke rfl rfl hm hfL rfl (hL (withL s (out ++ [(⟨(i:Int),false,qOf (rndB (d (withL s out) p).1 false bits),(d (withL s out) p).2.1⟩:Lm)])) (negF p) hso1 hnf2) hone) (a_ FT 4 rfl (t_f rfl (Je_alloc (n:=10) rfl tz34 rfl) (a_ FT 3 rfl (cns (c_a (a_ FT 2 rfl (c_n ?_))))))))
     refine Tc_cond rfl (fun hb2n=>?_) (fun hb2n=>?_)
     ·refine Tc_retI0 [(3,some (D.ptr 0 0)),(4,some (D.ptr 1 0)),(5,some (D.ptr 2 0)),(6,some (D.ptr 3 0)),(39,some (D.v (V.one (El.row afE s.q.g.us)))),(40,some (D.val (.int .i64 ((s.q.g.us.length:Nat):Int)))),(41,some (D.val (.int .i64 ((i:Nat):Int))))] (fun _ _ h=>h) d16 s16 rfl rfl ⟨rfl,rfl,rfl,rfl,rfl,rfl,rfl,trivial⟩ (Tl_end (At_block (At_then ?_)))
      refine Tc_region (t_q rfl (Jq_add rfl rfl rfl (r:=((i + 1:Nat):Int)) (w64 (by omega) (by omega) (by omega))) (a_ FT 1 rfl (Tl_end (At_free 5 (At_free 6 (At_free 8 (At_free 9 (At_free 10 (trim_ 5 rfl ?_)))))))))
      exact At_next (m':=s.q.g.us.length - (i + 1)) (by omega) ⟨i + 1,_,_,rfl,rfl,rfl,hi,by rw [runN_get hp,← hout,hA,sideN_f1 (by have h:(d (withL s (out ++ [(⟨(i:Int),false,qOf (rndB (d (withL s out) p).1 false bits),(d (withL s out) p).2.1⟩:Lm)])) (negF p)).2.2 = false:=(by simpa using hb2n);exact h)];simp only [List.append_nil]⟩ ⟨rfl,rfl,rfl,rfl,rfl,rfl,rfl,trivial⟩
     ·refine c_b (Tc_seq ?_)
      have hb2:(d (withL s (out ++ [(⟨(i:Int),false,qOf (rndB (d (withL s out) p).1 false bits),(d (withL s out) p).2.1⟩:Lm)])) (negF p)).2.2 = true:=by simpa using hb2n
      haveI h1hb2:Hb (d (withL s (out ++ [(⟨(i:Int),false,qOf (rndB (d (withL s out) p).1 false bits),(d (withL s out) p).2.1⟩:Lm)])) (negF p)).1 (KB i - 4200):=hdm (withL s (out ++ [(⟨(i:Int),false,qOf (rndB (d (withL s out) p).1 false bits),(d (withL s out) p).2.1⟩:Lm)])) hso1 i (negF p) (by exact hi) (by exact hnf) (by exact hb2)
      have h2hb2:Hb (-(d (withL s (out ++ [(⟨(i:Int),false,qOf (rndB (d (withL s out) p).1 false bits),(d (withL s out) p).2.1⟩:Lm)])) (negF p)).1) (KB i - 4200):=Hb.neg
      haveI h3hb2:Br (d (withL s (out ++ [(⟨(i:Int),false,qOf (rndB (d (withL s out) p).1 false bits),(d (withL s out) p).2.1⟩:Lm)])) (negF p)).1 34402:=h1hb2.limb (by omega)
      haveI:Br (rndB (-(d (withL s (out ++ [(⟨(i:Int),false,qOf (rndB (d (withL s out) p).1 false bits),(d (withL s out) p).2.1⟩:Lm)])) (negF p)).1) true bits) 38501:=((rndB_hb (up:=true) (bits:=bits) h2hb2 (by omega)).mono (show _≤38500 by omega)).br
      have hso_B_2:∀ m∈out ++ [(⟨(i:Int),false,qOf (rndB (d (withL s out) p).1 false bits),(d (withL s out) p).2.1⟩:Lm)],Fq m.v 34401:=hso1.B
      have hso_L_2:(out ++ [(⟨(i:Int),false,qOf (rndB (d (withL s out) p).1 false bits),(d (withL s out) p).2.1⟩:Lm)]).length≤100:=hso1.ll
      refine Tc_region ?_
      refine t_q rfl (Jq_view (r:=4) (n:=(n + 1)) (x:=V.agg (quL s.q ++ [El.row dcE s.path,Leaf.own 4 (n + 1)])) (x':=V.agg (quL s.q ++ [El.row dcE s.path,El.row lmE (out ++ [⟨((i:Nat):Int),false,(qOf ((rndB (d (withL s out) p).1 false bits))),(d (withL s out) p).2.1⟩])])) (Jq_load_agg rfl rfl rfl (by decide) ty42 (by decide) (Nat.le_of_ble_eq_true rfl) rfl) (RowAt.ofE lmE (out ++ [⟨((i:Nat):Int),false,(qOf ((rndB (d (withL s out) p).1 false bits))),(d (withL s out) p).2.1⟩]) rfl (by decide)) (by decide) ⟨.inl rfl,.inl rfl,.inl rfl,.inl rfl,.inl rfl,.inl rfl,.inl rfl,.inl rfl,.inl rfl,.inl rfl,.inl rfl,.inr ⟨rfl,rfl⟩,trivial⟩) ?_
      refine a_ FT 1 rfl (t_f rfl (Je_call rfl fn42 rfl (best_p (withL s (out ++ [(⟨(i:Int),false,qOf (rndB (d (withL s out) p).1 false bits),(d (withL s out) p).2.1⟩:Lm)])) hso_B_2 (by omega) (by show (out ++ [(⟨(i:Int),false,qOf (rndB (d (withL s out) p).1 false bits),(d (withL s out) p).2.1⟩:Lm)]).length≤_;omega) ((i:Nat):Int))) (a_ FT 5 rfl (cns (Tc_free 8 ?_))))
      refine Tc_free 9 ?_
      refine Tc_norm [(0,some (D.bool true)),(3,some (D.ptr 1 0)),(4,some (D.ptr 5 0)),(5,some (D.ptr 2 0)),(8,some (D.ptr 10 0)),(9,some (D.v (V.one (El.row muE ((d (withL s (out ++ [(⟨(i:Int),false,qOf (rndB (d (withL s out) p).1 false bits),(d (withL s out) p).2.1⟩:Lm)])) (negF p)).2.1))))),(11,some (D.val (.int .i64 (((best (out ++ [(⟨(i:Int),false,qOf (rndB (d (withL s out) p).1 false bits),(d (withL s out) p).2.1⟩:Lm)]) ((i:Nat):Int)).1:Nat):Int)))),(12,some (D.val (.int .i64 (((best (out ++ [(⟨(i:Int),false,qOf (rndB (d (withL s out) p).1 false bits),(d (withL s out) p).2.1⟩:Lm)]) ((i:Nat):Int)).2:Nat):Int)))),(2003,some (D.ptr 0 0)),(2004,some (D.ptr 1 0)),(2005,some (D.ptr 2 0)),(2006,some (D.ptr 3 0)),(2039,some (D.v (V.one (El.row afE s.q.g.us)))),(2040,some (D.val (.int .i64 ((s.q.g.us.length:Nat):Int)))),(2041,some (D.val (.int .i64 ((i:Nat):Int))))] [hbq 83 [Leaf.val (ifV tD cs)] q1,hbq 42 (quL s.q ++ [El.row dcE s.path,Leaf.own 4 (n + 1)]) q2,hbq 3 [Leaf.val (.int .i64 bits)] q3,hb_ 42 scZ,hgr 64 6 lmE (out ++ [⟨((i:Nat):Int),false,(qOf ((rndB (d (withL s out) p).1 false bits))),(d (withL s out) p).2.1⟩]) (n + 1),hbq 3 [Leaf.val (.int .i64 ((i:Nat):Int))] q6,hbq 36 (afL p) q7,none,none,none,hb_ 34 (qL ((d (withL s (out ++ [(⟨(i:Int),false,qOf (rndB (d (withL s out) p).1 false bits),(d (withL s out) p).2.1⟩:Lm)])) (negF p)).1))] ⟨rfl,rfl,rfl,rfl,rfl,rfl,rfl,rfl,rfl,rfl,rfl,rfl,rfl,rfl,rfl,trivial⟩ rfl ?_
      refine Tc_region (a_ FT 3 rfl (cns (c_a (a_ FT 1 rfl (c_n (Tc_t rfl (Tc_region (a_ FT 1 rfl ?_))))))))
      refine t_f rfl (Je_call rfl fn43 rfl (qneg (qOf ((d (withL s (out ++ [(⟨(i:Int),false,qOf (rndB (d (withL s out) p).1 false bits),(d (withL s out) p).2.1⟩:Lm)])) (negF p)).1)) ((d (withL s (out ++ [(⟨(i:Int),false,qOf (rndB (d (withL s out) p).1 false bits),(d (withL s out) p).2.1⟩:Lm)])) (negF p)).1) (qOf_q _) (Br.use (by omega)))) (a_ FT 4 rfl (cns ?_))
      refine Tc_norm [(0,some (D.bool true)),(3,some (D.ptr 1 0)),(4,some (D.ptr 5 0)),(5,some (D.ptr 2 0)),(8,some (D.ptr 10 0)),(9,some (D.v (V.one (El.row muE ((d (withL s (out ++ [(⟨(i:Int),false,qOf (rndB (d (withL s out) p).1 false bits),(d (withL s out) p).2.1⟩:Lm)])) (negF p)).2.1))))),(13,some (D.val (.int .i64 (((best (out ++ [(⟨(i:Int),false,qOf (rndB (d (withL s out) p).1 false bits),(d (withL s out) p).2.1⟩:Lm)]) ((i:Nat):Int)).2:Nat):Int)))),(14,some (D.val (.int .i64 (-1)))),(2003,some (D.ptr 0 0)),(2004,some (D.ptr 1 0)),(2005,some (D.ptr 2 0)),(2006,some (D.ptr 3 0)),(2039,some (D.v (V.one (El.row afE s.q.g.us)))),(2040,some (D.val (.int .i64 ((s.q.g.us.length:Nat):Int)))),(2041,some (D.val (.int .i64 ((i:Nat):Int))))] [hbq 83 [Leaf.val (ifV tD cs)] q1,hbq 42 (quL s.q ++ [El.row dcE s.path,Leaf.own 4 (n + 1)]) q2,hbq 3 [Leaf.val (.int .i64 bits)] q3,hb_ 42 scZ,hgr 64 6 lmE (out ++ [⟨((i:Nat):Int),false,(qOf ((rndB (d (withL s out) p).1 false bits))),(d (withL s out) p).2.1⟩]) (n + 1),hbq 3 [Leaf.val (.int .i64 ((i:Nat):Int))] q6,hbq 36 (afL p) q7,none,none,none,hb_ 34 (qL (-((d (withL s (out ++ [(⟨(i:Int),false,qOf (rndB (d (withL s out) p).1 false bits),(d (withL s out) p).2.1⟩:Lm)])) (negF p)).1)))] ⟨rfl,rfl,rfl,rfl,rfl,rfl,rfl,rfl,rfl,rfl,rfl,rfl,rfl,rfl,rfl,trivial⟩ rfl ?_
      refine Tc_region (a_ FT 3 rfl (t_f rfl (Je_call rfl fn44 rfl (round_p (-(d (withL s (out ++ [(⟨(i:Int),false,qOf (rndB (d (withL s out) p).1 false bits),(d (withL s out) p).2.1⟩:Lm)])) (negF p)).1) true bits h2hb2 (by omega) h0 h4)) (a_ FT 1 rfl (c_n ?_))))
      refine Tc_meet (Γ':=[(0,some (D.bool true)),(3,some (D.ptr 1 0)),(4,some (D.ptr 5 0)),(8,some (D.ptr 10 0)),(9,some (D.v (V.one (El.row muE ((d (withL s (out ++ [(⟨(i:Int),false,qOf (rndB (d (withL s out) p).1 false bits),(d (withL s out) p).2.1⟩:Lm)])) (negF p)).2.1))))),(59,some (D.bool (strong (out ++ [(⟨(i:Int),false,qOf (rndB (d (withL s out) p).1 false bits),(d (withL s out) p).2.1⟩:Lm)]) i true (rndB (-(d (withL s (out ++ [(⟨(i:Int),false,qOf (rndB (d (withL s out) p).1 false bits),(d (withL s out) p).2.1⟩:Lm)])) (negF p)).1) true bits)))),(2003,some (D.ptr 0 0)),(2004,some (D.ptr 1 0)),(2005,some (D.ptr 2 0)),(2006,some (D.ptr 3 0)),(2039,some (D.v (V.one (El.row afE s.q.g.us)))),(2040,some (D.val (.int .i64 ((s.q.g.us.length:Nat):Int)))),(2041,some (D.val (.int .i64 ((i:Nat):Int))))]) (H':=[hbq 83 [Leaf.val (ifV tD cs)] q1,hbq 42 (quL s.q ++ [El.row dcE s.path,Leaf.own 4 (n + 1)]) q2,hbq 3 [Leaf.val (.int .i64 bits)] q3,hb_ 42 scZ,hgr 64 6 lmE (out ++ [⟨((i:Nat):Int),false,(qOf ((rndB (d (withL s out) p).1 false bits))),(d (withL s out) p).2.1⟩]) (n + 1),hbq 3 [Leaf.val (.int .i64 ((i:Nat):Int))] q6,hbq 36 (afL p) q7,none,none,none,hb_ 34 (qL (rndB (-(d (withL s (out ++ [(⟨(i:Int),false,qOf (rndB (d (withL s out) p).1 false bits),(d (withL s out) p).2.1⟩:Lm)])) (negF p)).1) true bits))]) ?_ ?_
      ·refine Tc_drawK 0 [none,none,none,none,none,none,none,none,none,none,none,none,none,none,none] [] follows (by kernel_rfl) (d_ FT 1 rfl ?_)
       by_cases hk2:(best (out ++ [(⟨(i:Int),false,qOf (rndB (d (withL s out) p).1 false bits),(d (withL s out) p).2.1⟩:Lm)]) ((i:Nat):Int)).2 = 0
       ·refine dq_ rfl rfl (Jq_eql rfl rfl rfl (b:=true) (eT (by omega))) (d_ FT 13 rfl ?_)
        refine DK_is (strong (out ++ [(⟨(i:Int),false,qOf (rndB (d (withL s out) p).1 false bits),(d (withL s out) p).2.1⟩:Lm)]) i true (rndB (-(d (withL s (out ++ [(⟨(i:Int),false,qOf (rndB (d (withL s out) p).1 false bits),(d (withL s out) p).2.1⟩:Lm)])) (negF p)).1) true bits)) (by exact (strong_ut (.inl hk2)).symm) (DK_nil ?_)
        exact At_meet ⟨rfl,rfl,rfl,rfl,rfl,rfl,rfl,rfl,rfl,rfl,rfl,rfl,rfl,trivial⟩
       ·refine dq_ rfl rfl (Jq_eql rfl rfl rfl (b:=false) (eF (by omega))) (d_ FT 3 rfl ?_)
        obtain ⟨y,hy,_,_,hly,hy0,hyl⟩:=best_hi hk2
        haveI hyB:=hso_B_2 y (List.mem_of_getElem? hy)
        refine DK_q (JO_qg rfl rfl rfl rfl (Jq_view (r:=4) (n:=(n + 1)) (x:=V.one (Leaf.own 4 (n + 1))) (x':=V.one (El.row lmE (out ++ [⟨((i:Nat):Int),false,(qOf ((rndB (d (withL s out) p).1 false bits))),(d (withL s out) p).2.1⟩]))) (Jq_load rfl rfl rfl (by decide) ty40 rfl) (RowAt.ofE lmE (out ++ [⟨((i:Nat):Int),false,(qOf ((rndB (d (withL s out) p).1 false bits))),(d (withL s out) p).2.1⟩]) rfl (by decide)) (by decide) (.inr ⟨rfl,rfl⟩))) ?_
        refine d_ FT 1 rfl (DK_q (JO_qg rfl rfl rfl rfl (Jq_sub rfl rfl rfl (r:=(((best (out ++ [(⟨(i:Int),false,qOf (rndB (d (withL s out) p).1 false bits),(d (withL s out) p).2.1⟩:Lm)]) ((i:Nat):Int)).2 - 1:Nat):Int)) (w64 (by omega) (by omega) (by omega)))) ?_)
        refine DK_q (JO_qg rfl rfl rfl rfl (Jq_indexX lmE (out ++ [⟨((i:Nat):Int),false,(qOf ((rndB (d (withL s out) p).1 false bits))),(d (withL s out) p).2.1⟩]) ((best (out ++ [(⟨(i:Int),false,qOf (rndB (d (withL s out) p).1 false bits),(d (withL s out) p).2.1⟩:Lm)]) ((i:Nat):Int)).2 - 1) rfl rfl rfl un40 ty64 hy)) ?_
        refine DK_q (JO_qg rfl rfl rfl rfl (Jq_fieldAddr_refT rfl rfl fo64_2 rfl rfl)) (DK_q (JO_qg rfl rfl rfl rfl (Jq_load_ref_agg rfl rfl ty34 rfl)) ?_)
        refine DK_cg rfl rfl rfl rfl (Jd_call rfl fn45 rfl (qcmp (qOf ((rndB (-(d (withL s (out ++ [(⟨(i:Int),false,qOf (rndB (d (withL s out) p).1 false bits),(d (withL s out) p).2.1⟩:Lm)])) (negF p)).1) true bits))) ((rndB (-(d (withL s (out ++ [(⟨(i:Int),false,qOf (rndB (d (withL s out) p).1 false bits),(d (withL s out) p).2.1⟩:Lm)])) (negF p)).1) true bits)) (qOf_q _) (Br.use (by omega)) y.v (y.v.q) rfl (Fq.use (x:=y.v) (by omega)))) ?_
        refine d_ FT 1 rfl ?_
        by_cases hc2:rndB (-(d (withL s (out ++ [(⟨(i:Int),false,qOf (rndB (d (withL s out) p).1 false bits),(d (withL s out) p).2.1⟩:Lm)])) (negF p)).1) true bits < lv (out ++ [(⟨(i:Int),false,qOf (rndB (d (withL s out) p).1 false bits),(d (withL s out) p).2.1⟩:Lm)]) (best (out ++ [(⟨(i:Int),false,qOf (rndB (d (withL s out) p).1 false bits),(d (withL s out) p).2.1⟩:Lm)]) ((i:Nat):Int)).2
        ·refine DK_q (JO_qg rfl rfl rfl rfl (Jq_eql rfl rfl rfl (b:=true) (eT (by rw [cmpq_lt1,← hly];exact hc2)))) (d_ FT 1 rfl ?_)
         refine DK_is (strong (out ++ [(⟨(i:Int),false,qOf (rndB (d (withL s out) p).1 false bits),(d (withL s out) p).2.1⟩:Lm)]) i true (rndB (-(d (withL s (out ++ [(⟨(i:Int),false,qOf (rndB (d (withL s out) p).1 false bits),(d (withL s out) p).2.1⟩:Lm)])) (negF p)).1) true bits)) (by exact (strong_ut (.inr hc2)).symm) (DK_nil ?_)
         exact At_meet ⟨rfl,rfl,rfl,rfl,rfl,rfl,rfl,rfl,rfl,rfl,rfl,rfl,rfl,trivial⟩
        ·refine DK_q (JO_qg rfl rfl rfl rfl (Jq_eql rfl rfl rfl (b:=false) (eF (fun e=>hc2 (by rw [hly];exact cmpq_lt1.1 e))))) (d_ FT 1 rfl ?_)
         refine DK_is (strong (out ++ [(⟨(i:Int),false,qOf (rndB (d (withL s out) p).1 false bits),(d (withL s out) p).2.1⟩:Lm)]) i true (rndB (-(d (withL s (out ++ [(⟨(i:Int),false,qOf (rndB (d (withL s out) p).1 false bits),(d (withL s out) p).2.1⟩:Lm)])) (negF p)).1) true bits)) (by exact (strong_uf hk2 hc2).symm) (DK_nil ?_)
         exact At_meet ⟨rfl,rfl,rfl,rfl,rfl,rfl,rfl,rfl,rfl,rfl,rfl,rfl,rfl,trivial⟩
      ·refine Tc_cond rfl (fun hs2=>?_) (fun hs2=>?_)
       ·refine Tc_region (a_ FT 6 rfl (t_q rfl (Jq_build rfl tz64 rfl pl64 rfl) (t_f rfl (Je_buildSlice rfl un40 ty64 tz64 rfl (by decide) (by decide) rfl (by decide) rfl) ?_)))
        obtain ⟨ti19,hi19,hz19,hs19,hb19⟩:=in64
        refine t_f rfl (Je_appendR lmE (out ++ [⟨((i:Nat):Int),false,(qOf ((rndB (d (withL s out) p).1 false bits))),(d (withL s out) p).2.1⟩]) (⟨((i:Nat):Int),true,(qOf ((rndB (-(d (withL s (out ++ [(⟨(i:Int),false,qOf (rndB (d (withL s out) p).1 false bits),(d (withL s out) p).2.1⟩:Lm)])) (negF p)).1) true bits))),(d (withL s (out ++ [(⟨(i:Int),false,qOf (rndB (d (withL s out) p).1 false bits),(d (withL s out) p).2.1⟩:Lm)])) (negF p)).2.1⟩) rfl rfl rfl rfl (by decide) un40 un40 hi19 hz19 hs19 rfl (by first | (simp only [maxLen];omega) | (simp only [maxLen,List.length_append,List.length_take,List.length_drop,List.length_cons,List.length_nil];omega)) (by rw [hb19];first | omega | (simp only [List.length_append,List.length_take,List.length_drop,List.length_cons,List.length_nil];omega))) ?_
        refine a_ FT 2 rfl (Tl_end (At_retI0 [(3,some (D.ptr 0 0)),(4,some (D.ptr 1 0)),(5,some (D.ptr 2 0)),(6,some (D.ptr 3 0)),(39,some (D.v (V.one (El.row afE s.q.g.us)))),(40,some (D.val (.int .i64 ((s.q.g.us.length:Nat):Int)))),(41,some (D.val (.int .i64 ((i:Nat):Int))))] d16 s16 rfl rfl ⟨rfl,rfl,rfl,rfl,rfl,rfl,rfl,trivial⟩ (Tl_end (At_block (At_then ?_)))))
        refine Tc_region (t_q rfl (Jq_add rfl rfl rfl (r:=((i + 1:Nat):Int)) (w64 (by omega) (by omega) (by omega))) (a_ FT 1 rfl (Tl_end (At_free 5 (At_free 6 (At_free 10 (trim_ 5 rfl ?_)))))))
        exact At_next (m':=s.q.g.us.length - (i + 1)) (by omega) ⟨i + 1,_,_,rfl,rfl,rfl,hi,by rw [runN_get hp,← hout,hA,sideN_t (by exact hb2) (by exact hs2)];rfl⟩ ⟨rfl,rfl,rfl,rfl,rfl,rfl,rfl,trivial⟩
       ·refine Tc_skipA (At_retI0 [(3,some (D.ptr 0 0)),(4,some (D.ptr 1 0)),(5,some (D.ptr 2 0)),(6,some (D.ptr 3 0)),(39,some (D.v (V.one (El.row afE s.q.g.us)))),(40,some (D.val (.int .i64 ((s.q.g.us.length:Nat):Int)))),(41,some (D.val (.int .i64 ((i:Nat):Int))))] d16 s16 rfl rfl ⟨rfl,rfl,rfl,rfl,rfl,rfl,rfl,trivial⟩ (Tl_end (At_block (At_then (Tc_region ?_)))))
        refine t_q rfl (Jq_add rfl rfl rfl (r:=((i + 1:Nat):Int)) (w64 (by omega) (by omega) (by omega))) (a_ FT 1 rfl (Tl_end (At_free 5 (At_free 6 (At_free 10 (trim_ 5 rfl ?_))))))
        exact At_next (m':=s.q.g.us.length - (i + 1)) (by omega) ⟨i + 1,_,_,rfl,rfl,rfl,hi,by rw [runN_get hp,← hout,hA,sideN_f2 (by exact hs2)];simp only [List.append_nil]⟩ ⟨rfl,rfl,rfl,rfl,rfl,rfl,rfl,trivial⟩
    ·refine Tc_skipA ?_
     refine At_retI0 [(3,some (D.ptr 0 0)),(4,some (D.ptr 1 0)),(5,some (D.ptr 2 0)),(6,some (D.ptr 3 0)),(10,some (D.val (.func (.func 39) #[] #[.pointer (some ⟨q7,0,none⟩),.pointer (some ⟨q1,0,none⟩),.pointer (some ⟨q2,0,none⟩),.pointer (some ⟨q6,0,none⟩),.pointer (some ⟨q3,0,none⟩)]))),(39,some (D.v (V.one (El.row afE s.q.g.us)))),(40,some (D.val (.int .i64 ((s.q.g.us.length:Nat):Int)))),(41,some (D.val (.int .i64 ((i:Nat):Int))))] d8 s8 rfl rfl ⟨rfl,rfl,rfl,rfl,rfl,rfl,rfl,rfl,trivial⟩ ?_
     refine c_n ?_
     have hA:runA d s bits out i p = out:=by unfold runA;rw [sideN_f2 (by exact hs1),List.append_nil]
     have hso1:SOk (withL s out):=by rw [← hA];exact LOk.withL hs hrA.1 (by have:=hrA.2;have hl2:out.length≤s.lems.length + 2 * i:=hln;omega)
     refine Tc_region (a_ FT 1 rfl ?_)
     refine Tl_inlineF (dc:=[D.ptr 6 0,D.ptr 0 0,D.ptr 1 0,D.ptr 5 0,D.ptr 2 0]) rfl rfl rfl ⟨.inr ⟨_,_,_,rfl,rfl,rfl,rfl,rfl⟩,.inr ⟨_,_,_,rfl,rfl,rfl,rfl,rfl⟩,.inr ⟨_,_,_,rfl,rfl,rfl,rfl,rfl⟩,.inr ⟨_,_,_,rfl,rfl,rfl,rfl,rfl⟩,.inr ⟨_,_,_,rfl,rfl,rfl,rfl,rfl⟩,trivial⟩ Tryz.func39 rfl rfl Tryz.ntmps39 (Nat.le_of_ble_eq_true rfl) rfl (fun a20 d20 s20=>?_)
     refine c_a (a_ FT 1 rfl (t_f rfl (Je_alloc (n:=9) rfl tz36 rfl) (a_ FT 1 rfl (cns (c_a (a_ FT 1 rfl (c_n (Tc_t rfl (Tc_drawK 0 [none,none,none,some 9] [9] follows (by kernel_rfl) ?_)))))))))
     refine d_ FT 1 rfl (DK_c rfl rfl (Jd_call rfl fn41 rfl (qof_spec (-1) (by decide) (by decide))) (DK_c rfl rfl (Jd_call rfl fn40 rfl (scale_p p ((-1:Int):Rat) hpl_ (by omega) (by omega) (by omega))) (DK_s 9 rfl rfl rfl (Jd_store rfl rfl rfl rfl ty36 rfl (by decide) (Nat.le_of_ble_eq_true rfl) rfl) (DK_nil (At_then (c_a (a_ FT 1 rfl ?_)))))))
     refine t_q rfl (Jq_view (r:=4) (n:=n) (x:=V.agg (quL s.q ++ [El.row dcE s.path,Leaf.own 4 n])) (x':=V.agg (quL s.q ++ [El.row dcE s.path,El.row lmE out])) (Jq_load_agg rfl rfl rfl (by decide) ty42 (by decide) (Nat.le_of_ble_eq_true rfl) rfl) (RowAt.ofE lmE out rfl (by decide)) (by decide) ⟨.inl rfl,.inl rfl,.inl rfl,.inl rfl,.inl rfl,.inl rfl,.inl rfl,.inl rfl,.inl rfl,.inl rfl,.inl rfl,.inr ⟨rfl,rfl⟩,trivial⟩) ?_
     refine a_ FT 1 rfl (t_f rfl (Je_invoke rfl rfl hm hfL rfl (hL (withL s out) (negF p) hso1 hnf2) hone) (a_ FT 4 rfl (t_f rfl (Je_alloc (n:=10) rfl tz34 rfl) (a_ FT 3 rfl (cns (c_a (a_ FT 2 rfl (c_n ?_))))))))
     refine Tc_cond rfl (fun hb2n=>?_) (fun hb2n=>?_)
     ·refine Tc_retI0 [(3,some (D.ptr 0 0)),(4,some (D.ptr 1 0)),(5,some (D.ptr 2 0)),(6,some (D.ptr 3 0)),(39,some (D.v (V.one (El.row afE s.q.g.us)))),(40,some (D.val (.int .i64 ((s.q.g.us.length:Nat):Int)))),(41,some (D.val (.int .i64 ((i:Nat):Int))))] (fun _ _ h=>h) d20 s20 rfl rfl ⟨rfl,rfl,rfl,rfl,rfl,rfl,rfl,trivial⟩ (Tl_end (At_block (At_then ?_)))
      refine Tc_region (t_q rfl (Jq_add rfl rfl rfl (r:=((i + 1:Nat):Int)) (w64 (by omega) (by omega) (by omega))) (a_ FT 1 rfl (Tl_end (At_free 5 (At_free 6 (At_free 8 (At_free 9 (At_free 10 (trim_ 5 rfl ?_)))))))))
      exact At_next (m':=s.q.g.us.length - (i + 1)) (by omega) ⟨i + 1,_,_,rfl,rfl,rfl,hi,by rw [runN_get hp,← hout,hA,sideN_f1 (by have h:(d (withL s out) (negF p)).2.2 = false:=(by simpa using hb2n);exact h)];simp only [List.append_nil]⟩ ⟨rfl,rfl,rfl,rfl,rfl,rfl,rfl,trivial⟩
     ·refine c_b (Tc_seq ?_)
      have hb2:(d (withL s out) (negF p)).2.2 = true:=by simpa using hb2n
      haveI h1hb2:Hb (d (withL s out) (negF p)).1 (KB i - 4200):=hdm (withL s out) hso1 i (negF p) (by exact hi) (by exact hnf) (by exact hb2)
      have h2hb2:Hb (-(d (withL s out) (negF p)).1) (KB i - 4200):=Hb.neg
      haveI h3hb2:Br (d (withL s out) (negF p)).1 34402:=h1hb2.limb (by omega)
      haveI:Br (rndB (-(d (withL s out) (negF p)).1) true bits) 38501:=((rndB_hb (up:=true) (bits:=bits) h2hb2 (by omega)).mono (show _≤38500 by omega)).br
      have hso_B_2:∀ m∈out,Fq m.v 34401:=hso1.B
      have hso_L_2:(out).length≤100:=hso1.ll
      refine Tc_region ?_
      refine t_q rfl (Jq_view (r:=4) (n:=n) (x:=V.agg (quL s.q ++ [El.row dcE s.path,Leaf.own 4 n])) (x':=V.agg (quL s.q ++ [El.row dcE s.path,El.row lmE out])) (Jq_load_agg rfl rfl rfl (by decide) ty42 (by decide) (Nat.le_of_ble_eq_true rfl) rfl) (RowAt.ofE lmE out rfl (by decide)) (by decide) ⟨.inl rfl,.inl rfl,.inl rfl,.inl rfl,.inl rfl,.inl rfl,.inl rfl,.inl rfl,.inl rfl,.inl rfl,.inl rfl,.inr ⟨rfl,rfl⟩,trivial⟩) ?_
      refine a_ FT 1 rfl (t_f rfl (Je_call rfl fn42 rfl (best_p (withL s out) hso_B_2 (by omega) (by show (out).length≤_;omega) ((i:Nat):Int))) (a_ FT 5 rfl (cns (Tc_free 8 (Tc_free 9 ?_)))))
      refine Tc_norm [(0,some (D.bool true)),(3,some (D.ptr 1 0)),(4,some (D.ptr 5 0)),(5,some (D.ptr 2 0)),(8,some (D.ptr 10 0)),(9,some (D.v (V.one (El.row muE ((d (withL s out) (negF p)).2.1))))),(11,some (D.val (.int .i64 (((best out ((i:Nat):Int)).1:Nat):Int)))),(12,some (D.val (.int .i64 (((best out ((i:Nat):Int)).2:Nat):Int)))),(2003,some (D.ptr 0 0)),(2004,some (D.ptr 1 0)),(2005,some (D.ptr 2 0)),(2006,some (D.ptr 3 0)),(2039,some (D.v (V.one (El.row afE s.q.g.us)))),(2040,some (D.val (.int .i64 ((s.q.g.us.length:Nat):Int)))),(2041,some (D.val (.int .i64 ((i:Nat):Int))))] [hbq 83 [Leaf.val (ifV tD cs)] q1,hbq 42 (quL s.q ++ [El.row dcE s.path,Leaf.own 4 n]) q2,hbq 3 [Leaf.val (.int .i64 bits)] q3,hb_ 42 scZ,hgr 64 6 lmE out n,hbq 3 [Leaf.val (.int .i64 ((i:Nat):Int))] q6,hbq 36 (afL p) q7,none,none,none,hb_ 34 (qL ((d (withL s out) (negF p)).1))] ⟨rfl,rfl,rfl,rfl,rfl,rfl,rfl,rfl,rfl,rfl,rfl,rfl,rfl,rfl,rfl,trivial⟩ rfl ?_
      refine Tc_region (a_ FT 3 rfl (cns (c_a (a_ FT 1 rfl (c_n (Tc_t rfl (Tc_region (a_ FT 1 rfl (t_f rfl (Je_call rfl fn43 rfl (qneg (qOf ((d (withL s out) (negF p)).1)) ((d (withL s out) (negF p)).1) (qOf_q _) (Br.use (by omega)))) ?_)))))))))
      refine a_ FT 4 rfl (cns ?_)
      refine Tc_norm [(0,some (D.bool true)),(3,some (D.ptr 1 0)),(4,some (D.ptr 5 0)),(5,some (D.ptr 2 0)),(8,some (D.ptr 10 0)),(9,some (D.v (V.one (El.row muE ((d (withL s out) (negF p)).2.1))))),(13,some (D.val (.int .i64 (((best out ((i:Nat):Int)).2:Nat):Int)))),(14,some (D.val (.int .i64 (-1)))),(2003,some (D.ptr 0 0)),(2004,some (D.ptr 1 0)),(2005,some (D.ptr 2 0)),(2006,some (D.ptr 3 0)),(2039,some (D.v (V.one (El.row afE s.q.g.us)))),(2040,some (D.val (.int .i64 ((s.q.g.us.length:Nat):Int)))),(2041,some (D.val (.int .i64 ((i:Nat):Int))))] [hbq 83 [Leaf.val (ifV tD cs)] q1,hbq 42 (quL s.q ++ [El.row dcE s.path,Leaf.own 4 n]) q2,hbq 3 [Leaf.val (.int .i64 bits)] q3,hb_ 42 scZ,hgr 64 6 lmE out n,hbq 3 [Leaf.val (.int .i64 ((i:Nat):Int))] q6,hbq 36 (afL p) q7,none,none,none,hb_ 34 (qL (-((d (withL s out) (negF p)).1)))] ⟨rfl,rfl,rfl,rfl,rfl,rfl,rfl,rfl,rfl,rfl,rfl,rfl,rfl,rfl,rfl,trivial⟩ rfl ?_
      refine Tc_region (a_ FT 3 rfl (t_f rfl (Je_call rfl fn44 rfl (round_p (-(d (withL s out) (negF p)).1) true bits h2hb2 (by omega) h0 h4)) (a_ FT 1 rfl (c_n ?_))))
      refine Tc_meet (Γ':=[(0,some (D.bool true)),(3,some (D.ptr 1 0)),(4,some (D.ptr 5 0)),(8,some (D.ptr 10 0)),(9,some (D.v (V.one (El.row muE ((d (withL s out) (negF p)).2.1))))),(59,some (D.bool (strong out i true (rndB (-(d (withL s out) (negF p)).1) true bits)))),(2003,some (D.ptr 0 0)),(2004,some (D.ptr 1 0)),(2005,some (D.ptr 2 0)),(2006,some (D.ptr 3 0)),(2039,some (D.v (V.one (El.row afE s.q.g.us)))),(2040,some (D.val (.int .i64 ((s.q.g.us.length:Nat):Int)))),(2041,some (D.val (.int .i64 ((i:Nat):Int))))]) (H':=[hbq 83 [Leaf.val (ifV tD cs)] q1,hbq 42 (quL s.q ++ [El.row dcE s.path,Leaf.own 4 n]) q2,hbq 3 [Leaf.val (.int .i64 bits)] q3,hb_ 42 scZ,hgr 64 6 lmE out n,hbq 3 [Leaf.val (.int .i64 ((i:Nat):Int))] q6,hbq 36 (afL p) q7,none,none,none,hb_ 34 (qL (rndB (-(d (withL s out) (negF p)).1) true bits))]) ?_ ?_
      ·refine Tc_drawK 0 [none,none,none,none,none,none,none,none,none,none,none,none,none,none,none] [] follows (by kernel_rfl) (d_ FT 1 rfl ?_)
       by_cases hk2:(best out ((i:Nat):Int)).2 = 0
       ·refine dq_ rfl rfl (Jq_eql rfl rfl rfl (b:=true) (eT (by omega))) (d_ FT 13 rfl (DK_is (strong out i true (rndB (-(d (withL s out) (negF p)).1) true bits)) (by exact (strong_ut (.inl hk2)).symm) (DK_nil ?_)))
        exact At_meet ⟨rfl,rfl,rfl,rfl,rfl,rfl,rfl,rfl,rfl,rfl,rfl,rfl,rfl,trivial⟩
       ·refine dq_ rfl rfl (Jq_eql rfl rfl rfl (b:=false) (eF (by omega))) (d_ FT 3 rfl ?_)
        obtain ⟨y,hy,_,_,hly,hy0,hyl⟩:=best_hi hk2
        haveI hyB:=hso_B_2 y (List.mem_of_getElem? hy)
        refine DK_q (JO_qg rfl rfl rfl rfl (Jq_view (r:=4) (n:=n) (x:=V.one (Leaf.own 4 n)) (x':=V.one (El.row lmE out)) (Jq_load rfl rfl rfl (by decide) ty40 rfl) (RowAt.ofE lmE out rfl (by decide)) (by decide) (.inr ⟨rfl,rfl⟩))) (d_ FT 1 rfl ?_)
        refine DK_q (JO_qg rfl rfl rfl rfl (Jq_sub rfl rfl rfl (r:=(((best out ((i:Nat):Int)).2 - 1:Nat):Int)) (w64 (by omega) (by omega) (by omega)))) (DK_q (JO_qg rfl rfl rfl rfl (Jq_indexX lmE out ((best out ((i:Nat):Int)).2 - 1) rfl rfl rfl un40 ty64 hy)) (DK_q (JO_qg rfl rfl rfl rfl (Jq_fieldAddr_refT rfl rfl fo64_2 rfl rfl)) ?_))
        refine DK_q (JO_qg rfl rfl rfl rfl (Jq_load_ref_agg rfl rfl ty34 rfl)) (DK_cg rfl rfl rfl rfl (Jd_call rfl fn45 rfl (qcmp (qOf ((rndB (-(d (withL s out) (negF p)).1) true bits))) ((rndB (-(d (withL s out) (negF p)).1) true bits)) (qOf_q _) (Br.use (by omega)) y.v (y.v.q) rfl (Fq.use (x:=y.v) (by omega)))) (d_ FT 1 rfl ?_))
        by_cases hc2:rndB (-(d (withL s out) (negF p)).1) true bits < lv out (best out ((i:Nat):Int)).2
        ·refine DK_q (JO_qg rfl rfl rfl rfl (Jq_eql rfl rfl rfl (b:=true) (eT (by rw [cmpq_lt1,← hly];exact hc2)))) (d_ FT 1 rfl (DK_is (strong out i true (rndB (-(d (withL s out) (negF p)).1) true bits)) (by exact (strong_ut (.inr hc2)).symm) (DK_nil ?_)))
         exact At_meet ⟨rfl,rfl,rfl,rfl,rfl,rfl,rfl,rfl,rfl,rfl,rfl,rfl,rfl,trivial⟩
        ·refine DK_q (JO_qg rfl rfl rfl rfl (Jq_eql rfl rfl rfl (b:=false) (eF (fun e=>hc2 (by rw [hly];exact cmpq_lt1.1 e))))) (d_ FT 1 rfl (DK_is (strong out i true (rndB (-(d (withL s out) (negF p)).1) true bits)) (by exact (strong_uf hk2 hc2).symm) (DK_nil ?_)))
         exact At_meet ⟨rfl,rfl,rfl,rfl,rfl,rfl,rfl,rfl,rfl,rfl,rfl,rfl,rfl,trivial⟩
      ·refine Tc_cond rfl (fun hs2=>?_) (fun hs2=>?_)
       ·refine Tc_region (a_ FT 6 rfl (t_q rfl (Jq_build rfl tz64 rfl pl64 rfl) (t_f rfl (Je_buildSlice rfl un40 ty64 tz64 rfl (by decide) (by decide) rfl (by decide) rfl) ?_)))
        obtain ⟨ti23,hi23,hz23,hs23,hb23⟩:=in64
        refine t_f rfl (Je_appendR lmE out (⟨((i:Nat):Int),true,(qOf ((rndB (-(d (withL s out) (negF p)).1) true bits))),(d (withL s out) (negF p)).2.1⟩) rfl rfl rfl rfl (by decide) un40 un40 hi23 hz23 hs23 rfl (by first | (simp only [maxLen];omega) | (simp only [maxLen,List.length_append,List.length_take,List.length_drop,List.length_cons,List.length_nil];omega)) (by rw [hb23];first | omega | (simp only [List.length_append,List.length_take,List.length_drop,List.length_cons,List.length_nil];omega))) ?_
        refine a_ FT 2 rfl (Tl_end (At_retI0 [(3,some (D.ptr 0 0)),(4,some (D.ptr 1 0)),(5,some (D.ptr 2 0)),(6,some (D.ptr 3 0)),(39,some (D.v (V.one (El.row afE s.q.g.us)))),(40,some (D.val (.int .i64 ((s.q.g.us.length:Nat):Int)))),(41,some (D.val (.int .i64 ((i:Nat):Int))))] d20 s20 rfl rfl ⟨rfl,rfl,rfl,rfl,rfl,rfl,rfl,trivial⟩ (Tl_end (At_block (At_then ?_)))))
        refine Tc_region (t_q rfl (Jq_add rfl rfl rfl (r:=((i + 1:Nat):Int)) (w64 (by omega) (by omega) (by omega))) (a_ FT 1 rfl (Tl_end (At_free 5 (At_free 6 (At_free 10 (trim_ 5 rfl ?_)))))))
        exact At_next (m':=s.q.g.us.length - (i + 1)) (by omega) ⟨i + 1,_,_,rfl,rfl,rfl,hi,by rw [runN_get hp,← hout,hA,sideN_t (by exact hb2) (by exact hs2)];rfl⟩ ⟨rfl,rfl,rfl,rfl,rfl,rfl,rfl,trivial⟩
       ·refine Tc_skipA (At_retI0 [(3,some (D.ptr 0 0)),(4,some (D.ptr 1 0)),(5,some (D.ptr 2 0)),(6,some (D.ptr 3 0)),(39,some (D.v (V.one (El.row afE s.q.g.us)))),(40,some (D.val (.int .i64 ((s.q.g.us.length:Nat):Int)))),(41,some (D.val (.int .i64 ((i:Nat):Int))))] d20 s20 rfl rfl ⟨rfl,rfl,rfl,rfl,rfl,rfl,rfl,trivial⟩ (Tl_end (At_block (At_then (Tc_region ?_)))))
        refine t_q rfl (Jq_add rfl rfl rfl (r:=((i + 1:Nat):Int)) (w64 (by omega) (by omega) (by omega))) (a_ FT 1 rfl (Tl_end (At_free 5 (At_free 6 (At_free 10 (trim_ 5 rfl ?_))))))
        exact At_next (m':=s.q.g.us.length - (i + 1)) (by omega) ⟨i + 1,_,_,rfl,rfl,rfl,hi,by rw [runN_get hp,← hout,hA,sideN_f2 (by exact hs2)];simp only [List.append_nil]⟩ ⟨rfl,rfl,rfl,rfl,rfl,rfl,rfl,trivial⟩
 ·refine t_q rfl (Jq_lss rfl rfl rfl (b:=false) (dF (by omega))) (cns (Tc_f rfl (Tc_exitA (At_then_exit (At_then_exit (At_block_exit (At_then (Tc_seq ?_))))))))
  have hie:i = s.q.g.us.length:=by omega
  rw [hie] at hout
  refine Tc_region ?_
  refine t_q rfl (Jq_view (r:=4) (n:=n) (x:=V.agg (quL s.q ++ [El.row dcE s.path,Leaf.own 4 n])) (x':=V.agg (quL s.q ++ [El.row dcE s.path,El.row lmE out])) (Jq_load_agg rfl rfl rfl (by decide) ty42 (by decide) (Nat.le_of_ble_eq_true rfl) rfl) (RowAt.ofE lmE out rfl (by decide)) (by decide) ⟨.inl rfl,.inl rfl,.inl rfl,.inl rfl,.inl rfl,.inl rfl,.inl rfl,.inl rfl,.inl rfl,.inl rfl,.inl rfl,.inr ⟨rfl,rfl⟩,trivial⟩) ?_
  refine a_ FT 2 rfl (c_n ?_)
  exact Tc_ret2 hq_ rfl (rA ty42 rfl rfl rfl rfl) rfl (by unfold runM;rw [← hout];rfl)
end Go.Proofs.YtjdbopkbfkgpdaaGreatDoor
set_option linter.unusedSimpArgs false
set_option linter.unusedVariables false
namespace Go.Proofs.YtjdbopkbfkgpdaaGreatDoor
open Go Go.RowKit Rc
end Go.Proofs.YtjdbopkbfkgpdaaGreatDoor
set_option linter.unusedSimpArgs false
set_option linter.unusedVariables false
namespace Rc
open Go Go.RowKit
theorem lv_app {l r:List Lm} {n:Nat} (h0:0 < n) (h:n≤l.length):lv (l ++ r) n = lv l n:=by
 unfold lv;rw [List.getElem?_append_left (by omega)]
theorem bestn_app (l r:List Lm) (u:Int):∀ n,n≤l.length→bestn (l ++ r) u n = bestn l u n
 | 0,_=>rfl
 | n + 1,h=>by
  obtain ⟨h1,h2,_,_⟩:=bestn_ok l u n
  rw [bestn_succ,bestn_succ,bestn_app l r u n (by omega)]
  unfold bstp
  rw [List.getElem?_append_left (by omega)]
  have e1:(bestn l u n).1≠0→lv (l ++ r) (bestn l u n).1 = lv l (bestn l u n).1:=fun h=>lv_app (by omega) (by omega)
  have e2:(bestn l u n).2≠0→lv (l ++ r) (bestn l u n).2 = lv l (bestn l u n).2:=fun h=>lv_app (by omega) (by omega)
  cases l[n]? with
  | none=>rfl
  | some m=>
   simp only []
   by_cases h3:(bestn l u n).1 = 0 <;> by_cases h4:(bestn l u n).2 = 0 <;> simp [h3,h4,e1,e2]
theorem bestn_skip {l:List Lm} {u:Int} {k:Nat} (h:∀ (i:Nat) (m:Lm),k≤i→l[i]? = some m→m.unit≠u):∀ n,bestn l u (k + n) = bestn l u k
 | 0=>rfl
 | n + 1=>by
  rw [show k + (n + 1) = (k + n) + 1 by omega,bestn_succ,bestn_skip h n]
  cases hx:l[k + n]? with
  | none=>unfold bstp;simp only [hx]
  | some m=>exact bstp_ne hx (h _ m (by omega) hx)
theorem best_app {l r:List Lm} {u:Int} (h:∀ m∈r,m.unit≠u):best (l ++ r) u = best l u:=by
 unfold best
 rw [List.length_append,bestn_skip (k:=l.length) (fun i m hi hm=>?_),bestn_app _ _ _ _ (Nat.le_refl _)]
 rw [List.getElem?_append_right hi] at hm
 exact h m (List.mem_of_getElem? hm)
theorem bestn_max (l:List Lm) (u:Int):∀ n (i:Nat) (m:Lm),i < n→l[i]? = some m→m.unit = u →
  (m.up = false→(bestn l u n).1≠0∧m.v.q≤lv l (bestn l u n).1)∧(m.up = true→(bestn l u n).2≠0∧lv l (bestn l u n).2≤m.v.q)
 | 0,i,m,hi,_,_=>by omega
 | n + 1,i,m,hi,hm,hu=>by
  rw [bestn_succ]
  cases hx:l[n]? with
  | none=>
   have hin:i < n:=by have:=(List.getElem?_eq_some_iff.1 hm).1;have:=List.getElem?_eq_none_iff.1 hx;omega
   unfold bstp;simp only [hx]
   exact bestn_max l u n i m hin hm hu
  | some x=>
   have hlx:lv l (n + 1) = x.v.q:=lv_get (by simpa using hx)
   by_cases hin:i = n
   ·subst hin
    rw [hm] at hx
    cases hx
    refine ⟨fun hup=>?_,fun hup=>?_⟩
    ·by_cases hc:(bestn l u i).1 = 0 ∨ lv l (bestn l u i).1 < m.v.q
     ·rw [bstp_lt hm hu hup hc];exact ⟨by simp,by rw [hlx];exact Rat.le_refl⟩
     ·rw [bstp_lf hm hu hup hc];exact ⟨fun e=>hc (.inl e),Rat.not_lt.1 (fun e=>hc (.inr e))⟩
    ·by_cases hc:(bestn l u i).2 = 0 ∨ m.v.q < lv l (bestn l u i).2
     ·rw [bstp_ut hm hu hup hc];exact ⟨by simp,by rw [hlx];exact Rat.le_refl⟩
     ·rw [bstp_uf hm hu hup hc];exact ⟨fun e=>hc (.inl e),Rat.not_lt.1 (fun e=>hc (.inr e))⟩
   ·obtain ⟨h1,h2⟩:=bestn_max l u n i m (by omega) hm hu
    by_cases hxu:x.unit = u
    ·cases hxup:x.up
     ·by_cases hc:(bestn l u n).1 = 0 ∨ lv l (bestn l u n).1 < x.v.q
      ·rw [bstp_lt hx hxu hxup hc]
       refine ⟨fun hup=>⟨by simp,?_⟩,h2⟩
       show m.v.q≤lv l (n + 1)
       rw [hlx]
       rcases hc with hc | hc
       ·exact absurd hc (h1 hup).1
       ·exact Rat.le_of_lt (Std.lt_of_le_of_lt (h1 hup).2 hc)
      ·rw [bstp_lf hx hxu hxup hc];exact ⟨h1,h2⟩
     ·by_cases hc:(bestn l u n).2 = 0 ∨ x.v.q < lv l (bestn l u n).2
      ·rw [bstp_ut hx hxu hxup hc]
       refine ⟨h1,fun hup=>⟨by simp,?_⟩⟩
       show lv l (n + 1)≤m.v.q
       rw [hlx]
       rcases hc with hc | hc
       ·exact absurd hc (h2 hup).1
       ·exact Rat.le_of_lt (Std.lt_of_lt_of_le hc (h2 hup).2)
      ·rw [bstp_uf hx hxu hxup hc];exact ⟨h1,h2⟩
    ·rw [bstp_ne hx hxu];exact ⟨h1,h2⟩
theorem best_max {l:List Lm} {u:Int} {m:Lm} (hm:m∈l) (hu:m.unit = u):(m.up = false→(best l u).1≠0∧m.v.q≤lv l (best l u).1)∧(m.up = true→(best l u).2≠0∧lv l (best l u).2≤m.v.q):=by
 obtain ⟨i,hi⟩:=List.getElem?_of_mem hm
 exact bestn_max l u l.length i m (List.getElem?_eq_some_iff.1 hi).1 hi hu
theorem best_more {l r:List Lm} {u:Int}:((best l u).1≠0→(best (l ++ r) u).1≠0∧lv l (best l u).1≤lv (l ++ r) (best (l ++ r) u).1)∧((best l u).2≠0→(best (l ++ r) u).2≠0∧lv (l ++ r) (best (l ++ r) u).2≤lv l (best l u).2):=by
 refine ⟨fun h=>?_,fun h=>?_⟩
 ·obtain ⟨m,h1,h2,h3,h4,_⟩:=best_lo h
  rw [h4]
  exact (best_max (List.mem_append_left _ (List.mem_of_getElem? h1)) h2).1 h3
 ·obtain ⟨m,h1,h2,h3,h4,_⟩:=best_hi h
  rw [h4]
  exact (best_max (List.mem_append_left _ (List.mem_of_getElem? h1)) h2).2 h3
theorem lv_zero_app {l r:List Lm} {u:Int}:((best l u).1≠0→lv (l ++ r) (best l u).1 = lv l (best l u).1)∧((best l u).2≠0→lv (l ++ r) (best l u).2 = lv l (best l u).2):=
 ⟨fun h=>lv_app (by omega) (best_le l u).1,fun h=>lv_app (by omega) (best_le l u).2⟩
def Agn (k:Nat) (l l':List Lm):Prop:=∀ u:Nat,u < k→best l (u:Int) = best l' (u:Int)∧((best l (u:Int)).1≠0→lv l (best l (u:Int)).1 = lv l' (best l (u:Int)).1)∧((best l (u:Int)).2≠0→lv l (best l (u:Int)).2 = lv l' (best l (u:Int)).2)
theorem Agn.app {k:Nat} {l r:List Lm} (h:∀ m∈r,(k:Int)≤m.unit):Agn k (l ++ r) l:=fun u hu=>by
 have e:best (l ++ r) (u:Int) = best l (u:Int):=best_app (fun m hm=>by have:=h m hm;omega)
 refine ⟨e,?_,?_⟩
 ·rw [e];exact lv_zero_app.1
 ·rw [e];exact lv_zero_app.2
theorem atMost_agn {k inp v:Nat} {l l':List Lm} (h:Agn k l l') (hv:v < inp + k):atMost inp l v = atMost inp l' v:=by
 by_cases h1:v < inp
 ·unfold atMost;rw [if_pos h1,if_pos h1]
 ·obtain ⟨e1,e2,e3⟩:=h (v - inp) (by omega)
  unfold atMost
  rw [if_neg h1,if_neg h1,← e1]
  by_cases hz:(best l ((v - inp:Nat):Int)).1 = 0 ∨ (best l ((v - inp:Nat):Int)).2 = 0
  ·rw [if_pos hz,if_pos hz]
  ·rw [if_neg hz,if_neg hz,e2 (fun e=>hz (.inl e)),e3 (fun e=>hz (.inr e))]
theorem abst_agn {k inp:Nat} {l l':List Lm} (h:Agn k l l') {t:Tm} (hv:t.1 < inp + k) (a:List Mu × Bool):abst inp l a t = abst inp l' a t:=by
 unfold abst;rw [atMost_agn h hv]
theorem absn_agn {k inp:Nat} {l l':List Lm} (h:Agn k l l'):∀ (ts:List Tm) (a:List Mu × Bool),(∀ t∈ts,t.1 < inp + k)→ts.foldl (abst inp l) a = ts.foldl (abst inp l') a
 | [],_,_=>rfl
 | t :: ts,a,hv=>by
  rw [List.foldl_cons,List.foldl_cons,abst_agn h (hv t (by simp)),absn_agn h ts _ (fun x hx=>hv x (by simp [hx]))]
theorem ub_agn {k v:Nat} {s s':Sc} (hq:s.q = s'.q) (h:Agn k s.lems s'.lems) (hv:v < s.q.g.inp + k):ub s v = ub s' v:=by
 unfold ub
 rw [← hq]
 by_cases h1:v < s.q.g.inp
 ·rw [if_pos h1,if_pos h1]
 ·obtain ⟨e1,e2,e3⟩:=h (v - s.q.g.inp) (by omega)
  rw [if_neg h1,if_neg h1,← e1]
  by_cases hz:(best s.lems ((v - s.q.g.inp:Nat):Int)).2 = 0
  ·rw [if_pos (.inl hz),if_pos (.inl hz)]
  ·rw [e3 hz]
theorem bndS_agn {k:Nat} {s s':Sc} (hq:s.q = s'.q) (h:Agn k s.lems s'.lems):∀ ts:List Tm,(∀ t∈ts,t.1 < s.q.g.inp + k)→bndS s ts = bndS s' ts
 | [],_=>rfl
 | t :: ts,hv=>by
  simp only [bndS]
  rw [bndS_agn hq h ts (fun x hx=>hv x (by simp [hx]))]
  have:bndT s t = bndT s' t:=by
   unfold bndT lb
   rw [ub_agn hq h (hv t (by simp)),hq]
  rw [this]
theorem abs_agn {k:Nat} {s s':Sc} (hk:k≤s.q.g.us.length) (hqo:QOk s.q) (hq:s.q = s'.q) (h:Agn k s.lems s'.lems) {f:Af} (hv:∀ t∈f.ts,t.1 < s.q.g.inp + k):abQ s f = abQ s' f∧abL s f = abL s' f∧abB s f = abB s' f:=by
 have e:absn s.q.g.inp s.lems f.ts = absn s'.q.g.inp s'.lems f.ts:=by
  rw [← hq];exact absn_agn h f.ts _ hv
 have e1:abL s f = abL s' f:=congrArg Prod.fst e
 have e2:abB s f = abB s' f:=congrArg Prod.snd e
 refine ⟨?_,e1,e2⟩
 cases hb:abB s f
 ·unfold abQ;rw [← e2,hb,if_neg (by decide),if_neg (by decide)]
 ·rw [abQ_eq hqo (fun t ht=>Nat.lt_of_lt_of_le (hv t ht) (by omega)) hb,abQ_eq (hq ▸ hqo) (fun t ht=>by rw [← hq];exact Nat.lt_of_lt_of_le (hv t ht) (by omega)) (e2 ▸ hb),bndS_agn hq h f.ts hv]
section
variable {d:Dom} {s:Sc} {bits:Int}
theorem sideN_mem {j:Nat} {up:Bool} {p:Af} {m:Lm} (h:m∈sideN d s bits j up p):m.unit = (j:Int)∧m.up = up∧m.v = qOf (sideV d s bits up p)∧m.pf = sideL d s up p:=by
 unfold sideN at h
 split at h
 ·rw [List.mem_singleton] at h;subst h;exact ⟨rfl,rfl,rfl,rfl⟩
 ·simp at h
theorem runN_more (d:Dom) (s:Sc) (bits:Int) (k:Nat):∀ n,∃ r,runN d s bits (k + n) = runN d s bits k ++ r∧∀ m∈r,(k:Int)≤m.unit
 | 0=>⟨[],by simp,fun m hm=>by simp at hm⟩
 | n + 1=>by
  obtain ⟨r,h1,h2⟩:=runN_more d s bits k n
  rw [show k + (n + 1) = (k + n) + 1 by omega,runN_succ]
  unfold runStep
  cases hp:s.q.g.us[k + n]? with
  | none=>exact ⟨r,h1,h2⟩
  | some p=>
   refine ⟨r ++ (sideN d (withL s (runN d s bits (k + n))) bits (k + n) false p ++ sideN d (withL s (runA d s bits (runN d s bits (k + n)) (k + n) p)) bits (k + n) true p),?_,fun m hm=>?_⟩
   ·simp only []
    unfold runA
    rw [h1]
    simp only [List.append_assoc]
   ·rcases List.mem_append.1 hm with hm | hm
    ·exact h2 m hm
    ·rcases List.mem_append.1 hm with hm | hm
     ·rw [(sideN_mem hm).1];omega
     ·rw [(sideN_mem hm).1];omega
theorem runN_pre (d:Dom) (s:Sc) (bits:Int) {n k:Nat} (h:n≤k):∃ r,runN d s bits k = runN d s bits n ++ r∧∀ m∈r,(n:Int)≤m.unit:=by
 have:=runN_more d s bits n (k - n)
 rwa [show n + (k - n) = k by omega] at this
end
theorem strong_no {l l':List Lm} {j:Nat} {up:Bool} {x:Rat} (h:strong l j up x = false) (hl:∃ r,l' = l ++ r):strong l' j up x = false:=by
 obtain ⟨r,rfl⟩:=hl
 cases up
 ·by_cases h1:(best l (j:Int)).1 = 0
  ·rw [strong,if_neg (by decide),decide_eq_true h1] at h;simp at h
  ·by_cases h2:lv l (best l (j:Int)).1 < x
   ·rw [strong,if_neg (by decide),decide_eq_true h2] at h;simp at h
   ·obtain ⟨q1,q2⟩:=(best_more (r:=r)).1 h1
    unfold strong
    rw [if_neg (by decide),decide_eq_false q1,decide_eq_false (fun e=>h2 (Std.lt_of_le_of_lt q2 e))];rfl
 ·by_cases h1:(best l (j:Int)).2 = 0
  ·rw [strong,if_pos rfl,decide_eq_true h1] at h;simp at h
  ·by_cases h2:x < lv l (best l (j:Int)).2
   ·rw [strong,if_pos rfl,decide_eq_true h2] at h;simp at h
   ·obtain ⟨q1,q2⟩:=(best_more (r:=r)).2 h1
    unfold strong
    rw [if_pos rfl,decide_eq_false q1,decide_eq_false (fun e=>h2 (Std.lt_of_lt_of_le e q2))];rfl
theorem strong_mem {l:List Lm} {j:Nat} {up:Bool} {x:Rat} {m:Lm} (hm:m∈l) (hu:m.unit = (j:Int)) (hup:m.up = up) (hv:m.v.q = x):strong l j up x = false:=by
 obtain ⟨h1,h2⟩:=best_max hm hu
 cases up
 ·obtain ⟨q1,q2⟩:=h1 hup
  unfold strong
  rw [if_neg (by decide),decide_eq_false q1,decide_eq_false (fun e=>by rw [← hv] at e;exact absurd (Std.lt_of_le_of_lt q2 e) (Rat.lt_irrefl))];rfl
 ·obtain ⟨q1,q2⟩:=h2 hup
  unfold strong
  rw [if_pos rfl,decide_eq_false q1,decide_eq_false (fun e=>by rw [← hv] at e;exact absurd (Std.lt_of_lt_of_le e q2) (Rat.lt_irrefl))];rfl
theorem side_again {s s':Sc} {bits:Int} {j:Nat} {up:Bool} {p:Af} (hq:s.q = s'.q) (hqo:QOk s.q) (hp:s.q.g.us[j]? = some p) (ha:Agn j s'.lems s.lems) (hl:∃ r,s'.lems = s.lems ++ sideN absD s bits j up p ++ r):sideN absD s' bits j up p = []:=by
 have hj:=(List.getElem?_eq_some_iff.1 hp).1
 have hpo:=hqo.g.us j p hp
 have e1:=abs_agn (s:=s') (s':=s) (k:=j) (by rw [← hq];omega) (hq ▸ hqo) hq.symm ha (f:=p) (fun t ht=>by rw [← hq];exact hpo.var t ht)
 have e2:=abs_agn (s:=s') (s':=s) (k:=j) (by rw [← hq];omega) (hq ▸ hqo) hq.symm ha (f:=negF p) (fun t ht=>by rw [← hq];exact hpo.neg.var t ht)
 have eV:sideV absD s' bits up p = sideV absD s bits up p:=by unfold sideV absD;rw [e1.1,e2.1]
 have eB:sideB absD s' up p = sideB absD s up p:=by unfold sideB absD;rw [e1.2.2,e2.2.2]
 obtain ⟨r,hl⟩:=hl
 cases hb:sideB absD s up p
 ·unfold sideN;rw [eB,hb];rfl
 ·cases hs:strong s.lems j up (sideV absD s bits up p)
  ·have:strong s'.lems j up (sideV absD s bits up p) = false:=strong_no hs ⟨sideN absD s bits j up p ++ r,by rw [hl,List.append_assoc]⟩
   unfold sideN;rw [eV,this,Bool.and_false];rfl
  ·have hn:sideN absD s bits j up p = [⟨(j:Int),up,qOf (sideV absD s bits up p),sideL absD s up p⟩]:=by unfold sideN;rw [hb,hs];rfl
   have:strong s'.lems j up (sideV absD s bits up p) = false:=strong_mem (m:=⟨(j:Int),up,qOf (sideV absD s bits up p),sideL absD s up p⟩) (by rw [hl,hn];simp) rfl rfl (qOf_q _)
   unfold sideN;rw [eV,this,Bool.and_false];rfl
theorem run_again {s:Sc} {bits:Int} (hqo:QOk s.q):∀ n,n≤s.q.g.us.length→runN absD (runM absD s bits) bits n = (runM absD s bits).lems
 | 0,_=>rfl
 | n + 1,hn=>by
  obtain ⟨p,hp⟩:∃ p,s.q.g.us[n]? = some p:=⟨_,List.getElem?_eq_getElem (by omega)⟩
  have hp':(runM absD s bits).q.g.us[n]? = some p:=hp
  obtain ⟨r,hr,hru⟩:=runN_pre absD s bits hn
  have hst:=runN_get (d:=absD) (s:=s) (bits:=bits) hp
  have hlems:(runM absD s bits).lems = runN absD s bits n ++ sideN absD (withL s (runN absD s bits n)) bits n false p ++ sideN absD (withL s (runA absD s bits (runN absD s bits n) n p)) bits n true p ++ r:=by
   show runN absD s bits s.q.g.us.length = _
   rw [hr,hst];unfold runA;rfl
  have hge:∀ m∈sideN absD (withL s (runN absD s bits n)) bits n false p ++ sideN absD (withL s (runA absD s bits (runN absD s bits n) n p)) bits n true p ++ r,(n:Int)≤m.unit:=fun m hm=>by
   rcases List.mem_append.1 hm with hm | hm
   ·rcases List.mem_append.1 hm with hm | hm
    ·rw [(sideN_mem hm).1];omega
    ·rw [(sideN_mem hm).1];omega
   ·have:=hru m hm;omega
  have a1:Agn n (runM absD s bits).lems (runN absD s bits n):=by
   rw [hlems,List.append_assoc,List.append_assoc]
   refine Agn.app (fun m hm=>hge m ?_)
   rwa [List.append_assoc]
  have a2:Agn n (runM absD s bits).lems (runA absD s bits (runN absD s bits n) n p):=by
   have e:(runM absD s bits).lems = runA absD s bits (runN absD s bits n) n p ++ (sideN absD (withL s (runA absD s bits (runN absD s bits n) n p)) bits n true p ++ r):=by
    rw [hlems];unfold runA;rw [List.append_assoc]
   rw [e]
   refine Agn.app (fun m hm=>hge m ?_)
   rw [List.append_assoc];exact List.mem_append_right _ hm
  rw [runN_get hp',run_again hqo n (by omega)]
  have h1:sideN absD (withL (runM absD s bits) (runM absD s bits).lems) bits n false p = []:=
   side_again (s:=withL s (runN absD s bits n)) rfl hqo hp a1 ⟨_,by show (runM absD s bits).lems = _;rw [hlems,List.append_assoc _ (sideN absD (withL s (runA absD s bits (runN absD s bits n) n p)) bits n true p) r];rfl⟩
  have hA:runA absD (runM absD s bits) bits (runM absD s bits).lems n p = (runM absD s bits).lems:=by
   unfold runA;rw [h1,List.append_nil]
  rw [hA]
  have h2:sideN absD (withL (runM absD s bits) (runM absD s bits).lems) bits n true p = []:=
   side_again (s:=withL s (runA absD s bits (runN absD s bits n) n p)) rfl hqo hp a2 ⟨r,by show (runM absD s bits).lems = _;rw [hlems];rfl⟩
  rw [h2,List.append_nil]
theorem run_twice {s:Sc} {bits:Int} (hqo:QOk s.q):runM absD (runM absD s bits) bits = runM absD s bits:=by
 show withL (runM absD s bits) (runN absD (runM absD s bits) bits s.q.g.us.length) = _
 rw [run_again hqo _ (Nat.le_refl _)];rfl
theorem unit_fok {s:Sc} (h:QOk s.q) {j:Nat} {p:Af} (hp:s.q.g.us[j]? = some p):FOk 3 (s.q.g.inp + s.q.g.us.length) p:=(h.g.us j p hp).mono (Nat.le_refl _) (by have:=(List.getElem?_eq_some_iff.1 hp).1;omega)
end Rc
set_option linter.unusedSimpArgs false
set_option linter.unusedVariables false
namespace Rc
open Go Go.RowKit
def awF:Af:=⟨[(0,((1:Int):Rat))],((-1:Int):Rat)⟩
def awQ:Qu:=⟨⟨1,[awF],[awF]⟩,⟨[0],[((3:Int):Rat)],[]⟩,fZ⟩
def awS:Sc:=⟨awQ,[],[]⟩
theorem rat0:D.agg [Leaf.val (.bool false),nilL,nilL] = D.agg (qL 0):=by
 show _ = D.agg [Leaf.val (.bool (cneg 0)),natL (limbs (cnum 0)),natL (limbs (cden 0))]
 rw [cnum_zero,cden_zero,limbs_zero];rfl
theorem awF_ok (n:Nat) (h:1≤n):FOk 3 n awF:=
 ⟨⟨by decide,fun t ht=>by simp at ht,trivial⟩,fun t ht=>by simp [awF] at ht;subst ht;exact Hb.int (by decide),Hb.int (by decide),fun t ht=>by simp [awF] at ht;subst ht;exact h⟩
theorem awQ_ok:QOk awQ:=by
 refine ⟨⟨by decide,by decide,by decide,by decide,by decide,fun j x hx=>?_,fun x hx=>?_⟩,⟨rfl,rfl,by decide,fun j x y hx hy=>?_,fun x hx=>by simp [awQ] at hx⟩,⟨trivial,fun t ht=>by simp [awQ,fZ] at ht,Hb.z,fun t ht=>by simp [awQ,fZ] at ht⟩⟩
 ·have hx:[awF][j]? = some x:=hx
  have:=List.mem_of_getElem? hx
  rw [List.mem_singleton] at this
  subst this;exact awF_ok _ (by show 1≤1 + j;omega)
 ·have hx:x∈[awF]:=hx
  rw [List.mem_singleton] at hx
  subst hx;exact awF_ok _ (by decide)
 ·have hx:[(0:Rat)][j]? = some x:=hx
  have hy:[((3:Int):Rat)][j]? = some y:=hy
  have h1:=List.mem_of_getElem? hx
  have h2:=List.mem_of_getElem? hy
  rw [List.mem_singleton] at h1 h2
  subst h1;subst h2
  exact ⟨Hb.z,Hb.int (by decide),by decide⟩
theorem awS_ok:SOk awS:=⟨awQ_ok,fun d hd=>by simp [awS] at hd,by decide,fun m hm=>by simp [awS] at hm,by decide⟩
theorem aw_lo:abB awS awF = true∧abQ awS awF = ((-1:Int):Rat):=by
 have hb:abB awS awF = true:=by
  show (abst 1 [] ([],true) (0,((1:Int):Rat))).2 = true
  rw [abst_pos (by show (0:Rat) < ((1:Int):Rat);decide)]
 refine ⟨hb,?_⟩
 rw [abQ_eq awQ_ok (fun t ht=>(awF_ok 1 (by decide)).var t ht |> fun h=>by show t.1 < 1 + 1;omega) hb]
 decide +kernel
theorem aw_hi (l:List Lm):abB (withL awS l) (negF awF) = true∧abQ (withL awS l) (negF awF) = ((-2:Int):Rat):=by
 have e:(negF awF).ts = [(0,((-1:Int):Rat))]:=by decide +kernel
 have e2:(negF awF).c = ((1:Int):Rat):=by decide +kernel
 have hb:abB (withL awS l) (negF awF) = true:=by
  unfold abB absn
  rw [e]
  show (abst 1 l ([],true) (0,((-1:Int):Rat))).2 = true
  rw [abst_some (by decide) (by unfold atMost;rw [if_pos (by decide)];rfl)]
 refine ⟨hb,?_⟩
 rw [abQ_eq awQ_ok (fun t ht=>(awF_ok 1 (by decide)).neg.var t ht |> fun h=>by show t.1 < 1 + 1;omega) hb,e,e2]
 have h1:bndT (withL awS l) (0,((-1:Int):Rat)) = ((3:Int):Rat):=by
  unfold bndT
  rw [if_neg (show ¬ (0:Rat) < ((-1:Int):Rat) by decide)]
  unfold ub
  rw [if_pos (show (0:Nat) < (withL awS l).q.g.inp from Nat.one_pos)]
  rfl
 simp only [bndS]
 rw [h1]
 decide +kernel
def awL:List Lm:=[⟨0,false,qOf ((-1:Int):Rat),abL awS awF⟩]
theorem aw_run:∃ p p':List Mu,(runM absD awS 0).lems = [⟨0,false,qOf ((-1:Int):Rat),p⟩,⟨0,true,qOf ((2:Int):Rat),p'⟩]:=by
 refine ⟨abL awS awF,abL (withL awS awL) (negF awF),?_⟩
 have h1:runN absD awS 0 0 = []:=rfl
 have hA:runA absD awS 0 [] 0 awF = awL:=by
  have hv:sideV absD awS 0 false awF = ((-1:Int):Rat):=by
   unfold sideV;rw [if_neg (by decide)];show rndB (abQ awS awF) false 0 = _;unfold rndB;rw [if_pos rfl,aw_lo.2]
  show [] ++ sideN absD awS 0 0 false awF = _
  rw [sideN_t (d:=absD) (s:=awS) (bits:=0) (j:=0) (up:=false) (p:=awF) aw_lo.1 (by rfl),hv];rfl
 have hB:sideN absD (withL awS awL) 0 0 true awF = [⟨0,true,qOf ((2:Int):Rat),abL (withL awS awL) (negF awF)⟩]:=by
  have hv:sideV absD (withL awS awL) 0 true awF = ((2:Int):Rat):=by
   unfold sideV;rw [if_pos rfl];show rndB (-(abQ (withL awS awL) (negF awF))) true 0 = _;unfold rndB;rw [if_pos rfl,(aw_hi awL).2];decide +kernel
  rw [sideN_t (d:=absD) (s:=withL awS awL) (bits:=0) (j:=0) (up:=true) (p:=awF) (aw_hi awL).1 (by rfl),hv];rfl
 show runN absD awS 0 (0 + 1) = _
 rw [runN_get (p:=awF) rfl,h1,hA,hB];rfl
theorem aw_get:∃ a b:Lm,(runM absD awS 0).lems[0]? = some a∧(runM absD awS 0).lems[1]? = some b∧a.v = qOf ((-1:Int):Rat)∧b.up = true∧b.v = qOf ((2:Int):Rat)∧(runM absD awS 0).lems.length = 2:=by
 obtain ⟨p,p',h⟩:=aw_run
 rw [h]
 exact ⟨_,_,rfl,rfl,rfl,rfl,rfl,rfl⟩
theorem awq_ls:D.agg [Leaf.val (.int .i64 1),afE.row [awF],afE.row [awF],ratE.row [0],ratE.row [((3:Int):Rat)],afE.row [],tmE.row [],Leaf.val (.bool false),nilL,nilL] = (D.v (quV awQ)):=by
 show _ = D.agg [Leaf.val (.int .i64 1),afE.row [awF],afE.row [awF],ratE.row [0],ratE.row [((3:Int):Rat)],afE.row [],tmE.row [],Leaf.val (.bool (cneg 0)),natL (limbs (cnum 0)),natL (limbs (cden 0))]
 rw [cnum_zero,cden_zero,limbs_zero];rfl
end Rc
set_option linter.unusedSimpArgs false
set_option linter.unusedVariables false
namespace Go.Proofs.YtjdbopkbfkgpdaaGreatDoor
open Go Go.RowKit Rc
set_option maxRecDepth 10000 in
theorem simple0 (nm:ByteArray) (s:Sc) (hs:SOk s) (f:Af) (hf:FOk 3 (s.q.g.inp + s.q.g.us.length) f):Ctr Tryz.prog 31 [V.agg [Leaf.val (.string nm),Leaf.val (.int .i64 0)],scV s,afV f] (R.tup [qV (qOf (abQ s f)),V.one (El.row muE (abL s f)),V.one (Leaf.val (.bool (abB s f)))]):=by
 refine Ctr.of_body Tryz.func31 rfl Tryz.ntmps31 (Nat.le_of_ble_eq_true rfl) (fun w0 A0=>?_)
 refine c_a (t_f rfl (Je_box (n:=0) rfl rfl rfl) (t_f rfl (Je_box (n:=1) rfl rfl rfl) (t_f rfl (Je_box (n:=2) rfl rfl rfl) (t_f rfl (Je_alloc (n:=3) rfl tz34 rfl) (t_q rfl (Jq_assign_nil rfl) (a_ FT 1 rfl (cns (Tc_seq (Tc_drawK 0 [none,none,none,none,none,none,none,none,none,none,none,none,none] [] follows (by kernel_rfl) ?_)))))))))
 refine d_ FT 2 rfl (dq_ rfl rfl (Jq_gtr rfl rfl rfl (b:=false) (rfl)) (d_ FT 10 rfl (DK_nil (At_then (Tc_f rfl (c_b (c_a (a_ FT 2 rfl (t_f rfl (Je_call rfl fn46 rfl (lower_r s hs f hf (by omega))) ?_)))))))))
 refine a_ FT 6 rfl (c_n ?_)
 exact Tc_ret3 hq_ rfl (rA ty34 rfl rfl rfl rfl) rfl rfl rfl
theorem run_simple (s:Sc) (hs:SOk s) (h80:s.lems.length≤80) (bits:Int) (h0:0≤bits) (h4:bits≤4096):Ctr Tryz.prog 12 [V.one (Leaf.val (ifV 48 [.string ⟨#[]⟩,.int .i64 0])),scV s,V.one (Leaf.val (.int .i64 (bits)))] (R.tup [scV (runM absD s bits),V.one (Leaf.val (.int .i64 0))]):=
 drun absD absD_ok 48 31 [.string ⟨#[]⟩,.int .i64 0] rfl (by kernel_rfl) fn31 (fun s f hs hf=>simple0 _ s hs f hf) s hs h80 bits h0 h4
theorem run_again_simple (s:Sc) (hs:SOk s) (h80:s.lems.length≤60) (bits:Int) (h0:0≤bits) (h4:bits≤4096):Ctr Tryz.prog 12 [V.one (Leaf.val (ifV 48 [.string ⟨#[]⟩,.int .i64 0])),scV (runM absD s bits),V.one (Leaf.val (.int .i64 (bits)))] (R.tup [scV (runM absD s bits),V.one (Leaf.val (.int .i64 0))]):=by
 have h:=runM_ok absD_ok hs (by omega) bits
 have:=run_simple (runM absD s bits) h.1 (by omega) bits h0 h4
 rwa [run_twice hs.q] at this
set_option maxRecDepth 10000 in
set_option maxHeartbeats 2000000 in
theorem awake_t  : Ctr Tryz.prog 10 [] (R.one (V.one (Leaf.val (.bool true)))):=by
 refine Ctr.of_body Tryz.func10 rfl Tryz.ntmps10 (Nat.le_of_ble_eq_true rfl) (fun w0 A0=>?_)
 obtain ⟨a,b,ha,hb,ha1,hb1,hb2,hlen⟩:=aw_get
 refine c_a (a_ FT 1 rfl (cna (t_f rfl (Je_call rfl fn33 rfl (rqof 1 (by decide) (by decide))) (t_f rfl (Je_alloc (n:=0) rfl tz34 rfl) (a_ FT 1 rfl (cns (Tc_drawK 1 [none,none,none,none,none,some 1,some 1] [1] follows (by kernel_rfl) (d_ FT 1 rfl (dq_ rfl rfl (Jq_build rfl tz68 rfl pl68 rfl) ?_)))))))))
 refine DK_c rfl rfl (fun _=>Je_buildSlice rfl un30 ty68 tz68 rfl (by decide) (by decide) rfl (by decide) rfl) (DK_c rfl rfl (Jd_call rfl fn33 rfl (rqof (-1) (by decide) (by decide))) (dq_ rfl rfl (Jq_build rfl tz36 rfl pl36 rfl) (DK_s 1 rfl rfl rfl (Jd_alloc (i:=1) rfl tz36 rfl) (DK_s 1 rfl rfl rfl (Jd_store rfl rfl rfl rfl ty36 rfl (by decide) (Nat.le_of_ble_eq_true rfl) rfl) ?_))))
 refine DK_nil (At_then (Tc_seq (Tc_drawK 1 [none,none,none,none,none,none,none,none,none,none,none,some 2,some 2] [2] follows (by kernel_rfl) (d_ FT 1 rfl (DK_c rfl rfl (fun _=>Je_buildSlice rfl un24 ty36 tz36 rfl (by decide) (by decide) rfl (by decide) rfl) (d_ FT 1 rfl ?_))))))
 refine DK_c rfl rfl (fun _=>Je_buildSlice rfl un24 ty36 tz36 rfl (by decide) (by decide) rfl (by decide) rfl) (dq_ rfl rfl (Jq_build rfl tz26 rfl pl26 rfl) (dq_ rfl rfl (Jq_build rfl tz34 rfl pl34 rfl) (DK_eq (D.agg (qL 0)) (rat0) (DK_c rfl rfl (fun _=>Je_buildSlice rfl un27 ty34 tz34 rfl (by decide) (by decide) rfl (by decide) rfl) ?_))))
 refine DK_c rfl rfl (Jd_call rfl fn33 rfl (rqof 3 (by decide) (by decide))) (DK_c rfl rfl (fun _=>Je_buildSlice rfl un27 ty34 tz34 rfl (by decide) (by decide) rfl (by decide) rfl) (dq_ rfl rfl (Jq_build rfl tz29 rfl pl29 rfl) (dq_ rfl rfl (Jq_build rfl tz38 rfl pl38 rfl) (DK_eq (D.v (quV awQ)) (awq_ls) (DK_s 2 rfl rfl rfl (Jd_alloc (i:=2) rfl tz38 rfl) ?_)))))
 refine DK_s 2 rfl rfl rfl (Jd_store rfl rfl rfl rfl ty38 rfl (by decide) (Nat.le_of_ble_eq_true rfl) rfl) (DK_nil (At_then (c_a (t_q rfl (Jq_build rfl tz48 rfl pl48 rfl) (t_q rfl (Jq_iface (vs:=[.string ⟨#[]⟩,.int .i64 0]) rfl rfl (by kernel_rfl)) (a_ FT 1 rfl (t_q rfl (Jq_build rfl tz42 rfl pl42 rfl) ?_)))))))
 refine t_f rfl (Je_call rfl fn12 rfl (run_simple awS awS_ok (by decide) 0 (by decide) (by decide))) (a_ FT 3 rfl (t_f rfl (Je_alloc (n:=3) rfl tz42 rfl) (a_ FT 2 rfl (cna (t_q rfl (Jq_build rfl tz48 rfl pl48 rfl) (t_q rfl (Jq_iface (vs:=[.string ⟨#[]⟩,.int .i64 0]) rfl rfl (by kernel_rfl)) (a_ FT 1 rfl ?_)))))))
 refine t_f rfl (Je_call rfl fn12 rfl (run_again_simple awS awS_ok (by decide) 0 (by decide) (by decide))) (a_ FT 3 rfl (t_f rfl (Je_alloc (n:=4) rfl tz42 rfl) (a_ FT 2 rfl (cns ?_))))
 refine Tc_drawK 0 [none,none,none,none,none,none,none,none,none,none,none,none,none,none,none,none,none,none,none,none,none,none,none,none,none,none,none,none,none,none,none,none,none,none,none,none,none,none,none,none,none,none,none,none] [] follows (by kernel_rfl) (d_ FT 1 rfl (dq_ rfl rfl (Jq_eql rfl rfl rfl (b:=true) (rfl)) ?_))
 refine d_ FT 2 rfl (DK_q (JO_qg rfl rfl rfl rfl (Jq_eql rfl rfl rfl (b:=true) (rfl))) (d_ FT 4 rfl (DK_q (JO_qg rfl rfl rfl rfl (Jq_len rfl rfl un40)) (DK_q (JO_qg rfl rfl rfl rfl (Jq_eql rfl rfl rfl (b:=true) (eT (by omega)))) (d_ FT 4 rfl (DK_q (JO_qg rfl rfl rfl rfl (Jq_len rfl rfl un40)) (DK_q (JO_qg rfl rfl rfl rfl (Jq_eql rfl rfl rfl (b:=true) (eT (by omega)))) ?_)))))))
 refine d_ FT 4 rfl (DK_q (JO_qg rfl rfl rfl rfl (Jq_indexX lmE ((runM absD awS 0).lems) (0) rfl rfl rfl un40 ty64 ha)) (DK_q (JO_qg rfl rfl rfl rfl (Jq_fieldAddr_refT rfl rfl fo64_2 rfl rfl)) (DK_q (JO_qg rfl rfl rfl rfl (Jq_load_ref_agg rfl rfl ty34 rfl)) (DK_cg rfl rfl rfl rfl (Jd_call rfl fn33 rfl (rqof (-1) (by decide) (by decide))) ?_))))
 refine DK_cg rfl rfl rfl rfl (Jd_call rfl fn24 rfl (rqsame a.v (qOf ((-1:Int):Rat)))) (DK_is true (by rw [ha1];exact sameQ_self _) (d_ FT 4 rfl (DK_q (JO_qg rfl rfl rfl rfl (Jq_indexX lmE ((runM absD awS 0).lems) (1) rfl rfl rfl un40 ty64 hb)) (DK_q (JO_qg rfl rfl rfl rfl (Jq_fieldAddr_ref rfl rfl fo64_1 rfl)) (DK_q (JO_qg rfl rfl rfl rfl (Jq_load_ref rfl rfl ty4)) ?_)))))
 refine DK_is true (hb1) (d_ FT 4 rfl (DK_q (JO_qg rfl rfl rfl rfl (Jq_indexX lmE ((runM absD awS 0).lems) (1) rfl rfl rfl un40 ty64 hb)) (DK_q (JO_qg rfl rfl rfl rfl (Jq_fieldAddr_refT rfl rfl fo64_2 rfl rfl)) (DK_q (JO_qg rfl rfl rfl rfl (Jq_load_ref_agg rfl rfl ty34 rfl)) (DK_cg rfl rfl rfl rfl (Jd_call rfl fn33 rfl (rqof 2 (by decide) (by decide))) ?_)))))
 refine DK_cg rfl rfl rfl rfl (Jd_call rfl fn24 rfl (rqsame b.v (qOf ((2:Int):Rat)))) (DK_is true (by rw [hb2];exact sameQ_self _) (d_ FT 2 rfl (DK_nil (At_then ?_))))
 exact Tc_ret1 hq_ rfl rfl rfl
end Go.Proofs.YtjdbopkbfkgpdaaGreatDoor
set_option linter.unusedSimpArgs false
set_option linter.unusedVariables false
namespace Rc
open Go Go.RowKit
def sl (s:Sc) (up:Bool) (p:Af):List Mu:=if up = true then abL s (negF p) else abL s p
end Rc
