/- Parts of the proof, 7: the texts WkH, WkI, Qi, WkJ, WkQ, WkR, WkS, WkT, Feed, WkU, WkV, WkW, Mod, FactsE, WlA, WlB, WlC, WlD, WkX, WlE, as far as they are used. -/
import Derived.Test.YtmpkandbccallaaGreatDoorBo06
set_option linter.unusedSimpArgs false
set_option linter.unusedVariables false
namespace Go.Proofs.YtmpkandbccallaaGreatDoor
open Go Go.RowKit Rc
theorem make_w (a:List Nat) (hsa:Small a) (hla:a.length≤10000000000000) (m:Nat) (hm:val a = m):Ctr Tryz.prog 157 [V.one (natL a)] (R.one (V.one (natL (limbs m)))):=by
 subst hm
 exact make_spec a hsa hla
theorem add_w (a:List Nat) (hsa:Small a) (hla:a.length≤10000000000000) (b:List Nat) (hsb:Small b) (hlb:b.length≤10000000000000) (m:Nat) (hm:val a = m) (n:Nat) (hn:val b = n):Ctr Tryz.prog 155 [V.one (natL a),V.one (natL b)] (R.one (V.one (natL (limbs (m + n))))):=by
 subst hm;subst hn
 exact add_spec a b hsa hsb hla hlb
theorem mul_w (a:List Nat) (hsa:Small a) (hla:a.length≤10000000000000) (b:List Nat) (hsb:Small b) (hlb:b.length≤10000000000000) (m:Nat) (hm:val a = m) (n:Nat) (hn:val b = n):Ctr Tryz.prog 100 [V.one (natL a),V.one (natL b)] (R.one (V.one (natL (limbs (m * n))))):=by
 subst hm;subst hn
 exact mul_spec a b hsa hsb hla hlb
theorem cmp_w (a:List Nat) (hsa:Small a) (b:List Nat) (hsb:Small b) (m:Nat) (hm:val a = m) (n:Nat) (hn:val b = n):Ctr Tryz.prog 146 [V.one (natL a),V.one (natL b)] (R.one (V.one (Leaf.val (.int .i64 (cmpN m n))))):=by
 subst hm;subst hn
 exact cmp_spec a b hsa hsb
theorem bits_w (a:List Nat) (hsa:Small a) (hla:a.length≤10000000000000) (m:Nat) (hm:val a = m):Ctr Tryz.prog 152 [V.one (natL a)] (R.one (V.one (Leaf.val (.int .i64 ((bl m:Nat):Int))))):=by
 subst hm
 exact bits_spec a hsa hla
theorem gcd_w (a:List Nat) (hsa:Small a) (hla:a.length≤9000000000000) (b:List Nat) (hsb:Small b) (hlb:b.length≤9000000000000) (m:Nat) (hm:val a = m) (n:Nat) (hn:val b = n):Ctr Tryz.prog 159 [V.one (natL a),V.one (natL b)] (R.one (V.one (natL (limbs (Nat.gcd m n))))):=by
 subst hm;subst hn
 exact gcd_spec a b hsa hsb hla hlb
theorem sub_w (a b:List Nat) (hsa:Small a) (hsb:Small b) (hla:a.length≤10000000000000) (m n:Nat) (hm:val a = m) (hn:val b = n) (hge:n≤m):Ctr Tryz.prog 156 [V.one (natL a),V.one (natL b)] (R.tup [V.one (natL (limbs (m - n))),V.one (Leaf.val (.int .i64 0))]):=by
 subst hm;subst hn;exact sub_spec a b hsa hsb hla hge
theorem divmod_w (a b:List Nat) (hsa:Small a) (hsb:Small b) (hla:a.length≤9000000000000) (hlb:b.length≤9000000000000) (m n:Nat) (hm:val a = m) (hn:val b = n) (h0:n≠0):Ctr Tryz.prog 160 [V.one (natL a),V.one (natL b)] (R.tup [V.one (natL (limbs (m / n))),V.one (natL (limbs (m % n))),V.one (Leaf.val (.int .i64 0))]):=by
 subst hm;subst hn;exact divmod_spec a b hsa hsb hla hlb (Nat.pos_of_ne_zero h0)
theorem rmake_w (a:List Nat) (hsa:Small a) (hla:a.length≤10000000000000) (m:Nat) (hm:val a = m):Ctr Tryz.prog 173 [V.one (natL a)] (R.one (V.one (natL (limbs m)))):=by
 subst hm
 exact rmake_spec a hsa hla
theorem rdivmod_w (a b:List Nat) (hsa:Small a) (hsb:Small b) (hla:a.length≤8000000000000) (hlb:b.length≤8000000000000) (m n:Nat) (hm:val a = m) (hn:val b = n) (h0:n≠0):Ctr Tryz.prog 177 [V.one (natL a),V.one (natL b)] (R.tup [V.one (natL (limbs (m / n))),V.one (natL (limbs (m % n))),V.one (Leaf.val (.int .i64 0))]):=by
 subst hm;subst hn;exact rdivmod_spec a b hsa hsb hla hlb h0
set_option maxRecDepth 10000 in
theorem rgcd_spec (la lb:List Nat) (hsa:Small la) (hsb:Small lb) (hla0:la.length≤8000000000000) (hlb0:lb.length≤8000000000000):Ctr Tryz.prog 176 [V.one (natL la),V.one (natL lb)] (R.one (V.one (natL (limbs (Nat.gcd (val la) (val lb)))))):=by
 refine bd_ Tryz.func176 Tryz.ntmps176 rfl (fun w0 A0=>?_)
 refine zc 6 rfl ?_
 have ha0:=limbs_val_length hsa;have hb0:=limbs_val_length hsb
 obtain ⟨g,hg⟩:∃ g,Nat.gcd (val la) (val lb) = g:=⟨_,rfl⟩
 rw [hg]
 refine zc 2 rfl (tc_ fn173 rfl (rmake_spec la hsa (by omega)) (zl 1 rfl (tc_ fn173 rfl (rmake_spec lb hsb (by omega)) (zl 6 rfl ?_))))
 refine lpR_ (fun m Γ H=>∃ (x:Nat) (y:Nat),y = m∧Γ = [(0,some (D.v (V.one (natL (limbs x))))),(1,some (D.v (V.one (natL (limbs y)))))]∧H = []∧Nat.gcd x y = g∧(limbs x).length≤8000000000000∧(limbs y).length≤8000000000000) ⟨val la,val lb,rfl,rfl,rfl,hg,by omega,by omega⟩ rfl ?_
 rintro m Γ H ⟨x,y,rfl,rfl,rfl,hxy,hx,hy⟩
 refine zc 4 rfl (tq_ rfl (jln rfl) ?_)
 by_cases hl:0 < (limbs y).length
 ·refine tq_ rfl (gtT rfl) (zl 7 rfl ?_)
  have hy0:y≠0:=limbs_len_pos.1 hl
  have hm:=Nat.mod_lt x (Nat.pos_of_ne_zero hy0)
  have hml:=limbs_length_mono (Nat.le_of_lt hm)
  refine zc 3 rfl (tc_ fn177 rfl (rdivmod_w (limbs x) (limbs y) (small_limbs _) (small_limbs _) (by omega) (by omega) x y (val_limbs _) (val_limbs _) hy0) (zl 16 rfl ?_))
  exact nx_ ⟨y,x % y,rfl,rfl,rfl,by rw [Nat.gcd_comm,← hxy,Nat.gcd_comm x y,Nat.gcd_rec y x],hy,by omega⟩ rfl hm
 ·refine tq_ rfl (gtF rfl) (zl 9 rfl ?_)
  have hy0:y = 0:=limbs_eq_nil.1 (List.eq_nil_of_length_eq_zero (by omega))
  subst hy0
  rw [Nat.gcd_zero_right] at hxy
  subst hxy
  refine zc 5 rfl ?_
  exact r1_ hq_ rfl rfl
theorem rgcd_w (a:List Nat) (hsa:Small a) (hla:a.length≤8000000000000) (b:List Nat) (hsb:Small b) (hlb:b.length≤8000000000000) (m:Nat) (hm:val a = m) (n:Nat) (hn:val b = n):Ctr Tryz.prog 176 [V.one (natL a),V.one (natL b)] (R.one (V.one (natL (limbs (Nat.gcd m n))))):=by
 subst hm;subst hn
 exact rgcd_spec a b hsa hsb hla hlb
set_option maxRecDepth 10000 in
theorem zmake (neg:Bool) (l:List Nat) (hs:Small l) (hl:l.length≤10000000000000) (n:Nat) (hn:val l = n):Ctr Tryz.prog 153 [V.one (Leaf.val (.bool neg)),V.one (natL l)] (R.one (zV (zOf (sgn neg n)))):=by
 refine bd_ Tryz.func153 Tryz.ntmps153 rfl (fun w0 A0=>?_)
 refine zc 8 rfl (tc_ fn157 rfl (make_w l hs (Nat.le_trans hl (by omega)) (n) hn) (zl 7 rfl ?_))
 refine two_ rfl (fun hb9=>?_) (fun hb9=>?_)
 ·refine zl 9 rfl ?_
  exact r1_ hq_ rfl (by rw [hb9];exact congrArg R.one (zret_f _))
 ·refine zl 1 rfl (tq_ rfl (jln rfl) (zl 7 rfl ?_))
  exact r1_ hq_ rfl (by rw [hb9];exact congrArg R.one (zret_t _))
set_option maxRecDepth 10000 in
theorem rzmake (neg:Bool) (l:List Nat) (hs:Small l) (hl:l.length≤10000000000000) (n:Nat) (hn:val l = n):Ctr Tryz.prog 140 [V.one (Leaf.val (.bool neg)),V.one (natL l)] (R.one (zV (zOf (sgn neg n)))):=by
 refine bd_ Tryz.func140 Tryz.ntmps140 rfl (fun w0 A0=>?_)
 refine zc 8 rfl (tc_ fn173 rfl (rmake_w l hs (Nat.le_trans hl (by omega)) (n) hn) (zl 7 rfl ?_))
 refine two_ rfl (fun hb9=>?_) (fun hb9=>?_)
 ·refine zl 9 rfl ?_
  exact r1_ hq_ rfl (by rw [hb9];exact congrArg R.one (zret_f _))
 ·refine zl 1 rfl (tq_ rfl (jln rfl) (zl 7 rfl ?_))
  exact r1_ hq_ rfl (by rw [hb9];exact congrArg R.one (zret_t _))
set_option maxRecDepth 10000 in
theorem zsign (x:Zr) (z:Int) (hz:x.z = z) (hfx:x.m.length≤10000000000000):Ctr Tryz.prog 95 [zV x] (R.one (V.one (Leaf.val (.int .i64 (sgz z))))):=by
 refine bd_ Tryz.func95 Tryz.ntmps95 rfl (fun w0 A0=>?_)
 haveI ix:Bn (val x.m) 10000000000000:=Bn.val x.hm hfx
 refine zc 12 rfl (tc_ fn152 rfl (bits_w x.m x.hm (Nat.le_trans hfx (by omega)) (val x.m) rfl) ?_)
 by_cases h0:bl (val x.m) = 0
 ·refine tq_ rfl (eqT rfl) (zl 9 rfl ?_)
  exact r1_ hq_ rfl (by rw [← hz,sgz_zero h0])
 ·refine tq_ rfl (eqF rfl) (zl 11 rfl ?_)
  refine Tc_cond rfl (fun hc8=>?_) (fun hc8=>?_)
  ·refine zc 5 rfl ?_
   exact r1_ hq_ rfl (by rw [← hz,sgz_neg (fun e=>h0 (by rw [e] <;> rfl)) hc8])
  ·refine zc 8 rfl ?_
   exact r1_ hq_ rfl (by rw [← hz,sgz_pos (fun e=>h0 (by rw [e] <;> rfl)) hc8])
set_option maxRecDepth 10000 in
theorem rzsign (x:Zr) (z:Int) (hz:x.z = z) (hfx:x.m.length≤10000000000000):Ctr Tryz.prog 86 [zV x] (R.one (V.one (Leaf.val (.int .i64 (sgz z))))):=by
 refine bd_ Tryz.func86 Tryz.ntmps86 rfl (fun w0 A0=>?_)
 haveI ix:Bn (val x.m) 10000000000000:=Bn.val x.hm hfx
 refine zc 12 rfl (tc_ fn140 rfl (rzmake x.neg x.m x.hm (Nat.le_trans hfx (by omega)) (val x.m) rfl) (zl 9 rfl (tq_ rfl (jln rfl) ?_)))
 by_cases h0:(limbs (Int.natAbs (sgn x.neg (val x.m)))).length = 0
 ·refine tq_ rfl (eqT rfl (by show (((limbs (Int.natAbs (sgn x.neg (val x.m)))).length:Nat):Int) = 0;omega)) (zl 9 rfl ?_)
  exact r1_ hq_ rfl (by rw [← hz,sgz_zero' (by have:=limbs_eq_nil.1 (List.eq_nil_of_length_eq_zero h0);rwa [natAbs_sgn] at this)])
 ·refine tq_ rfl (eqF rfl (by show (((limbs (Int.natAbs (sgn x.neg (val x.m)))).length:Nat):Int)≠0;omega)) (zl 11 rfl ?_)
  refine Tc_cond rfl (fun hc13=>?_) (fun hc13=>?_)
  ·refine zc 5 rfl ?_
   exact r1_ hq_ rfl (by rw [← hz];have h1:x.z < 0:=of_decide_eq_true hc13;unfold sgz;rw [if_pos h1])
  ·refine zc 8 rfl ?_
   exact r1_ hq_ rfl (by rw [← hz];have h1:¬ x.z < 0:=of_decide_eq_false hc13;unfold sgz;rw [if_neg h1,if_neg (fun e=>by have h2:(sgn x.neg (val x.m)) = 0:=e;rw [h2] at h0;exact h0 (by rw [Int.natAbs_zero,limbs_zero] <;> rfl))])
set_option maxRecDepth 10000 in
theorem zmul (x:Zr) (z:Int) (hz:x.z = z) (hfx:x.m.length≤4000000000000) (y:Zr) (w:Int) (hw:y.z = w) (hfy:y.m.length≤4000000000000):Ctr Tryz.prog 154 [zV x,zV y] (R.one (zV (zOf (z * w)))):=by
 refine bd_ Tryz.func154 Tryz.ntmps154 rfl (fun w0 A0=>?_)
 haveI ix:Bn (val x.m) 4000000000000:=Bn.val x.hm hfx
 haveI iy:Bn (val y.m) 4000000000000:=Bn.val y.hm hfy
 refine zc 8 rfl (dr_ 0 [(11,2)] [2] (dz 4 rfl (kq_ rfl (Jq_neq_bool rfl rfl rfl un4 (d:=_) (rfl)) (dz 4 rfl (kc_ fn100 rfl (mul_w x.m x.hm (Nat.le_trans hfx (by omega)) y.m y.hm (Nat.le_trans hfy (by omega)) (val x.m) rfl (val y.m) rfl) ?_)))))
 refine kc_ fn153 rfl (zmake (x.neg != y.neg) (limbs ((val x.m) * (val y.m))) (small_limbs _) (Bn.use (by omega)) ((val x.m) * (val y.m)) (val_limbs _)) (dz 1 rfl (DK_nil (za 1 rfl ?_)))
 exact r1_ hq_ rfl (by subst hz;subst hw;rw [sgn_mul] <;> rfl)
set_option maxRecDepth 10000 in
theorem zadd (x:Zr) (z:Int) (hz:x.z = z) (hfx:x.m.length≤4000000000000) (y:Zr) (w:Int) (hw:y.z = w) (hfy:y.m.length≤4000000000000):Ctr Tryz.prog 98 [zV x,zV y] (R.one (zV (zOf (z + w)))):=by
 refine bd_ Tryz.func98 Tryz.ntmps98 rfl (fun w0 A0=>?_)
 haveI ix:Bn (val x.m) 4000000000000:=Bn.val x.hm hfx
 haveI iy:Bn (val y.m) 4000000000000:=Bn.val y.hm hfy
 refine zc 14 rfl (tq_ rfl (Jq_eql_bool rfl rfl rfl un4 (d:=_) (rfl)) (zl 2 rfl ?_))
 refine Tc_cond rfl (fun hc11=>?_) (fun hc11=>?_)
 ·refine zc 1 rfl (dr_ 0 [(8,2)] [2] (dz 6 rfl (kc_ fn155 rfl (add_w x.m x.hm (Nat.le_trans hfx (by omega)) y.m y.hm (Nat.le_trans hfy (by omega)) (val x.m) rfl (val y.m) rfl) (kc_ fn153 rfl (zmake x.neg (limbs ((val x.m) + (val y.m))) (small_limbs _) (Bn.use (by omega)) ((val x.m) + (val y.m)) (val_limbs _)) (dz 1 rfl (DK_nil (za 1 rfl ?_)))))))
  exact r1_ hq_ rfl (by subst hz;subst hw;rw [zadd_same (beq_iff_eq.1 hc11)] <;> rfl)
 ·refine zc 4 rfl ?_
  have hne:x.neg≠y.neg:=beq_eq_false_iff_ne.1 hc11
  refine zc 5 rfl (tc_ fn146 rfl (cmp_w x.m x.hm y.m y.hm (val x.m) rfl (val y.m) rfl) ?_)
  by_cases hlt:val x.m < val y.m
  ·refine tq_ rfl (ltT rfl (by rw [cmpN_lt hlt];decide)) (zl 16 rfl (tc_ fn156 rfl (sub_w y.m x.m y.hm x.hm (by omega) (val y.m) (val x.m) rfl rfl (Nat.le_of_lt hlt)) (zl 12 rfl (tc_ fn153 rfl (zmake y.neg (limbs (val y.m - val x.m)) (small_limbs _) (Bn.use (by omega)) (val y.m - val x.m) (val_limbs _)) (zl 3 rfl ?_)))))
   exact r1_ hq_ rfl (by subst hz;subst hw;rw [zadd_lt hne (Nat.le_of_lt hlt)] <;> rfl)
  ·refine tq_ rfl (ltF rfl (by unfold cmpN;rw [if_neg hlt];split <;> decide)) (zl 11 rfl (tc_ fn156 rfl (sub_w x.m y.m x.hm y.hm (by omega) (val x.m) (val y.m) rfl rfl (Nat.le_of_not_lt hlt)) (zl 12 rfl (tc_ fn153 rfl (zmake x.neg (limbs (val x.m - val y.m)) (small_limbs _) (Bn.use (by omega)) (val x.m - val y.m) (val_limbs _)) (zl 3 rfl ?_)))))
   exact r1_ hq_ rfl (by subst hz;subst hw;rw [zadd_ge hne (Nat.le_of_not_lt hlt)] <;> rfl)
set_option maxRecDepth 10000 in
theorem zcmp (x:Zr) (z:Int) (hz:x.z = z) (hfx:x.m.length≤4000000000000) (y:Zr) (w:Int) (hw:y.z = w) (hfy:y.m.length≤4000000000000):Ctr Tryz.prog 138 [zV x,zV y] (R.one (V.one (Leaf.val (.int .i64 (cmpz z w))))):=by
 refine bd_ Tryz.func138 Tryz.ntmps138 rfl (fun w0 A0=>?_)
 haveI ix:Bn (val x.m) 4000000000000:=Bn.val x.hm hfx
 haveI iy:Bn (val y.m) 4000000000000:=Bn.val y.hm hfy
 refine zc 8 rfl (dr_ 0 [] [] (dz 1 rfl (kc_ fn95 rfl (zsign x (z) hz (Nat.le_trans hfx (by omega))) (dz 1 rfl (kc_ fn95 rfl (zsign y (w) hw (Nat.le_trans hfy (by omega))) (dz 2 rfl (DK_nil (za 7 rfl ?_))))))))
 by_cases h1:sgz z < sgz w
 ·refine tq_ rfl (ltT rfl) (zl 9 rfl ?_)
  exact r1_ hq_ rfl (by rw [cmpz_sg_lt h1])
 ·refine tq_ rfl (ltF rfl) (zl 8 rfl ?_)
  by_cases h2:sgz w < sgz z
  ·refine tq_ rfl (gtT rfl) (zl 9 rfl ?_)
   exact r1_ hq_ rfl (by rw [cmpz_sg_gt h2])
  ·refine tq_ rfl (gtF rfl) (zl 5 rfl ?_)
   subst hz;subst hw
   refine zc 2 rfl ?_
   by_cases h3:sgz x.z < 0
   ·refine tq_ rfl (ltT rfl) (zl 10 rfl (tc_ fn146 rfl (cmp_w y.m y.hm x.m x.hm (val y.m) rfl (val x.m) rfl) (zl 3 rfl ?_)))
    exact r1_ hq_ rfl (by rw [cmpz_neg (by omega) h3])
   ·refine tq_ rfl (ltF rfl) (zl 13 rfl (tc_ fn146 rfl (cmp_w x.m x.hm y.m y.hm (val x.m) rfl (val y.m) rfl) (zl 3 rfl ?_)))
    exact r1_ hq_ rfl (by rw [cmpz_pos (by omega) h3])
set_option maxRecDepth 10000 in
theorem rzadd (x:Zr) (z:Int) (hz:x.z = z) (hfx:x.m.length≤4000000000000) (y:Zr) (w:Int) (hw:y.z = w) (hfy:y.m.length≤4000000000000):Ctr Tryz.prog 116 [zV x,zV y] (R.one (zV (zOf (z + w)))):=by
 refine bd_ Tryz.func116 Tryz.ntmps116 rfl (fun w0 A0=>?_)
 haveI ix:Bn (val x.m) 4000000000000:=Bn.val x.hm hfx
 haveI iy:Bn (val y.m) 4000000000000:=Bn.val y.hm hfy
 refine zc 14 rfl (tq_ rfl (Jq_eql_bool rfl rfl rfl un4 (d:=_) (rfl)) (zl 2 rfl ?_))
 refine Tc_cond rfl (fun hc11=>?_) (fun hc11=>?_)
 ·refine zc 1 rfl (dr_ 0 [(8,2)] [2] (dz 6 rfl (kc_ fn174 rfl (radd_w x.m y.m x.hm y.hm (Nat.le_trans hfx (by omega)) (Nat.le_trans hfy (by omega)) (val x.m) (val y.m) rfl rfl) (kc_ fn140 rfl (rzmake x.neg (limbs ((val x.m) + (val y.m))) (small_limbs _) (Bn.use (by omega)) ((val x.m) + (val y.m)) (val_limbs _)) (dz 1 rfl (DK_nil (za 1 rfl ?_)))))))
  exact r1_ hq_ rfl (by subst hz;subst hw;rw [zadd_same (beq_iff_eq.1 hc11)] <;> rfl)
 ·refine zc 3 rfl ?_
  by_cases hlt:val x.m < val y.m
  ·have hne:x.neg≠y.neg:=beq_eq_false_iff_ne.1 hc11
   refine zc 5 rfl (tc_ fn175 rfl (rsub_ltw x.m y.m x.hm y.hm (val x.m) (val y.m) rfl rfl hlt) (zl 11 rfl (tq_ rfl (eqF rfl (by decide)) (zl 11 rfl (tc_ fn175 rfl (rsub_w y.m x.m y.hm x.hm (by omega) (val y.m) (val x.m) rfl rfl (Nat.le_of_lt hlt)) (zl 11 rfl ?_))))))
   refine tc_ fn140 rfl (rzmake y.neg (limbs (val y.m - val x.m)) (small_limbs _) (Bn.use (by omega)) (val y.m - val x.m) (val_limbs _)) (zl 3 rfl ?_)
   exact r1_ hq_ rfl (by subst hz;subst hw;rw [zadd_lt hne (Nat.le_of_lt hlt)] <;> rfl)
  ·have hne:x.neg≠y.neg:=beq_eq_false_iff_ne.1 hc11
   refine zc 5 rfl (tc_ fn175 rfl (rsub_w x.m y.m x.hm y.hm (by omega) (val x.m) (val y.m) rfl rfl (Nat.le_of_not_lt hlt)) (zl 11 rfl (tq_ rfl (eqT rfl rfl) (zl 8 rfl (tc_ fn140 rfl (rzmake x.neg (limbs (val x.m - val y.m)) (small_limbs _) (Bn.use (by omega)) (val x.m - val y.m) (val_limbs _)) (zl 3 rfl ?_))))))
   exact r1_ hq_ rfl (by subst hz;subst hw;rw [zadd_ge hne (Nat.le_of_not_lt hlt)] <;> rfl)
set_option maxRecDepth 10000 in
theorem rzof (z:Int) (h1:-9223372036854775808≤z) (h2:z≤9223372036854775807):Ctr Tryz.prog 85 [V.one (Leaf.val (.int .i64 z))] (R.one (zV (zOf z))):=by
 refine bd_ Tryz.func85 Tryz.ntmps85 rfl (fun w0 A0=>?_)
 refine zc 9 rfl ?_
 by_cases hz0:z < 0
 ·refine tq_ rfl (ltT rfl) (zl 6 rfl (tq_ rfl (jc6 (18446744073709551616 - z.natAbs) rfl) (tq_ rfl (Jq_neg rfl rfl (r:=((z.natAbs:Nat):Int)) (wu64 (by omega))) (tc_ fn141 rfl (rof_spec (z.natAbs) (by omega)) (tc_ fn140 rfl (rzmake true (limbs (z.natAbs)) (small_limbs _) (Bn.of_lt (by omega) (by omega)) (z.natAbs) (val_limbs _)) (zl 3 rfl ?_))))))
  exact r1_ hq_ rfl (by rw [show sgn true z.natAbs = z from by rw [sgn_true];omega] <;> rfl)
 ·refine tq_ rfl (ltF rfl) (zl 8 rfl (tq_ rfl (jc6 z.natAbs rfl) (tc_ fn141 rfl (rof_spec (z.natAbs) (by omega)) (tc_ fn140 rfl (rzmake false (limbs (z.natAbs)) (small_limbs _) (Bn.of_lt (by omega) (by omega)) (z.natAbs) (val_limbs _)) (zl 3 rfl ?_)))))
  exact r1_ hq_ rfl (by rw [show sgn false z.natAbs = z from by rw [sgn_false];omega] <;> rfl)
end Go.Proofs.YtmpkandbccallaaGreatDoor
set_option linter.unusedSimpArgs false
set_option linter.unusedVariables false
namespace Go.Proofs.YtmpkandbccallaaGreatDoor
open Go Go.RowKit Rc
set_option maxRecDepth 10000 in
theorem qone  : Ctr Tryz.prog 162 [] (R.one (V.one (natL [1]))):=by
 refine bd_ Tryz.func162 Tryz.ntmps162 rfl (fun w0 A0=>?_)
 refine zc 7 rfl (te_ rfl (Je_buildSlice rfl un25 ty164 tz164 rfl (by decide) (by decide) rfl (by decide) rfl) (zl 3 rfl ?_))
 exact r1_ hq_ rfl rfl
set_option maxRecDepth 10000 in
theorem qunit (l:List Nat):Ctr Tryz.prog 158 [V.one (natL l)] (R.one (V.one (Leaf.val (.bool (decide (l = [1])))))):=by
 refine bd_ Tryz.func158 Tryz.ntmps158 rfl (fun w0 A0=>?_)
 refine zc 8 rfl (tq_ rfl (jln rfl) ?_)
 by_cases h1:l.length = 1
 ·refine tq_ rfl (eqT rfl) (zl 2 rfl ?_)
  obtain ⟨d,rfl⟩:∃ d,l = [d]:=by
   match l,h1 with
   | [d],_=>exact ⟨d,rfl⟩
  refine tq_ rfl (ji1 rfl rfl (by omega) (by simp)) (tq_ rfl (jli rfl) ?_)
  by_cases h2:d = 1
  ·refine tq_ rfl (eqT rfl) (zl 4 rfl ?_)
   exact r1_ hq_ rfl (by rw [decide_eq_true (by rw [h2])])
  ·refine tq_ rfl (eqF rfl) (zl 4 rfl ?_)
   exact r1_ hq_ rfl (by rw [decide_eq_false (fun e=>h2 (by simpa using e))])
 ·refine tq_ rfl (eqF rfl) (zl 9 rfl ?_)
  exact r1_ hq_ rfl (by rw [decide_eq_false (fun e=>h1 (by rw [e] <;> rfl))])
set_option maxRecDepth 10000 in
theorem qunder (x:Qr) (hfx:Fit 9000000000000 x):Ctr Tryz.prog 101 [qV x] (R.one (V.one (natL (dl x.d)))):=by
 refine bd_ Tryz.func101 Tryz.ntmps101 rfl (fun w0 A0=>?_)
 refine zc 11 rfl (tc_ fn152 rfl (bits_w x.d x.hd (hfx.mono (by omega)).d (val x.d) rfl) ?_)
 by_cases h0:bl (val x.d) = 0
 ·refine tq_ rfl (eqT rfl) (zl 5 rfl (tc_ fn162 rfl (qone) (zl 3 rfl ?_)))
  exact r1_ hq_ rfl (by rw [dl_zero h0])
 ·refine tq_ rfl (eqF rfl) (zl 12 rfl ?_)
  exact r1_ hq_ rfl (by rw [dl_of h0])
set_option maxRecDepth 10000 in
theorem qquot (b:Bool) (n d:List Nat) (hsn:Small n) (hsd:Small d) (hln:n.length≤9000000000000) (hld:d.length≤9000000000000) (vn vd:Nat) (hvn:val n = vn) (hvd:val d = vd) (h0:vd≠0):Ctr Tryz.prog 99 [V.one (Leaf.val (.bool b)),V.one (natL n),V.one (natL d)] (R.one (qV (qOf (rq b vn vd)))):=by
 refine bd_ Tryz.func99 Tryz.ntmps99 rfl (fun w0 A0=>?_)
 haveI i1:Bn vn 9000000000000:=by subst hvn;exact Bn.val hsn hln
 haveI i2:Bn vd 9000000000000:=by subst hvd;exact Bn.val hsd hld
 have hgp:Nat.gcd vn vd≠0:=Nat.ne_of_gt (Nat.gcd_pos_of_pos_right _ (Nat.pos_of_ne_zero h0))
 haveI i3:Bn (Nat.gcd vn vd) 9000000000000:=Bn.mono (Nat.le_of_dvd (Nat.pos_of_ne_zero h0) (Nat.gcd_dvd_right _ _)) i2
 refine zc 8 rfl (tc_ fn157 rfl (make_w n hsn (Nat.le_trans hln (by omega)) (vn) hvn) (zl 7 rfl (tq_ rfl (jln rfl) ?_)))
 by_cases hn0:vn = 0
 ·refine tq_ rfl (eqT rfl (by rw [hn0,limbs_zero];rfl)) (zl 9 rfl ?_)
  exact r1_ hq_ rfl (by rw [hn0];exact congrArg R.one (quot_zero b vd))
 ·refine tq_ rfl (eqF rfl (by have:=limbs_len_pos.2 hn0;omega)) (zl 8 rfl (tc_ fn157 rfl (make_w d hsd (Nat.le_trans hld (by omega)) (vd) hvd) (zl 7 rfl (tc_ fn158 rfl (qunit (limbs (vd))) (zl 2 rfl ?_)))))
  refine Tc_cond rfl (fun hc17=>?_) (fun hc17=>?_)
  ·refine zc 8 rfl ?_
   exact r1_ hq_ rfl (by rw [quot_ret b hn0 h0];have e1:vd = 1:=limbs_eq_one.1 (of_decide_eq_true hc17);subst e1;simp only [Nat.gcd_one_right,Nat.div_one,if_true,limbs_zero] <;> rfl)
  ·refine zc 4 rfl ?_
   have hd1:vd≠1:=fun e=>of_decide_eq_false hc17 (limbs_eq_one.2 e)
   refine zc 3 rfl (tc_ fn159 rfl (gcd_w (limbs (vn)) (small_limbs _) (Bn.use (by omega)) (limbs (vd)) (small_limbs _) (Bn.use (by omega)) (vn) (val_limbs _) (vd) (val_limbs _)) (zl 4 rfl ?_))
   by_cases hg:Nat.gcd vn vd = 1
   ·refine zc 2 rfl (tc_ fn158 rfl (qunit (limbs (Nat.gcd (vn) (vd)))) (is_ true rfl (decide_eq_true (limbs_eq_one.2 hg)) (zl 10 rfl (tc_ fn158 rfl (qunit (limbs (vd))) (is_ false rfl (decide_eq_false (fun e=>hd1 (limbs_eq_one.1 e))) (zl 14 rfl ?_))))))
    exact r1_ hq_ rfl (by rw [quot_ret b hn0 h0];simp only [hg,Nat.div_one,if_neg hd1] <;> rfl)
   ·refine zc 2 rfl (tc_ fn158 rfl (qunit (limbs (Nat.gcd (vn) (vd)))) (is_ false rfl (decide_eq_false (fun e=>hg (limbs_eq_one.1 e))) (zl 8 rfl (tc_ fn160 rfl (divmod_w (limbs (vn)) (limbs (Nat.gcd vn vd)) (small_limbs _) (small_limbs _) (Bn.use (by omega)) (Bn.use (by omega)) (vn) (Nat.gcd vn vd) (val_limbs _) (val_limbs _) hgp) (zl 10 rfl ?_)))))
    refine tc_ fn160 rfl (divmod_w (limbs (vd)) (limbs (Nat.gcd vn vd)) (small_limbs _) (small_limbs _) (Bn.use (by omega)) (Bn.use (by omega)) (vd) (Nat.gcd vn vd) (val_limbs _) (val_limbs _) hgp) (zl 9 rfl ?_)
    by_cases hq:vd / Nat.gcd vn vd = 1
    ·refine zc 2 rfl (tc_ fn158 rfl (qunit (limbs (vd / (Nat.gcd vn vd)))) (is_ true rfl (decide_eq_true (limbs_eq_one.2 hq)) (zl 16 rfl ?_)))
     exact r1_ hq_ rfl (by rw [quot_ret b hn0 h0];rw [if_pos hq,limbs_zero] <;> rfl)
    ·refine zc 2 rfl (tc_ fn158 rfl (qunit (limbs (vd / (Nat.gcd vn vd)))) (is_ false rfl (decide_eq_false (fun e=>hq (limbs_eq_one.1 e))) (zl 14 rfl ?_)))
     exact r1_ hq_ rfl (by rw [quot_ret b hn0 h0];rw [if_neg hq] <;> rfl)
set_option maxRecDepth 10000 in
theorem rqone (d:List Nat) (hs:Small d) (hl:d.length≤9000000000000):Ctr Tryz.prog 115 [V.one (natL d)] (R.one (V.one (natL (limbs (dn (val d)))))):=by
 refine bd_ Tryz.func115 Tryz.ntmps115 rfl (fun w0 A0=>?_)
 haveI i1:Bn (val d) 9000000000000:=Bn.val hs hl
 refine zc 8 rfl (tc_ fn173 rfl (rmake_w d hs (Nat.le_trans hl (by omega)) (val d) rfl) (zl 7 rfl (tq_ rfl (jln rfl) ?_)))
 by_cases h0:val d = 0
 ·refine tq_ rfl (eqT rfl (by rw [h0,limbs_zero];rfl)) (zl 5 rfl (te_ rfl (Je_buildSlice rfl un25 ty164 tz164 rfl (by decide) (by decide) rfl (by decide) rfl) (zl 3 rfl ?_)))
  exact r1_ hq_ rfl (by rw [h0];show R.one (V.one (natL [1])) = R.one (V.one (natL (limbs 1)));rw [limbs_one])
 ·refine tq_ rfl (eqF rfl (by have:=limbs_len_pos.2 h0;omega)) (zl 11 rfl ?_)
  exact r1_ hq_ rfl (by rw [dn_of h0])
theorem rqone_w (d:List Nat) (hs:Small d) (hl:d.length≤9000000000000) (m:Nat) (hm:val d = m):Ctr Tryz.prog 115 [V.one (natL d)] (R.one (V.one (natL (limbs (dn m))))):=by
 subst hm;exact rqone d hs hl
set_option maxRecDepth 10000 in
theorem rqquot (b:Bool) (n d:List Nat) (hsn:Small n) (hsd:Small d) (hln:n.length≤8000000000000) (hld:d.length≤8000000000000) (vn vd:Nat) (hvn:val n = vn) (hvd:val d = vd) (h0:vd≠0):Ctr Tryz.prog 117 [V.one (Leaf.val (.bool b)),V.one (natL n),V.one (natL d)] (R.one (qV (qOf (rq b vn vd)))):=by
 refine bd_ Tryz.func117 Tryz.ntmps117 rfl (fun w0 A0=>?_)
 haveI i1:Bn vn 8000000000000:=by subst hvn;exact Bn.val hsn hln
 haveI i2:Bn vd 8000000000000:=by subst hvd;exact Bn.val hsd hld
 have hgp:Nat.gcd vn vd≠0:=Nat.ne_of_gt (Nat.gcd_pos_of_pos_right _ (Nat.pos_of_ne_zero h0))
 haveI i3:Bn (Nat.gcd vn vd) 8000000000000:=Bn.mono (Nat.le_of_dvd (Nat.pos_of_ne_zero h0) (Nat.gcd_dvd_right _ _)) i2
 refine zc 9 rfl (tc_ fn176 rfl (rgcd_w n hsn (Nat.le_trans hln (by omega)) d hsd (Nat.le_trans hld (by omega)) (vn) hvn (vd) hvd) (zl 4 rfl ?_))
 obtain ⟨N1,hN1⟩:∃ N1,vn / Nat.gcd vn vd = N1:=⟨_,rfl⟩
 obtain ⟨D1,hD1⟩:∃ D1,vd / Nat.gcd vn vd = D1:=⟨_,rfl⟩
 have hND:N1 = 0↔vn = 0:=by
  constructor
  ·intro e;exact Classical.byContradiction (fun h=>div_ne h (Nat.gcd_dvd_left vn vd) (by rw [hN1,e]))
  ·intro e;rw [← hN1,e,Nat.zero_div]
 refine zc 3 rfl (tc_ fn177 rfl (rdivmod_w n (limbs (Nat.gcd vn vd)) hsn (small_limbs _) (Nat.le_trans hln (by omega)) (Bn.use (by omega)) (vn) (Nat.gcd vn vd) hvn (val_limbs _) hgp) (zl 13 rfl (tc_ fn177 rfl (rdivmod_w d (limbs (Nat.gcd vn vd)) hsd (small_limbs _) (Nat.le_trans hld (by omega)) (Bn.use (by omega)) (vd) (Nat.gcd vn vd) hvd (val_limbs _) hgp) (zl 13 rfl ?_))))
 refine tq_ rfl (jln rfl) ?_
 by_cases h1:(limbs (vd / Nat.gcd vn vd)).length = 1
 ·refine tq_ rfl (eqT rfl) (zl 2 rfl ?_)
  obtain ⟨p,hp⟩:∃ p,limbs (vd / Nat.gcd vn vd) = [p]:=by
   match limbs (vd / Nat.gcd vn vd),h1 with
   | [p],_=>exact ⟨p,rfl⟩
  have hp1:=val_limbs (vd / Nat.gcd vn vd)
  rw [hp] at hp1 ⊢
  have hp2:vd / Nat.gcd vn vd = p:=by rw [← hp1];simp [val]
  refine tq_ rfl (ji1 rfl rfl (by omega) (by simp)) (tq_ rfl (jli rfl) ?_)
  by_cases h2:p = 1
  ·refine tq_ rfl (eqT rfl) (zl 12 rfl ?_)
   refine two_ rfl (fun hb41=>?_) (fun hb41=>?_)
   ·refine zl 10 rfl ?_
    exact r1_ hq_ rfl (by rw [quot_ret' b h0,hb41,if_pos (by rw [hp2,h2]),limbs_zero] <;> rfl)
   ·refine zl 1 rfl (tq_ rfl (jln rfl) (zl 8 rfl ?_))
    exact r1_ hq_ rfl (by rw [quot_ret' b h0,hb41,if_pos (by rw [hp2,h2]),limbs_zero,Bool.true_and,decide_eq_decide.2 (show vn≠0↔(0:Int) < ((limbs (vn / Nat.gcd vn vd)).length:Nat) by have:=limbs_len_pos (n:=vn / Nat.gcd vn vd);rw [hN1] at this ⊢;omega)] <;> rfl)
  ·refine tq_ rfl (eqF rfl) (zl 10 rfl ?_)
   refine two_ rfl (fun hb41=>?_) (fun hb41=>?_)
   ·refine zl 10 rfl ?_
    exact r1_ hq_ rfl (by rw [quot_ret' b h0,hb41,if_neg (by rw [hp2];exact h2),hp] <;> rfl)
   ·refine zl 1 rfl (tq_ rfl (jln rfl) (zl 8 rfl ?_))
    exact r1_ hq_ rfl (by rw [quot_ret' b h0,hb41,if_neg (by rw [hp2];exact h2),hp,Bool.true_and,decide_eq_decide.2 (show vn≠0↔(0:Int) < ((limbs (vn / Nat.gcd vn vd)).length:Nat) by have:=limbs_len_pos (n:=vn / Nat.gcd vn vd);rw [hN1] at this ⊢;omega)] <;> rfl)
 ·refine tq_ rfl (eqF rfl) (zl 12 rfl ?_)
  have h2:¬ vd / Nat.gcd vn vd = 1:=fun e=>h1 (by rw [e,limbs_one];rfl)
  refine zc 3 rfl ?_
  refine two_ rfl (fun hb41=>?_) (fun hb41=>?_)
  ·refine zl 10 rfl ?_
   exact r1_ hq_ rfl (by rw [quot_ret' b h0,hb41,if_neg h2] <;> rfl)
  ·refine zl 1 rfl (tq_ rfl (jln rfl) (zl 8 rfl ?_))
   exact r1_ hq_ rfl (by rw [quot_ret' b h0,hb41,if_neg h2,Bool.true_and,decide_eq_decide.2 (show vn≠0↔(0:Int) < ((limbs (vn / Nat.gcd vn vd)).length:Nat) by have:=limbs_len_pos (n:=vn / Nat.gcd vn vd);rw [hN1] at this ⊢;omega)] <;> rfl)
set_option maxRecDepth 10000 in
theorem qcanon (x:Qr) (r:Rat) (hr:x.q = r) (hfx:Fit 3000000000000 x):Ctr Tryz.prog 102 [qV x] (R.one (qV (qOf (r)))):=by
 refine bd_ Tryz.func102 Tryz.ntmps102 rfl (fun w0 A0=>?_)
 haveI ixn:Bn (val x.n) 3000000000000:=Bn.val x.hn hfx.n
 haveI ixd:Bn (val x.d) 3000000000000:=Bn.val x.hd hfx.d
 refine zc 7 rfl (dr_ 0 [(7,1)] [1] (dz 5 rfl (kc_ fn101 rfl (qunder x (hfx.mono (by omega))) (kc_ fn99 rfl (qquot x.neg x.n (dl x.d) x.hn (small_dl x.hd) (hfx.mono (by omega)).n (len_dl hfx.d (by omega)) (val x.n) (dn (val x.d)) rfl (val_dl _) (dn_ne _)) (dz 1 rfl (DK_nil (za 1 rfl ?_)))))))
 exact r1_ hq_ rfl (by subst hr;rw [rq_dn] <;> rfl)
set_option maxRecDepth 10000 in
theorem rqcanon (x:Qr) (r:Rat) (hr:x.q = r) (hfx:Fit 3000000000000 x):Ctr Tryz.prog 57 [qV x] (R.one (qV (qOf (r)))):=by
 refine bd_ Tryz.func57 Tryz.ntmps57 rfl (fun w0 A0=>?_)
 haveI ixn:Bn (val x.n) 3000000000000:=Bn.val x.hn hfx.n
 haveI ixd:Bn (val x.d) 3000000000000:=Bn.val x.hd hfx.d
 refine zc 7 rfl (dr_ 0 [(8,1)] [1] (dz 6 rfl (kc_ fn115 rfl ((rqone_w x.d x.hd (hfx.mono (by omega)).d (val x.d) rfl)) (kc_ fn117 rfl (rqquot x.neg x.n (limbs (dn (val x.d))) x.hn (small_limbs _) (hfx.mono (by omega)).n (Bn.use (by omega)) (val x.n) (dn (val x.d)) rfl (val_limbs _) (dn_ne _)) (dz 1 rfl (DK_nil (za 1 rfl ?_)))))))
 exact r1_ hq_ rfl (by subst hr;rw [rq_dn] <;> rfl)
set_option maxRecDepth 10000 in
theorem qsigned (x:Qr) (r:Rat) (hr:x.q = r) (hfx:Fit 3000000000000 x):Ctr Tryz.prog 96 [qV x] (R.one (zV (zOf (sgn x.neg (val x.n))))):=by
 refine bd_ Tryz.func96 Tryz.ntmps96 rfl (fun w0 A0=>?_)
 haveI ixn:Bn (val x.n) 3000000000000:=Bn.val x.hn hfx.n
 haveI ixd:Bn (val x.d) 3000000000000:=Bn.val x.hd hfx.d
 refine zc 12 rfl (tc_ fn153 rfl (zmake x.neg x.n x.hn (hfx.mono (by omega)).n (val x.n) rfl) (zl 3 rfl ?_))
 exact r1_ hq_ rfl rfl
set_option maxRecDepth 10000 in
theorem qsign (x:Qr) (r:Rat) (hr:x.q = r) (hfx:Fit 3000000000000 x):Ctr Tryz.prog 43 [qV x] (R.one (V.one (Leaf.val (.int .i64 (sg r))))):=by
 refine bd_ Tryz.func43 Tryz.ntmps43 rfl (fun w0 A0=>?_)
 haveI ixn:Bn (val x.n) 3000000000000:=Bn.val x.hn hfx.n
 haveI ixd:Bn (val x.d) 3000000000000:=Bn.val x.hd hfx.d
 refine zc 9 rfl (tc_ fn96 rfl (qsigned x (r) hr (hfx.mono (by omega))) (tc_ fn95 rfl (zsign (zOf (sgn x.neg (val x.n))) (sgn x.neg (val x.n)) (zOf_z _) (Bz.use (by omega))) (zl 3 rfl ?_)))
 exact r1_ hq_ rfl (by subst hr;unfold Qr.q;rw [sg_rq])
set_option maxRecDepth 10000 in
theorem rqsign (x:Qr) (r:Rat) (hr:x.q = r) (hfx:Fit 3000000000000 x):Ctr Tryz.prog 37 [qV x] (R.one (V.one (Leaf.val (.int .i64 (sg r))))):=by
 refine bd_ Tryz.func37 Tryz.ntmps37 rfl (fun w0 A0=>?_)
 haveI ixn:Bn (val x.n) 3000000000000:=Bn.val x.hn hfx.n
 haveI ixd:Bn (val x.d) 3000000000000:=Bn.val x.hd hfx.d
 refine zc 13 rfl (tc_ fn86 rfl (rzsign (Zr.mk x.neg x.n x.hn) (sgn x.neg (val x.n)) (zr_eq rfl) (hfx.mono (by omega)).n) (zl 3 rfl ?_))
 exact r1_ hq_ rfl (by subst hr;unfold Qr.q;rw [sg_rq])
set_option maxRecDepth 10000 in
theorem qcross (x:Qr) (r:Rat) (hr:x.q = r) (hfx:Fit 1000000000000 x) (y:Qr) (s:Rat) (hs:y.q = s) (hfy:Fit 1000000000000 y):Ctr Tryz.prog 97 [qV x,qV y] (R.tup [zV (zOf (sgn x.neg (val x.n) * sgn false (dn (val y.d)))),zV (zOf (sgn y.neg (val y.n) * sgn false (dn (val x.d))))]):=by
 refine bd_ Tryz.func97 Tryz.ntmps97 rfl (fun w0 A0=>?_)
 haveI ixn:Bn (val x.n) 1000000000000:=Bn.val x.hn hfx.n
 haveI ixd:Bn (val x.d) 1000000000000:=Bn.val x.hd hfx.d
 haveI iyn:Bn (val y.n) 1000000000000:=Bn.val y.hn hfy.n
 haveI iyd:Bn (val y.d) 1000000000000:=Bn.val y.hd hfy.d
 haveI ir:Br r 1000000000000:=hr ▸ Br.q hfx
 haveI is:Br s 1000000000000:=hs ▸ Br.q hfy
 refine zc 9 rfl (dr_ 0 [] [] (dz 1 rfl (kc_ fn101 rfl (qunder x (hfx.mono (by omega))) (dz 1 rfl (kc_ fn101 rfl (qunder y (hfy.mono (by omega))) (dz 2 rfl (DK_nil (za 2 rfl (dr_ 0 [(10,2),(11,3)] [2,3] ?_)))))))))
 refine dz 1 rfl (kc_ fn96 rfl (qsigned x (r) hr (hfx.mono (by omega))) (dz 2 rfl (kc_ fn154 rfl (zmul (zOf (sgn x.neg (val x.n))) (sgn x.neg (val x.n)) (zOf_z _) (Bz.use (by omega)) (Zr.mk false (dl y.d) (small_dl y.hd)) (sgn false (dn (val y.d))) (zr_eq (val_dl _)) (len_dl hfy.d (by omega))) (dz 1 rfl (kc_ fn96 rfl (qsigned y (s) hs (hfy.mono (by omega))) (dz 2 rfl ?_))))))
 refine kc_ fn154 rfl (zmul (zOf (sgn y.neg (val y.n))) (sgn y.neg (val y.n)) (zOf_z _) (Bz.use (by omega)) (Zr.mk false (dl x.d) (small_dl x.hd)) (sgn false (dn (val x.d))) (zr_eq (val_dl _)) (len_dl hfx.d (by omega))) (dz 2 rfl (DK_nil (za 1 rfl ?_)))
 exact r2_ hq_ rfl rfl
set_option maxRecDepth 10000 in
theorem qcmp (x:Qr) (r:Rat) (hr:x.q = r) (hfx:Fit 1000000000000 x) (y:Qr) (s:Rat) (hs:y.q = s) (hfy:Fit 1000000000000 y):Ctr Tryz.prog 83 [qV x,qV y] (R.one (V.one (Leaf.val (.int .i64 (cmpq r s))))):=by
 refine bd_ Tryz.func83 Tryz.ntmps83 rfl (fun w0 A0=>?_)
 haveI ixn:Bn (val x.n) 1000000000000:=Bn.val x.hn hfx.n
 haveI ixd:Bn (val x.d) 1000000000000:=Bn.val x.hd hfx.d
 haveI iyn:Bn (val y.n) 1000000000000:=Bn.val y.hn hfy.n
 haveI iyd:Bn (val y.d) 1000000000000:=Bn.val y.hd hfy.d
 haveI ir:Br r 1000000000000:=hr ▸ Br.q hfx
 haveI is:Br s 1000000000000:=hs ▸ Br.q hfy
 refine zc 9 rfl (dr_ 0 [] [] (dz 1 rfl (kc_ fn43 rfl (qsign x (r) hr (hfx.mono (by omega))) (dz 1 rfl (kc_ fn43 rfl (qsign y (s) hs (hfy.mono (by omega))) (dz 2 rfl (DK_nil (za 5 rfl ?_))))))))
 by_cases h1:sg r≠sg s
 ·refine tq_ rfl (neT rfl) (zl 8 rfl ?_)
  by_cases h2:sg r < sg s
  ·refine tq_ rfl (ltT rfl) (zl 8 rfl ?_)
   exact r1_ hq_ rfl (by rw [cmpq_sg_lt h2])
  ·refine tq_ rfl (ltF rfl) (zl 10 rfl ?_)
   exact r1_ hq_ rfl (by rw [cmpq_sg_gt h1 h2])
 ·refine tq_ rfl (neF rfl) (zl 9 rfl (tc_ fn97 rfl (qcross x (r) hr (hfx.mono (by omega)) y (s) hs (hfy.mono (by omega))) (zl 13 rfl ?_)))
  refine tc_ fn138 rfl (zcmp (zOf (sgn x.neg (val x.n) * sgn false (dn (val y.d)))) (sgn x.neg (val x.n) * sgn false (dn (val y.d))) (zOf_z _) (Bz.use (by omega)) (zOf (sgn y.neg (val y.n) * sgn false (dn (val x.d)))) (sgn y.neg (val y.n) * sgn false (dn (val x.d))) (zOf_z _) (Bz.use (by omega))) (zl 3 rfl ?_)
  exact r1_ hq_ rfl (by subst hr;subst hs;rw [cmpq_cross] <;> rfl)
set_option maxRecDepth 10000 in
theorem qneg (x:Qr) (r:Rat) (hr:x.q = r) (hfx:Fit 3000000000000 x):Ctr Tryz.prog 47 [qV x] (R.one (qV (qOf (-r)))):=by
 refine bd_ Tryz.func47 Tryz.ntmps47 rfl (fun w0 A0=>?_)
 haveI ixn:Bn (val x.n) 3000000000000:=Bn.val x.hn hfx.n
 haveI ixd:Bn (val x.d) 3000000000000:=Bn.val x.hd hfx.d
 refine zc 18 rfl (tc_ fn102 rfl (qcanon (Qr.mk (!x.neg) x.n x.d x.hn x.hd) (-(r)) (qr_neg hr) (Fit.neg (hfx.mono (by omega)))) (zl 3 rfl ?_))
 exact r1_ hq_ rfl rfl
set_option maxRecDepth 10000 in
theorem rqneg (x:Qr) (r:Rat) (hr:x.q = r) (hfx:Fit 3000000000000 x):Ctr Tryz.prog 126 [qV x] (R.one (qV (qOf (-r)))):=by
 refine bd_ Tryz.func126 Tryz.ntmps126 rfl (fun w0 A0=>?_)
 haveI ixn:Bn (val x.n) 3000000000000:=Bn.val x.hn hfx.n
 haveI ixd:Bn (val x.d) 3000000000000:=Bn.val x.hd hfx.d
 refine zc 18 rfl (tc_ fn57 rfl (rqcanon (Qr.mk (!x.neg) x.n x.d x.hn x.hd) (-(r)) (qr_neg hr) (Fit.neg (hfx.mono (by omega)))) (zl 3 rfl ?_))
 exact r1_ hq_ rfl rfl
set_option maxRecDepth 10000 in
theorem qadd (x:Qr) (r:Rat) (hr:x.q = r) (hfx:Fit 1000000000000 x) (y:Qr) (s:Rat) (hs:y.q = s) (hfy:Fit 1000000000000 y):Ctr Tryz.prog 44 [qV x,qV y] (R.one (qV (qOf (r + s)))):=by
 refine bd_ Tryz.func44 Tryz.ntmps44 rfl (fun w0 A0=>?_)
 haveI ixn:Bn (val x.n) 1000000000000:=Bn.val x.hn hfx.n
 haveI ixd:Bn (val x.d) 1000000000000:=Bn.val x.hd hfx.d
 haveI iyn:Bn (val y.n) 1000000000000:=Bn.val y.hn hfy.n
 haveI iyd:Bn (val y.d) 1000000000000:=Bn.val y.hd hfy.d
 haveI ir:Br r 1000000000000:=hr ▸ Br.q hfx
 haveI is:Br s 1000000000000:=hs ▸ Br.q hfy
 refine zc 11 rfl (tc_ fn97 rfl (qcross x (r) hr (hfx.mono (by omega)) y (s) hs (hfy.mono (by omega))) (zl 13 rfl ?_))
 refine tc_ fn98 rfl (zadd (zOf (sgn x.neg (val x.n) * sgn false (dn (val y.d)))) (sgn x.neg (val x.n) * sgn false (dn (val y.d))) (zOf_z _) (Bz.use (by omega)) (zOf (sgn y.neg (val y.n) * sgn false (dn (val x.d)))) (sgn y.neg (val y.n) * sgn false (dn (val x.d))) (zOf_z _) (Bz.use (by omega))) (zl 5 rfl (dr_ 0 [(10,2)] [2] (dz 5 rfl (kc_ fn101 rfl (qunder x (hfx.mono (by omega))) ?_))))
 refine dz 1 rfl (kc_ fn101 rfl (qunder y (hfy.mono (by omega))) (kc_ fn100 rfl (mul_w (dl x.d) (small_dl x.hd) (len_dl hfx.d (by omega)) (dl y.d) (small_dl y.hd) (len_dl hfy.d (by omega)) (dn (val x.d)) (val_dl _) (dn (val y.d)) (val_dl _)) ?_))
 refine kc_ fn99 rfl (qquot (decide ((sgn x.neg (val x.n) * sgn false (dn (val y.d))) + (sgn y.neg (val y.n) * sgn false (dn (val x.d))) < 0)) (limbs (Int.natAbs ((sgn x.neg (val x.n) * sgn false (dn (val y.d))) + (sgn y.neg (val y.n) * sgn false (dn (val x.d)))))) (limbs ((dn (val x.d)) * (dn (val y.d)))) (small_limbs _) (small_limbs _) (Bz.use (z:=(sgn x.neg (val x.n) * sgn false (dn (val y.d))) + (sgn y.neg (val y.n) * sgn false (dn (val x.d)))) (by omega)) (Bn.use (by omega)) (Int.natAbs ((sgn x.neg (val x.n) * sgn false (dn (val y.d))) + (sgn y.neg (val y.n) * sgn false (dn (val x.d))))) ((dn (val x.d)) * (dn (val y.d))) (val_limbs _) (val_limbs _) (Nat.mul_ne_zero (dn_ne _) (dn_ne _))) ?_
 refine dz 1 rfl (DK_nil (za 1 rfl ?_))
 exact r1_ hq_ rfl (by subst hr;subst hs;rw [q_add _ _ _ _ _ _ _ rfl] <;> rfl)
set_option maxRecDepth 10000 in
theorem rqadd (x:Qr) (r:Rat) (hr:x.q = r) (hfx:Fit 1000000000000 x) (y:Qr) (s:Rat) (hs:y.q = s) (hfy:Fit 1000000000000 y):Ctr Tryz.prog 54 [qV x,qV y] (R.one (qV (qOf (r + s)))):=by
 refine bd_ Tryz.func54 Tryz.ntmps54 rfl (fun w0 A0=>?_)
 haveI ixn:Bn (val x.n) 1000000000000:=Bn.val x.hn hfx.n
 haveI ixd:Bn (val x.d) 1000000000000:=Bn.val x.hd hfx.d
 haveI iyn:Bn (val y.n) 1000000000000:=Bn.val y.hn hfy.n
 haveI iyd:Bn (val y.d) 1000000000000:=Bn.val y.hd hfy.d
 haveI ir:Br r 1000000000000:=hr ▸ Br.q hfx
 haveI is:Br s 1000000000000:=hs ▸ Br.q hfy
 refine zc 8 rfl (dr_ 1 [(9,3),(10,3)] [3] (dz 6 rfl (kc_ fn115 rfl ((rqone_w y.d y.hd (hfy.mono (by omega)).d (val y.d) rfl)) (kc_ fn114 rfl (rmul_w x.n (limbs (dn (val y.d))) x.hn (small_limbs _) (hfx.mono (by omega)).n (Bn.use (by omega)) (val x.n) (dn (val y.d)) rfl (val_limbs _)) (dz 3 rfl (DK_nil (za 2 rfl (dr_ 1 [(9,4),(10,4)] [4] (dz 6 rfl ?_)))))))))
 refine kc_ fn115 rfl ((rqone_w x.d x.hd (hfx.mono (by omega)).d (val x.d) rfl)) (kc_ fn114 rfl (rmul_w y.n (limbs (dn (val x.d))) y.hn (small_limbs _) (hfy.mono (by omega)).n (Bn.use (by omega)) (val y.n) (dn (val x.d)) rfl (val_limbs _)) (dz 3 rfl (DK_nil (za 5 rfl ?_))))
 refine tc_ fn116 rfl (rzadd (Zr.mk x.neg (limbs ((val x.n) * (dn (val y.d)))) (small_limbs _)) (sgn x.neg ((val x.n) * (dn (val y.d)))) (zr_eq (val_limbs _)) (Bn.use (by omega)) (Zr.mk y.neg (limbs ((val y.n) * (dn (val x.d)))) (small_limbs _)) (sgn y.neg ((val y.n) * (dn (val x.d)))) (zr_eq (val_limbs _)) (Bn.use (by omega))) (zl 5 rfl (dr_ 0 [(12,2)] [2] (dz 6 rfl ?_)))
 refine kc_ fn115 rfl ((rqone_w x.d x.hd (hfx.mono (by omega)).d (val x.d) rfl)) (dz 2 rfl (kc_ fn115 rfl ((rqone_w y.d y.hd (hfy.mono (by omega)).d (val y.d) rfl)) (kc_ fn114 rfl (rmul_w (limbs (dn (val x.d))) (limbs (dn (val y.d))) (small_limbs _) (small_limbs _) (Bn.use (by omega)) (Bn.use (by omega)) (dn (val x.d)) (dn (val y.d)) (val_limbs _) (val_limbs _)) ?_)))
 refine kc_ fn117 rfl (rqquot (decide ((sgn x.neg ((val x.n) * (dn (val y.d)))) + (sgn y.neg ((val y.n) * (dn (val x.d)))) < 0)) (limbs (Int.natAbs ((sgn x.neg ((val x.n) * (dn (val y.d)))) + (sgn y.neg ((val y.n) * (dn (val x.d))))))) (limbs ((dn (val x.d)) * (dn (val y.d)))) (small_limbs _) (small_limbs _) (Bz.use (z:=(sgn x.neg ((val x.n) * (dn (val y.d)))) + (sgn y.neg ((val y.n) * (dn (val x.d))))) (by omega)) (Bn.use (by omega)) (Int.natAbs ((sgn x.neg ((val x.n) * (dn (val y.d)))) + (sgn y.neg ((val y.n) * (dn (val x.d)))))) ((dn (val x.d)) * (dn (val y.d))) (val_limbs _) (val_limbs _) (Nat.mul_ne_zero (dn_ne _) (dn_ne _))) ?_
 refine dz 1 rfl (DK_nil (za 1 rfl ?_))
 exact r1_ hq_ rfl (by subst hr;subst hs;rw [q_add' x.neg y.neg (val x.n) (val y.n) (val x.d) (val y.d) _ rfl] <;> rfl)
set_option maxRecDepth 10000 in
theorem qmul (x:Qr) (r:Rat) (hr:x.q = r) (hfx:Fit 1000000000000 x) (y:Qr) (s:Rat) (hs:y.q = s) (hfy:Fit 1000000000000 y):Ctr Tryz.prog 45 [qV x,qV y] (R.one (qV (qOf (r * s)))):=by
 refine bd_ Tryz.func45 Tryz.ntmps45 rfl (fun w0 A0=>?_)
 haveI ixn:Bn (val x.n) 1000000000000:=Bn.val x.hn hfx.n
 haveI ixd:Bn (val x.d) 1000000000000:=Bn.val x.hd hfx.d
 haveI iyn:Bn (val y.n) 1000000000000:=Bn.val y.hn hfy.n
 haveI iyd:Bn (val y.d) 1000000000000:=Bn.val y.hd hfy.d
 haveI ir:Br r 1000000000000:=hr ▸ Br.q hfx
 haveI is:Br s 1000000000000:=hs ▸ Br.q hfy
 refine zc 8 rfl (dr_ 0 [(16,2)] [2] (dz 4 rfl (kq_ rfl (Jq_neq_bool rfl rfl rfl un4 (d:=_) (rfl)) (dz 4 rfl (kc_ fn100 rfl (mul_w x.n x.hn (hfx.mono (by omega)).n y.n y.hn (hfy.mono (by omega)).n (val x.n) rfl (val y.n) rfl) (dz 1 rfl (kc_ fn101 rfl (qunder x (hfx.mono (by omega))) (dz 1 rfl (kc_ fn101 rfl (qunder y (hfy.mono (by omega))) ?_)))))))))
 refine kc_ fn100 rfl (mul_w (dl x.d) (small_dl x.hd) (len_dl hfx.d (by omega)) (dl y.d) (small_dl y.hd) (len_dl hfy.d (by omega)) (dn (val x.d)) (val_dl _) (dn (val y.d)) (val_dl _)) ?_
 refine kc_ fn99 rfl (qquot (x.neg != y.neg) (limbs ((val x.n) * (val y.n))) (limbs ((dn (val x.d)) * (dn (val y.d)))) (small_limbs _) (small_limbs _) (Bn.use (by omega)) (Bn.use (by omega)) ((val x.n) * (val y.n)) ((dn (val x.d)) * (dn (val y.d))) (val_limbs _) (val_limbs _) (Nat.mul_ne_zero (dn_ne _) (dn_ne _))) (dz 1 rfl (DK_nil (za 1 rfl ?_)))
 exact r1_ hq_ rfl (by subst hr;subst hs;rw [rq_mul] <;> rfl)
set_option maxRecDepth 10000 in
theorem rqmul (x:Qr) (r:Rat) (hr:x.q = r) (hfx:Fit 1000000000000 x) (y:Qr) (s:Rat) (hs:y.q = s) (hfy:Fit 1000000000000 y):Ctr Tryz.prog 55 [qV x,qV y] (R.one (qV (qOf (r * s)))):=by
 refine bd_ Tryz.func55 Tryz.ntmps55 rfl (fun w0 A0=>?_)
 haveI ixn:Bn (val x.n) 1000000000000:=Bn.val x.hn hfx.n
 haveI ixd:Bn (val x.d) 1000000000000:=Bn.val x.hd hfx.d
 haveI iyn:Bn (val y.n) 1000000000000:=Bn.val y.hn hfy.n
 haveI iyd:Bn (val y.d) 1000000000000:=Bn.val y.hd hfy.d
 haveI ir:Br r 1000000000000:=hr ▸ Br.q hfx
 haveI is:Br s 1000000000000:=hs ▸ Br.q hfy
 refine zc 8 rfl (dr_ 0 [(18,2)] [2] (dz 4 rfl (kq_ rfl (Jq_neq_bool rfl rfl rfl un4 (d:=_) (rfl)) (dz 4 rfl (kc_ fn114 rfl (rmul_w x.n y.n x.hn y.hn (hfx.mono (by omega)).n (hfy.mono (by omega)).n (val x.n) (val y.n) rfl rfl) (dz 2 rfl (kc_ fn115 rfl ((rqone_w x.d x.hd (hfx.mono (by omega)).d (val x.d) rfl)) (dz 2 rfl ?_))))))))
 refine kc_ fn115 rfl ((rqone_w y.d y.hd (hfy.mono (by omega)).d (val y.d) rfl)) (kc_ fn114 rfl (rmul_w (limbs (dn (val x.d))) (limbs (dn (val y.d))) (small_limbs _) (small_limbs _) (Bn.use (by omega)) (Bn.use (by omega)) (dn (val x.d)) (dn (val y.d)) (val_limbs _) (val_limbs _)) ?_)
 refine kc_ fn117 rfl (rqquot (x.neg != y.neg) (limbs ((val x.n) * (val y.n))) (limbs ((dn (val x.d)) * (dn (val y.d)))) (small_limbs _) (small_limbs _) (Bn.use (by omega)) (Bn.use (by omega)) ((val x.n) * (val y.n)) ((dn (val x.d)) * (dn (val y.d))) (val_limbs _) (val_limbs _) (Nat.mul_ne_zero (dn_ne _) (dn_ne _))) (dz 1 rfl (DK_nil (za 1 rfl ?_)))
 exact r1_ hq_ rfl (by subst hr;subst hs;rw [rq_mul] <;> rfl)
set_option maxRecDepth 10000 in
theorem rqsub (x:Qr) (r:Rat) (hr:x.q = r) (hfx:Fit 1000000000000 x) (y:Qr) (s:Rat) (hs:y.q = s) (hfy:Fit 1000000000000 y):Ctr Tryz.prog 66 [qV x,qV y] (R.one (qV (qOf (r - s)))):=by
 refine bd_ Tryz.func66 Tryz.ntmps66 rfl (fun w0 A0=>?_)
 haveI ixn:Bn (val x.n) 1000000000000:=Bn.val x.hn hfx.n
 haveI ixd:Bn (val x.d) 1000000000000:=Bn.val x.hd hfx.d
 haveI iyn:Bn (val y.n) 1000000000000:=Bn.val y.hn hfy.n
 haveI iyd:Bn (val y.d) 1000000000000:=Bn.val y.hd hfy.d
 haveI ir:Br r 1000000000000:=hr ▸ Br.q hfx
 haveI is:Br s 1000000000000:=hs ▸ Br.q hfy
 refine zc 8 rfl (dr_ 0 [(4,2)] [2] (dz 2 rfl (kc_ fn126 rfl (rqneg y (s) hs (hfy.mono (by omega))) (kc_ fn54 rfl (rqadd x (r) hr (hfx.mono (by omega)) (qOf (-(s))) (-(s)) (qOf_q _) (Br.use (by omega))) (dz 1 rfl (DK_nil (za 1 rfl ?_)))))))
 exact r1_ hq_ rfl (by rw [Rat.sub_eq_add_neg] <;> rfl)
set_option maxRecDepth 10000 in
theorem rqcmp (x:Qr) (r:Rat) (hr:x.q = r) (hfx:Fit 1000000000000 x) (y:Qr) (s:Rat) (hs:y.q = s) (hfy:Fit 1000000000000 y):Ctr Tryz.prog 26 [qV x,qV y] (R.one (V.one (Leaf.val (.int .i64 (cmpq r s))))):=by
 refine bd_ Tryz.func26 Tryz.ntmps26 rfl (fun w0 A0=>?_)
 haveI ixn:Bn (val x.n) 1000000000000:=Bn.val x.hn hfx.n
 haveI ixd:Bn (val x.d) 1000000000000:=Bn.val x.hd hfx.d
 haveI iyn:Bn (val y.n) 1000000000000:=Bn.val y.hn hfy.n
 haveI iyd:Bn (val y.d) 1000000000000:=Bn.val y.hd hfy.d
 haveI ir:Br r 1000000000000:=hr ▸ Br.q hfx
 haveI is:Br s 1000000000000:=hs ▸ Br.q hfy
 refine zc 11 rfl (tc_ fn66 rfl (rqsub x (r) hr (hfx.mono (by omega)) y (s) hs (hfy.mono (by omega))) (tc_ fn37 rfl (rqsign (qOf ((r) - (s))) ((r) - (s)) (qOf_q _) (Br.use (by omega))) (zl 3 rfl ?_)))
 exact r1_ hq_ rfl (by rw [cmpq_sub])
set_option maxRecDepth 10000 in
theorem qmax (x:Qr) (r:Rat) (hr:x.q = r) (hfx:Fit 1000000000000 x) (y:Qr) (s:Rat) (hs:y.q = s) (hfy:Fit 1000000000000 y):Ctr Tryz.prog 46 [qV x,qV y] (R.one (qV (qOf (mx r s)))):=by
 refine bd_ Tryz.func46 Tryz.ntmps46 rfl (fun w0 A0=>?_)
 haveI ixn:Bn (val x.n) 1000000000000:=Bn.val x.hn hfx.n
 haveI ixd:Bn (val x.d) 1000000000000:=Bn.val x.hd hfx.d
 haveI iyn:Bn (val y.n) 1000000000000:=Bn.val y.hn hfy.n
 haveI iyd:Bn (val y.d) 1000000000000:=Bn.val y.hd hfy.d
 haveI ir:Br r 1000000000000:=hr ▸ Br.q hfx
 haveI is:Br s 1000000000000:=hs ▸ Br.q hfy
 refine zc 12 rfl (tc_ fn83 rfl (qcmp x (r) hr (hfx.mono (by omega)) y (s) hs (hfy.mono (by omega))) (zl 3 rfl ?_))
 refine Tc_cond rfl (fun hc8=>?_) (fun hc8=>?_)
 ·refine zc 3 rfl (tc_ fn102 rfl (qcanon x (r) hr (hfx.mono (by omega))) (zl 3 rfl ?_))
  exact r1_ hq_ rfl (by rw [mx_ge (of_decide_eq_true hc8)] <;> rfl)
 ·refine zc 5 rfl (tc_ fn102 rfl (qcanon y (s) hs (hfy.mono (by omega))) (zl 3 rfl ?_))
  exact r1_ hq_ rfl (by rw [mx_lt (of_decide_eq_false hc8)] <;> rfl)
end Go.Proofs.YtmpkandbccallaaGreatDoor
namespace Rc
open Go
def sameQ (x y:Qr):Bool:=(x.neg == y.neg) && decide (x.n = y.n) && decide (x.d = y.d)
theorem sameQ_iff {x y:Qr}:sameQ x y = true↔x = y:=by
 unfold sameQ
 rw [Bool.and_eq_true,Bool.and_eq_true,beq_iff_eq,decide_eq_true_eq,decide_eq_true_eq]
 obtain ⟨a,n,d,h1,h2⟩:=x
 obtain ⟨b,m,e,h3,h4⟩:=y
 simp only [Qr.mk.injEq]
 constructor
 ·rintro ⟨⟨h1,h2⟩,h3⟩;exact ⟨h1,h2,h3⟩
 ·rintro ⟨h1,h2,h3⟩;exact ⟨⟨h1,h2⟩,h3⟩
theorem sameQ_self (x:Qr):sameQ x x = true:=sameQ_iff.2 rfl
theorem isC_of (q:Rat):isC (qOf q) = true:=isC_iff.2 (by rw [qOf_q])
theorem qOf_int (z:Int):V.agg [Leaf.val (.bool (decide (z < 0))),natL (limbs z.natAbs),nilL] = qV (qOf (z:Rat)):=by
 show _ = V.agg [Leaf.val (.bool (decide ((z:Rat).num < 0))),natL (limbs (z:Rat).num.natAbs),natL (limbs (cden (z:Rat)))]
 rw [Rat.num_intCast]
 have:cden (z:Rat) = 0:=by unfold cden;rw [Rat.den_intCast];rfl
 rw [this,limbs_zero];rfl
theorem Br.int {z:Int} {k:Nat} (h:z.natAbs < 4294967296 ^ k):Br (z:Rat) k:=
 ⟨limbs_length_le.2 (by unfold cnum;rw [Rat.num_intCast];exact h),by show (limbs (cden (z:Rat))).length≤k;rw [show cden (z:Rat) = 0 by unfold cden;rw [Rat.den_intCast];rfl,limbs_zero];exact Nat.zero_le _⟩
theorem Br.int2 {z:Int} (h1:-9223372036854775808≤z) (h2:z≤9223372036854775807):Br (z:Rat) 2:=Br.int (by have:(4294967296:Nat) ^ 2 = 18446744073709551616:=rfl;omega)
theorem rq_div (a b:Bool) (m n:Nat) (hn:n≠0):rq (a != b) m n = ((sgn a m:Int):Rat) / ((sgn b n:Int):Rat):=by
 unfold rq
 rw [dn_of hn,Rat.mkRat_eq_div]
 have hn':((n:Int):Rat)≠0:=fun e=>hn (by
  have:=Rat.intCast_eq_zero_iff.1 e
  omega)
 have hn2:((n:Nat):Rat) = ((n:Int):Rat):=rfl
 rw [hn2]
 cases a <;> cases b <;> simp [Rat.intCast_neg] <;> grind
theorem sgz_ne {z:Int} (h:z≠0):sgz z≠0:=by
 have:=sgz_cases z;omega
def scl (t a b:Rat):Rat:=if t < 0 then t * b else t * a
def sch (t a b:Rat):Rat:=if t < 0 then t * a else t * b
instance Br.scl {t a b:Rat} {i j k:Nat} [Br t i] [Br a j] [Br b k]:Br (scl t a b) (i + (j + k) + 1):=by
 unfold Rc.scl;split
 ·exact (Br.mul (r:=t) (s:=b)).mono (by omega)
 ·exact (Br.mul (r:=t) (s:=a)).mono (by omega)
instance Br.sch {t a b:Rat} {i j k:Nat} [Br t i] [Br a j] [Br b k]:Br (sch t a b) (i + (j + k) + 1):=by
 unfold Rc.sch;split
 ·exact (Br.mul (r:=t) (s:=a)).mono (by omega)
 ·exact (Br.mul (r:=t) (s:=b)).mono (by omega)
theorem Br.fitq {x:Qr} {r:Rat} {k:Nat} (hr:x.q = r) (h:Fit k x):Br r k:=hr ▸ Br.q h
end Rc
set_option linter.unusedSimpArgs false
set_option linter.unusedVariables false
namespace Go.Proofs.YtmpkandbccallaaGreatDoor
open Go Go.RowKit Rc
set_option maxRecDepth 10000 in
theorem rqsame (x y:Qr):Ctr Tryz.prog 15 [qV x,qV y] (R.one (V.one (Leaf.val (.bool (sameQ x y))))):=by
 refine bd_ Tryz.func15 Tryz.ntmps15 rfl (fun w0 A0=>?_)
 refine zc 13 rfl (tq_ rfl (Jq_eql_bool rfl rfl rfl un4 (d:=_) (rfl)) (zl 1 rfl ?_))
 refine two_ rfl (fun hb10=>?_) (fun hb10=>?_)
 ·refine zl 16 rfl ?_
  exact r1_ hq_ rfl (by simp [sameQ, *])
 ·refine zl 4 rfl (tc_ fn58 rfl (same_spec x.n y.n) (zl 2 rfl ?_))
  refine two_ rfl (fun hb17=>?_) (fun hb17=>?_)
  ·refine zl 9 rfl ?_
   exact r1_ hq_ rfl (by simp [sameQ, *])
  ·refine zl 4 rfl (tc_ fn58 rfl (same_spec x.d y.d) (zl 4 rfl ?_))
   exact r1_ hq_ rfl (by simp [sameQ, *])
set_option maxRecDepth 10000 in
theorem rqvalid (x:Qr) (r:Rat) (hr:x.q = r) (hfx:Fit 1000000000000 x):Ctr Tryz.prog 110 [qV x] (R.one (V.one (Leaf.val (.bool (isC x))))):=by
 refine bd_ Tryz.func110 Tryz.ntmps110 rfl (fun w0 A0=>?_)
 haveI ir:Br r 1000000000000:=Br.fitq hr hfx
 refine zc 7 rfl (dr_ 0 [] [] (dz 2 rfl (kc_ fn57 rfl (rqcanon x (r) hr (hfx.mono (by omega))) (kc_ fn15 rfl (rqsame x (qOf (r))) (dz 1 rfl (DK_nil (za 1 rfl ?_)))))))
 exact r1_ hq_ rfl (by subst hr;rfl)
set_option maxRecDepth 10000 in
theorem qvalid (x:Qr) (r:Rat) (hr:x.q = r) (hfx:Fit 1000000000000 x):Ctr Tryz.prog 90 [qV x] (R.one (V.one (Leaf.val (.bool (isC x))))):=by
 refine bd_ Tryz.func90 Tryz.ntmps90 rfl (fun w0 A0=>?_)
 haveI ir:Br r 1000000000000:=Br.fitq hr hfx
 refine zc 11 rfl (tq_ rfl (jln rfl) ?_)
 by_cases h0:x.d.length = 0
 ·refine tq_ rfl (eqT rfl) (zl 7 rfl (tc_ fn145 rfl (valid_spec x.n) (zl 1 rfl ?_)))
  refine two_ rfl (fun hb11=>?_) (fun hb11=>?_)
  ·refine zl 13 rfl ?_
   exact r1_ hq_ rfl (by rw [isC_int h0];simp [*])
  ·refine zl 4 rfl ?_
   refine two_ rfl (fun hb15=>?_) (fun hb15=>?_)
   ·refine zl 2 rfl (tq_ rfl (jln rfl) (zl 6 rfl ?_))
    exact r1_ hq_ rfl (by rw [isC_int h0];simp [*])
   ·refine zl 9 rfl ?_
    exact r1_ hq_ rfl (by rw [isC_int h0];simp [*])
 ·refine tq_ rfl (eqF rfl) (zl 8 rfl (tc_ fn102 rfl (qcanon x (r) hr (hfx.mono (by omega))) (zl 10 rfl (tq_ rfl (Jq_eql_bool rfl rfl rfl un4 (d:=_) (rfl)) (zl 1 rfl ?_)))))
  refine two_ rfl (fun hb29=>?_) (fun hb29=>?_)
  ·refine zl 24 rfl (zl 12 rfl ?_)
   exact r1_ hq_ rfl (by rw [isC_cmp,hr];simp [*])
  ·refine zl 2 rfl (tq_ rfl (jln rfl) (zl 2 rfl (tq_ rfl (jln rfl) (zl 3 rfl ?_))))
   refine two_ rfl (fun hb38=>?_) (fun hb38=>?_)
   ·refine zl 24 rfl (zl 3 rfl ?_)
    exact r1_ hq_ rfl (by rw [isC_cmp,hr];simp [*])
   ·refine zl 2 rfl (tq_ rfl (jln rfl) (zl 2 rfl (tq_ rfl (jln rfl) (zl 3 rfl ?_))))
    refine two_ rfl (fun hb47=>?_) (fun hb47=>?_)
    ·refine zl 18 rfl ?_
     exact r1_ hq_ rfl (by rw [isC_cmp,hr];simp [*])
    ·refine zl 4 rfl (tc_ fn146 rfl (cmp_w x.n x.hn (limbs (cnum r)) (small_limbs _) (val x.n) rfl (cnum r) (val_limbs _)) (zl 3 rfl ?_))
     refine two_ rfl (fun hb55=>?_) (fun hb55=>?_)
     ·refine zl 10 rfl ?_
      exact r1_ hq_ rfl (by rw [isC_cmp,hr];simp [*])
     ·refine zl 4 rfl (tc_ fn146 rfl (cmp_w x.d x.hd (limbs (cden r)) (small_limbs _) (val x.d) rfl (cden r) (val_limbs _)) (zl 5 rfl ?_))
      exact r1_ hq_ rfl (by rw [isC_cmp,hr];simp [*])
set_option maxRecDepth 10000 in
theorem rqmake (x:Zr) (z:Int) (hz:x.z = z) (hfx:x.m.length≤1000000000000) (y:Zr) (w:Int) (hw:y.z = w) (hfy:y.m.length≤1000000000000) (hw1:w≠0):Ctr Tryz.prog 125 [zV x,zV y] (R.tup [qV (qOf ((z:Rat) / (w:Rat))),V.one (Leaf.val (.int .i64 0))]):=by
 refine bd_ Tryz.func125 Tryz.ntmps125 rfl (fun w0 A0=>?_)
 haveI ix:Bn (val x.m) 1000000000000:=Bn.val x.hm hfx
 haveI iy:Bn (val y.m) 1000000000000:=Bn.val y.hm hfy
 have hw0:val y.m≠0:=fun e=>hw1 (by rw [← hw];unfold Zr.z;rw [e];cases y.neg <;> rfl)
 refine zc 12 rfl (tc_ fn86 rfl (rzsign y (w) hw (Nat.le_trans hfy (by omega))) (tq_ rfl (eqF rfl (sgz_ne hw1)) (zl 11 rfl (tq_ rfl (Jq_neq_bool rfl rfl rfl un4 (d:=_) (rfl)) (zl 4 rfl (tc_ fn117 rfl (rqquot (x.neg != y.neg) x.m y.m x.hm y.hm (by omega) (by omega) (val x.m) (val y.m) rfl rfl hw0) (zl 4 rfl ?_)))))))
 exact r2_ hq_ rfl (by subst hz;subst hw;unfold Zr.z;rw [← rq_div _ _ _ _ hw0] <;> rfl)
set_option maxRecDepth 10000 in
theorem rqof (z:Int) (h1:-9223372036854775808≤z) (h2:z≤9223372036854775807):Ctr Tryz.prog 36 [V.one (Leaf.val (.int .i64 z))] (R.one (qV (qOf (z:Rat)))):=by
 refine bd_ Tryz.func36 Tryz.ntmps36 rfl (fun w0 A0=>?_)
 refine zc 8 rfl (tc_ fn85 rfl (rzof (z) (by omega) (by omega)) (zl 14 rfl ?_))
 exact r1_ hq_ rfl (congrArg R.one (qOf_int z))
set_option maxRecDepth 10000 in
theorem rqfrac (z w:Int) (h1:-9223372036854775808≤z) (h2:z≤9223372036854775807) (h3:-9223372036854775808≤w) (h4:w≤9223372036854775807) (h5:w≠0):Ctr Tryz.prog 65 [V.one (Leaf.val (.int .i64 z)),V.one (Leaf.val (.int .i64 w))] (R.tup [qV (qOf ((z:Rat) / (w:Rat))),V.one (Leaf.val (.int .i64 0))]):=by
 refine bd_ Tryz.func65 Tryz.ntmps65 rfl (fun w0 A0=>?_)
 refine zc 9 rfl (tc_ fn85 rfl (rzof (z) (by omega) (by omega)) (zl 1 rfl (tc_ fn85 rfl (rzof (w) (by omega) (by omega)) (tc_ fn125 rfl (rqmake (zOf z) z (zOf_z _) (Bn.of_lt (by omega) (by omega)) (zOf w) w (zOf_z _) (Bn.of_lt (by omega) (by omega)) h5) (zl 6 rfl ?_)))))
 exact r2_ hq_ rfl rfl
end Go.Proofs.YtmpkandbccallaaGreatDoor
set_option linter.unusedSimpArgs false
set_option linter.unusedVariables false
namespace Go.Proofs.YtmpkandbccallaaGreatDoor
open Go Go.RowKit Rc
set_option maxRecDepth 10000 in
theorem nonzero_spec (l:List Tm) (hl:l.length≤1000000) (v:Nat) (c:Rat) {B:Nat} [Br c B] (hB:B≤400000000000):CtrO Tryz.prog 124 92 4 (El.all tmE l) (El.all tmE (nz l (v,c))) [V.one (Leaf.own 0 0),V.agg (tmE.f (v,c))] (fun n=>V.one (Leaf.own 0 n)):=by
 refine CtrO.of_body Tryz.func124 rfl Tryz.ntmps124 (Nat.le_of_ble_eq_true rfl) (fun w0 A0=>?_)
 refine qc_ (zc 11 rfl (tc_ fn37 rfl (rqsign (qOf (c)) (c) (qOf_q _) (Br.use (by omega))) ?_))
 by_cases hc0:c = 0
 ·refine tq_ rfl (eqT rfl (by rw [hc0];rfl)) (zl 9 rfl ?_)
  exact Tc_retO (fun _ _ h=>h) rfl rfl rfl rfl (by rw [nz_pos hc0]) (hcl:=by first | rfl | exact El.all_cl _ _)
 ·refine tq_ rfl (eqF rfl (sg_ne hc0)) (zl 9 rfl (te_ rfl (Je_buildSlice rfl un23 ty92 tz92 rfl (by decide) (by decide) rfl (by decide) rfl) (te_ rfl (jap (v,c) rfl rfl) (zl 3 rfl ?_))))
  exact Tc_retO (fun _ _ h=>h) rfl rfl rfl rfl (by rw [nz_neg hc0]) (hcl:=by first | rfl | exact El.all_cl _ _)
set_option maxRecDepth 10000 in
theorem rscale (f:Af) (c:Rat) {B C:Nat} (hB:∀ t∈f.ts,Br t.2 B) [Br f.c B] [Br c C] (hBC:B + C≤300000000000) (hl:f.ts.length≤1000):Ctr Tryz.prog 64 [afV f,V.agg (qL (c))] (R.one (afV ⟨scT f.ts c,f.c * c⟩)):=by
 refine bd_ Tryz.func64 Tryz.ntmps64 rfl (fun w0 A0=>?_)
 refine zc 12 rfl (tc_ fn55 rfl (rqmul (qOf (f.c)) (f.c) (qOf_q _) (Br.use (by omega)) (qOf (c)) (c) (qOf_q _) (Br.use (by omega))) (tq_ rfl (Jq_build rfl tx29 rfl pl29 rfl) (te_ rfl (Je_alloc (n:=3) rfl tx29 rfl) (zl 5 rfl ?_))))
 refine Tc_growB 3 92 4 (ls':=[Leaf.own 4 0,Leaf.val (.bool (cneg ((f.c) * (c)))),natL (limbs (cnum ((f.c) * (c)))),natL (limbs (cden ((f.c) * (c))))]) rfl rfl rfl ⟨.inr ⟨rfl,rfl⟩,.inl rfl,.inl rfl,.inl rfl,trivial⟩ (zc 5 rfl ?_)
 refine lpR_ (fun m Γ H=>∃ (i:Nat) (n:Nat) (out:List Tm),f.ts.length - i = m∧Γ = [(2,some (D.ptr 0 0)),(3,some (D.ptr 1 0)),(4,some (D.ptr 2 0)),(5,some (D.ptr 3 0)),(6,some (D.val (.int .i64 ((i:Nat):Int))))]∧H = [hb_ 29 (afL f),hb_ 27 (qL c),hb_ 29 [El.row tmE ([]),Leaf.val (.bool false),natL ([]),natL ([])],hb_ 29 [Leaf.own 4 n,Leaf.val (.bool (cneg (f.c * c))),natL (limbs (cnum (f.c * c))),natL (limbs (cden (f.c * c)))],hgr 92 4 tmE out n]∧i≤f.ts.length∧out = scT (f.ts.take i) c) ⟨0,0,[],rfl,rfl,rfl,Nat.zero_le _,rfl⟩ rfl ?_
 rintro m Γ H ⟨i,n,out,rfl,rfl,rfl,hi0,hout⟩
 refine zc 6 rfl (tq_ rfl (jln rfl) ?_)
 by_cases hi:i < f.ts.length
 ·refine tq_ rfl (ltT rfl) (zl 7 rfl ?_)
  obtain ⟨x,hx⟩:∃ x,f.ts[i]? = some x:=⟨_,List.getElem?_eq_getElem hi⟩
  haveI hbx:=hB x (List.mem_of_getElem? hx)
  have hlo:out.length≤1000:=by rw [hout];exact Nat.le_trans (scT_len _ _) (by simp;omega)
  refine dr_ 0 [(17,4),(19,3)] [4,3] (dz 1 rfl (kp_ [4] rfl (jld rfl) (dz 3 rfl (kq_ rfl (jix i hx rfl) (kq_ rfl (jfr rfl) (kq_ rfl (jli rfl) (dz 3 rfl (kq_ rfl (jix i hx rfl) (kq_ rfl (jfr rfl) ?_)))))))))
  refine kq_ rfl (jlr rfl) (dz 1 rfl (kc_ fn55 rfl (rqmul (qOf (x.2)) (x.2) (qOf_q _) (Br.use (by omega)) (qOf (c)) (c) (qOf_q _) (Br.use (by omega))) (dz 1 rfl ?_)))
  refine ki_ 4 rfl (Jd_callO (r:=4) (ys:=[V.one (Leaf.own 4 n),V.agg [Leaf.val (.int .i64 ((x.1:Nat):Int)),Leaf.val (.bool (cneg ((x.2) * (c)))),natL (limbs (cnum ((x.2) * (c)))),natL (limbs (cden ((x.2) * (c))))]]) (V.one (Leaf.own 4 (n + 1))) rfl fn124 rfl rfl (nonzero_spec out (by omega) x.1 ((x.2) * (c)) (by omega)) (nz_le _ _)) (dz 2 rfl (DK_nil (za 4 rfl ?_)))
  refine tq_ rfl (jad (i + 1) rfl) (zl 2 rfl ?_)
  exact nx_ ⟨i + 1,_,_,rfl,rfl,rfl,hi,by rw [hout,scT_take hx]⟩ rfl
 ·refine tq_ rfl (ltF rfl) (zl 9 rfl ?_)
  have hie:i = f.ts.length:=by omega
  rw [hie,List.take_length] at hout
  refine zc 5 rfl (Tc_viewB 2 (ls':=[El.row tmE out,Leaf.val (.bool (cneg (f.c * c))),natL (limbs (cnum (f.c * c))),natL (limbs (cden (f.c * c)))]) rfl rfl (RowAt.ofE tmE out rfl (by decide)) ⟨.inr ⟨rfl,rfl⟩,.inl rfl,.inl rfl,.inl rfl,trivial⟩ ?_)
  exact r1_ hq_ rfl (by rw [← hout])
end Go.Proofs.YtmpkandbccallaaGreatDoor
set_option linter.unusedSimpArgs false
set_option linter.unusedVariables false
namespace Go.Proofs.YtmpkandbccallaaGreatDoor
open Go Go.RowKit Rc
set_option maxRecDepth 10000 in
theorem rvar (v:Nat) (hv:v≤1000000):Ctr Tryz.prog 121 [V.one (Leaf.val (.int .i64 ((v:Int))))] (R.one (afV ⟨[(v,((1:Int):Rat))],0⟩)):=by
 refine bd_ Tryz.func121 Tryz.ntmps121 rfl (fun w0 A0=>?_)
 refine zc 8 rfl (tc_ fn36 rfl (rqof 1 (by decide) (by decide)) (zl 1 rfl (te_ rfl (Je_buildSlice rfl un23 ty92 tz92 rfl (by decide) (by decide) rfl (by decide) rfl) (zl 4 rfl ?_))))
 exact r1_ hq_ rfl (by rw [af0] <;> rfl)
set_option maxRecDepth 10000 in
theorem rnumber (c:Rat):Ctr Tryz.prog 21 [V.agg (qL (c))] (R.one (afV ⟨[],c⟩)):=by
 refine bd_ Tryz.func21 Tryz.ntmps21 rfl (fun w0 A0=>?_)
 refine zc 13 rfl ?_
 exact r1_ hq_ rfl rfl
set_option maxRecDepth 10000 in
theorem rvalid7 (f:Af) (vars:Nat) {B:Nat} (hcan:CanT f.ts) (hB:∀ t∈f.ts,Br t.2 B) [Br f.c B] (hBC:B≤300000000000) (hl:f.ts.length≤1000) (hv:vars≤1000000):Ctr Tryz.prog 51 [afV f,V.one (Leaf.val (.int .i64 ((vars:Int))))] (R.one (V.one (Leaf.val (.bool (decide (∀ t∈f.ts,t.1 < vars)))))):=by
 refine bd_ Tryz.func51 Tryz.ntmps51 rfl (fun w0 A0=>?_)
 refine zc 13 rfl (lpR_ (fun m Γ H=>∃ (i:Nat),f.ts.length - i = m∧Γ = [(1,some (D.val (.int .i64 ((vars:Nat):Int)))),(2,some (D.ptr 0 0)),(5,some (D.val (.int .i64 ((i:Nat):Int))))]∧H = [hb_ 29 (afL f)]∧i≤f.ts.length∧∀ t∈f.ts.take i,t.1 < vars) ⟨0,rfl,rfl,rfl,Nat.zero_le _,by simp⟩ rfl ?_)
 rintro m Γ H ⟨i,rfl,rfl,rfl,hi0,hall⟩
 refine zc 6 rfl (tq_ rfl (jln rfl) ?_)
 by_cases hi:i < f.ts.length
 ·refine tq_ rfl (ltT rfl) (zl 8 rfl ?_)
  obtain ⟨x,hx⟩:∃ x,f.ts[i]? = some x:=⟨_,List.getElem?_eq_getElem hi⟩
  haveI hbx:=hB x (List.mem_of_getElem? hx)
  obtain ⟨hn0,hgt,hlt⟩:=hcan.get hx
  refine zc 4 rfl (tq_ rfl (jix i hx rfl) (tq_ rfl (jlr rfl) (zl 5 rfl (dr_ 0 [] [] (dz 2 rfl (kq_ rfl (ltF rfl) (dz 4 rfl ?_)))))))
  by_cases hvx:vars≤x.1
  ·refine kq_ rfl (geT rfl) (dz 24 rfl (dz 5 rfl (DK_nil (za 7 rfl ?_))))
   exact r1_ hq_ rfl (by rw [bad_var hx hvx])
  ·refine kq_ rfl (geF rfl) (dz 3 rfl ?_)
   by_cases hi1:0 < i
   ·refine kq_ rfl (gtT rfl) (dz 4 rfl ?_)
    obtain ⟨y,hy⟩:∃ y,f.ts[i - 1]? = some y:=⟨_,List.getElem?_eq_getElem (by omega)⟩
    have hyx:=hcan.prev hi1 hx hy
    refine kq_ rfl (jsb (i - 1) rfl) (kq_ rfl (jix (i - 1) hy rfl) (kq_ rfl (jfr rfl) (kq_ rfl (jli rfl) (dz 2 rfl (kq_ rfl (geF rfl) (dz 5 rfl (kc_ fn37 rfl (rqsign (qOf (x.2)) (x.2) (qOf_q _) (Br.use (by omega))) (kq_ rfl (eqF rfl (sg_ne hn0)) (dz 4 rfl ?_)))))))))
    refine kc_ fn110 rfl (rqvalid (qOf (x.2)) (x.2) (qOf_q _) (Br.use (by omega))) (kis_ true rfl (isC_of _) (dz 2 rfl (DK_nil (za 5 rfl ?_))))
    have hvx:x.1 < vars:=by omega
    refine zc 2 rfl (tq_ rfl (jad (i + 1) rfl) (zl 2 rfl (At_free 1 (trim_ 1 rfl ?_))))
    exact nx_ ⟨i + 1,rfl,rfl,rfl,hi,take_all hx hall hvx⟩ rfl
   ·refine kq_ rfl (gtF rfl) (dz 16 rfl (kc_ fn37 rfl (rqsign (qOf (x.2)) (x.2) (qOf_q _) (Br.use (by omega))) (kq_ rfl (eqF rfl (sg_ne hn0)) (dz 4 rfl (kc_ fn110 rfl (rqvalid (qOf (x.2)) (x.2) (qOf_q _) (Br.use (by omega))) (kis_ true rfl (isC_of _) (dz 2 rfl (DK_nil (za 5 rfl ?_)))))))))
    have hvx:x.1 < vars:=by omega
    refine zc 2 rfl (tq_ rfl (jad (i + 1) rfl) (zl 2 rfl (At_free 1 (trim_ 1 rfl ?_))))
    exact nx_ ⟨i + 1,rfl,rfl,rfl,hi,take_all hx hall hvx⟩ rfl
 ·refine tq_ rfl (ltF rfl) (zl 9 rfl ?_)
  have hie:i = f.ts.length:=by omega
  rw [hie,List.take_length] at hall
  refine zc 3 rfl (tc_ fn110 rfl (rqvalid (qOf (f.c)) (f.c) (qOf_q _) (Br.use (by omega))) (is_ true rfl (isC_of _) (zl 3 rfl ?_)))
  exact r1_ hq_ rfl (by rw [decide_eq_true hall])
set_option maxRecDepth 10000 in
theorem rplus (f:Af) (v:Nat) (c:Rat) {B C:Nat} (hcan:CanT f.ts) (hB:∀ t∈f.ts,Br t.2 B) [Br c C] (hBC:B + C≤300000000000) (hl:f.ts.length≤1000) (hv:v≤1000000):Ctr Tryz.prog 123 [afV f,V.one (Leaf.val (.int .i64 ((v:Int)))),V.agg (qL (c))] (R.one (afV ⟨addT f.ts v c,f.c⟩)):=by
 refine bd_ Tryz.func123 Tryz.ntmps123 rfl (fun w0 A0=>?_)
 refine zc 9 rfl (tq_ rfl (Jq_assign rfl (rfl)) (zl 3 rfl (Tc_growS 7 92 4 rfl rfl (zc 11 rfl ?_))))
 refine lpR_ (fun m Γ H=>∃ (i:Nat) (n:Nat) (out:List Tm) (done:Bool),f.ts.length - i = m∧Γ = [(1,some (D.val (.int .i64 ((v:Nat):Int)))),(3,some (D.ptr 0 0)),(5,some (D.ptr 1 0)),(6,some (D.ptr 2 0)),(7,some (D.v (V.one (Leaf.own 3 n)))),(8,some (D.bool done)),(9,some (D.val (.int .i64 ((i:Nat):Int))))]∧H = [hb_ 29 (afL f),hb_ 27 (qL c),hb_ 29 [El.row tmE ([]),Leaf.val (.bool false),natL ([]),natL ([])],hgr 92 4 tmE out n]∧i≤f.ts.length∧out.length≤2 * i∧PlI f.ts v c i out done) ⟨0,0,[],false,rfl,rfl,rfl,Nat.zero_le _,Nat.zero_le _,PlI.start _ _ _⟩ rfl ?_
 rintro m Γ H ⟨i,n,out,done,rfl,rfl,rfl,hi0,hol,hI⟩
 refine zc 6 rfl (tq_ rfl (jln rfl) ?_)
 by_cases hi:i < f.ts.length
 ·refine tq_ rfl (ltT rfl) (zl 8 rfl ?_)
  obtain ⟨x,hx⟩:∃ x,f.ts[i]? = some x:=⟨_,List.getElem?_eq_getElem hi⟩
  haveI hbx:=hB x (List.mem_of_getElem? hx)
  obtain ⟨hn0,hgt,hlt⟩:=hcan.get hx
  refine zc 4 rfl (tq_ rfl (jix i hx rfl) (tq_ rfl (jlr rfl) (zl 10 rfl ?_)))
  by_cases hxv:x.1 = v
  ·refine tq_ rfl (eqT rfl) (zl 8 rfl (tc_ fn54 rfl (rqadd (qOf (x.2)) (x.2) (qOf_q _) (Br.use (by omega)) (qOf (c)) (c) (qOf_q _) (Br.use (by omega))) (zl 24 rfl (zc 3 rfl ?_))))
   refine te_ rfl (Je_callO (r:=3) (ys:=[V.one (Leaf.own 3 n),V.agg [Leaf.val (.int .i64 ((x.1:Nat):Int)),Leaf.val (.bool (cneg ((x.2) + (c)))),natL (limbs (cnum ((x.2) + (c)))),natL (limbs (cden ((x.2) + (c))))]]) (V.one (Leaf.own 3 (n + 1))) rfl fn124 rfl rfl (nonzero_spec out (by omega) x.1 ((x.2) + (c)) (by omega)) (nz_le _ _)) (zl 6 rfl (tq_ rfl (jad (i + 1) rfl) ?_))
   refine zl 2 rfl (At_free 4 (trim_ 4 rfl ?_))
   exact nx_ ⟨i + 1,_,_,_,rfl,rfl,rfl,hi,(by have h1:=nz_len out (x.1,x.2 + c);omega),hI.eq hcan hx hxv⟩ rfl
  ·refine tq_ rfl (eqF rfl) (zl 11 rfl ?_)
   refine two_ rfl (fun hd=>?_) (fun hd=>?_)
   ·refine zl 10 rfl ?_
    have hd:done = true:=by simpa using hd
    subst hd
    refine zc 3 rfl (te_ rfl (Je_callO (r:=3) (ys:=[V.one (Leaf.own 3 n),V.agg [Leaf.val (.int .i64 ((x.1:Nat):Int)),Leaf.val (.bool (cneg x.2)),natL (limbs (cnum x.2)),natL (limbs (cden x.2))]]) (V.one (Leaf.own 3 (n + 1))) rfl fn124 rfl rfl (nonzero_spec out (by omega) x.1 x.2 (by omega)) (nz_le _ _)) (zl 6 rfl (tq_ rfl (jad (i + 1) rfl) (zl 2 rfl (At_free 4 (trim_ 4 rfl ?_))))))
    exact nx_ ⟨i + 1,_,_,_,rfl,rfl,rfl,hi,(by have h1:=nz_len out (x.1,x.2);omega),hI.rest hcan hx⟩ rfl
   ·refine zl 3 rfl ?_
    by_cases hvx:v < x.1
    ·refine tq_ rfl (gtT rfl) (zl 5 rfl ?_)
     have hd:done = false:=by simpa using hd
     subst hd
     refine zc 4 rfl (tc_ fn57 rfl (rqcanon (qOf (c)) (c) (qOf_q _) (Br.use (by omega))) (zl 1 rfl (te_ rfl (Je_callO (r:=3) (ys:=[V.one (Leaf.own 3 n),V.agg [Leaf.val (.int .i64 ((v:Nat):Int)),Leaf.val (.bool (cneg c)),natL (limbs (cnum c)),natL (limbs (cden c))]]) (V.one (Leaf.own 3 (n + 1))) rfl fn124 rfl rfl (nonzero_spec out (by omega) v c (by omega)) (nz_le _ _)) ?_)))
     refine zl 10 rfl (te_ rfl (Je_callO (r:=3) (ys:=[V.one (Leaf.own 3 (n + 1)),V.agg [Leaf.val (.int .i64 ((x.1:Nat):Int)),Leaf.val (.bool (cneg x.2)),natL (limbs (cnum x.2)),natL (limbs (cden x.2))]]) (V.one (Leaf.own 3 ((n + 1) + 1))) rfl fn124 rfl rfl (nonzero_spec (nz out (v,c)) (by have h1:=nz_len out (v,c);omega) x.1 x.2 (by omega)) (nz_le _ _)) (zl 6 rfl ?_))
     refine tq_ rfl (jad (i + 1) rfl) (zl 2 rfl (At_free 4 (trim_ 4 rfl ?_)))
     exact nx_ ⟨i + 1,_,_,_,rfl,rfl,rfl,hi,(by have h1:=nz_len out (v,c);have h2:=nz_len (nz out (v,c)) (x.1,x.2);omega),hI.ins hcan hx hvx⟩ rfl
    ·refine tq_ rfl (gtF rfl) (zl 6 rfl ?_)
     have hd:done = false:=by simpa using hd
     subst hd
     refine zc 3 rfl (te_ rfl (Je_callO (r:=3) (ys:=[V.one (Leaf.own 3 n),V.agg [Leaf.val (.int .i64 ((x.1:Nat):Int)),Leaf.val (.bool (cneg x.2)),natL (limbs (cnum x.2)),natL (limbs (cden x.2))]]) (V.one (Leaf.own 3 (n + 1))) rfl fn124 rfl rfl (nonzero_spec out (by omega) x.1 x.2 (by omega)) (nz_le _ _)) (zl 6 rfl (tq_ rfl (jad (i + 1) rfl) (zl 2 rfl (At_free 4 (trim_ 4 rfl ?_))))))
     exact nx_ ⟨i + 1,_,_,_,rfl,rfl,rfl,hi,(by have h1:=nz_len out (x.1,x.2);omega),hI.less hcan hx (by omega)⟩ rfl
 ·refine tq_ rfl (ltF rfl) (zl 15 rfl ?_)
  refine Tc_cond rfl (fun hd=>?_) (fun hd=>?_)
  ·have hd:done = false:=by simpa using hd
   subst hd
   refine zc 4 rfl (tc_ fn57 rfl (rqcanon (qOf (c)) (c) (qOf_q _) (Br.use (by omega))) (zl 1 rfl (te_ rfl (Je_callO (r:=3) (ys:=[V.one (Leaf.own 3 n),V.agg [Leaf.val (.int .i64 ((v:Nat):Int)),Leaf.val (.bool (cneg c)),natL (limbs (cnum c)),natL (limbs (cden c))]]) (V.one (Leaf.own 3 (n + 1))) rfl fn124 rfl rfl (nonzero_spec out (by omega) v c (by omega)) (nz_le _ _)) ?_)))
   refine zl 12 rfl (Tc_viewB 2 (ls':=[El.row tmE (nz out (v,c)),Leaf.val (.bool (cneg f.c)),natL (limbs (cnum f.c)),natL (limbs (cden f.c))]) rfl rfl (RowAt.ofE tmE (nz out (v,c)) rfl (by decide)) ⟨.inr ⟨rfl,rfl⟩,.inl rfl,.inl rfl,.inl rfl,trivial⟩ ?_)
   exact r1_ hq_ rfl (by rw [← hI.fin_f (by omega)])
  ·have hd:done = true:=by simpa using hd
   subst hd
   refine zc 11 rfl (Tc_viewB 2 (ls':=[El.row tmE out,Leaf.val (.bool (cneg f.c)),natL (limbs (cnum f.c)),natL (limbs (cden f.c))]) rfl rfl (RowAt.ofE tmE out rfl (by decide)) ⟨.inr ⟨rfl,rfl⟩,.inl rfl,.inl rfl,.inl rfl,trivial⟩ ?_)
   exact r1_ hq_ rfl (by rw [← hI.fin_t (by omega)])
end Go.Proofs.YtmpkandbccallaaGreatDoor
set_option linter.unusedSimpArgs false
set_option linter.unusedVariables false
namespace Go.Proofs.YtmpkandbccallaaGreatDoor
open Go Go.RowKit Rc
set_option maxRecDepth 10000 in
theorem radd7 (f g:Af) {B C:Nat} (cf:CanT f.ts) (cg:CanT g.ts) (hf:∀ t∈f.ts,Br t.2 B) (hg:∀ t∈g.ts,Br t.2 C) [Br f.c B] [Br g.c C] (hBC:B + C≤100000000000) (hlf:f.ts.length≤400) (hlg:g.ts.length≤400) (hv:∀ t∈g.ts,t.1 < 1000000):Ctr Tryz.prog 63 [afV f,afV g] (R.one (afV ⟨sumT f.ts g.ts,f.c + g.c⟩)):=by
 refine bd_ Tryz.func63 Tryz.ntmps63 rfl (fun w0 A0=>?_)
 refine zc 8 rfl (dr_ 1 [(8,3),(9,3)] [3] (dz 6 rfl (kc_ fn54 rfl (rqadd (qOf (f.c)) (f.c) (qOf_q _) (Br.use (by omega)) (qOf (g.c)) (g.c) (qOf_q _) (Br.use (by omega))) (dz 3 rfl (DK_nil (za 8 rfl (fr_ [0] rfl ?_)))))))
 refine lpR_ (fun m Γ H=>∃ (i:Nat) (out:List Tm),g.ts.length - i = m∧Γ = [(3,some (D.ptr 1 0)),(4,some (D.ptr 2 0)),(5,some (D.ptr 3 0)),(6,some (D.val (.int .i64 ((i:Nat):Int))))]∧H = [none,hb_ 29 (afL g),hb_ 29 [El.row tmE ([]),Leaf.val (.bool false),natL ([]),natL ([])],hb_ 29 [El.row tmE out,Leaf.val (.bool (cneg ((f.c) + (g.c)))),natL (limbs (cnum ((f.c) + (g.c)))),natL (limbs (cden ((f.c) + (g.c))))]]∧i≤g.ts.length∧out = sumT f.ts (g.ts.take i)) ⟨0,f.ts,rfl,rfl,rfl,Nat.zero_le _,rfl⟩ rfl ?_
 rintro m Γ H ⟨i,out,rfl,rfl,rfl,hi0,hout⟩
 refine zc 6 rfl (tq_ rfl (jln rfl) ?_)
 by_cases hi:i < g.ts.length
 ·refine tq_ rfl (ltT rfl) (zl 7 rfl ?_)
  obtain ⟨x,hx⟩:∃ x,g.ts[i]? = some x:=⟨_,List.getElem?_eq_getElem hi⟩
  haveI hbx:=hg x (List.mem_of_getElem? hx)
  have hvx:=hv x (List.mem_of_getElem? hx)
  have hlo:out.length≤800:=by rw [hout];exact Nat.le_trans (sumT_len _ _) (by simp;omega)
  have hco:CanT out:=by rw [hout];exact sumT_can cf
  have hbo:∀ t∈out,Br t.2 (B + C + 1):=by rw [hout];exact sumT_bd cf (canT_take cg) hf (fun t ht=>hg t (List.mem_of_mem_take ht))
  refine dr_ 0 [(14,3)] [3] (kp_ [] rfl (Jq_load_agg rfl rfl rfl (by decide) ty29 (by decide) (Nat.le_of_ble_eq_true rfl) rfl) (dz 3 rfl (kq_ rfl (jix i hx rfl) (kq_ rfl (jfr rfl) (kq_ rfl (jli rfl) (dz 3 rfl (kq_ rfl (jix i hx rfl) (kq_ rfl (jfr rfl) (kq_ rfl (jlr rfl) ?_)))))))))
  refine kc_ fn123 rfl (rplus ⟨out,f.c + g.c⟩ x.1 x.2 hco hbo (by omega) (by show out.length≤1000;omega) (by omega)) (dz 1 rfl (DK_nil (za 4 rfl (tq_ rfl (jad (i + 1) rfl) (zl 2 rfl ?_)))))
  exact nx_ ⟨i + 1,_,rfl,rfl,rfl,hi,by rw [hout,sumT_take hx]⟩ rfl
 ·refine tq_ rfl (ltF rfl) (zl 9 rfl ?_)
  have hie:i = g.ts.length:=by omega
  rw [hie,List.take_length] at hout
  have hlo:out.length≤800:=by rw [hout];exact Nat.le_trans (sumT_len _ _) (by omega)
  refine dr_ 0 [(7,2)] [2] (ke_ rfl (Je_build0F rfl un23 ty92) (dz 2 rfl ?_))
  obtain ⟨ti3,hi3,hz3,hs3,hb3⟩:=in92
  refine ke_ rfl (Je_append0F tmE out rfl rfl rfl (by decide) un23 un23 hi3 hz3 hs3 rfl (by simp only [maxLen];omega) (by rw [hb3];omega)) (dz 4 rfl (DK_nil (za 1 rfl ?_)))
  exact r1_ hq_ rfl (by subst hout;rfl)
end Go.Proofs.YtmpkandbccallaaGreatDoor
set_option linter.unusedSimpArgs false
set_option linter.unusedVariables false
namespace Go.Proofs.YtmpkandbccallaaGreatDoor
open Go Go.RowKit Rc
theorem rscale_w (f:Af) (c:Rat) {B n:Nat} [ff:Fm f.ts B n] {D C:Nat} [fc:Br f.c D] [Br c C] (h:B + D + C≤300000000000) (hn:n≤1000):Ctr Tryz.prog 64 [afV f,V.agg (qL (c))] (R.one (afV ⟨scT f.ts c,f.c * c⟩)):=by
 haveI:=fc.mono (show D≤B + D by omega)
 exact rscale f c (B:=B + D) (C:=C) (fun t ht=>(ff.bd t ht).mono (by omega)) (by omega) (Nat.le_trans ff.len hn)
theorem radd7_w (f g:Af) {B n:Nat} [ff:Fm f.ts B n] {C m:Nat} [fg:Fm g.ts C m] {D E:Nat} [fc:Br f.c D] [gc:Br g.c E] (h:B + D + C + E≤100000000000) (hn:n≤400) (hm:m≤400):Ctr Tryz.prog 63 [afV f,afV g] (R.one (afV ⟨sumT f.ts g.ts,f.c + g.c⟩)):=by
 haveI:=fc.mono (show D≤B + D by omega)
 haveI:=gc.mono (show E≤C + E by omega)
 exact radd7 f g (B:=B + D) (C:=C + E) ff.can fg.can (fun t ht=>(ff.bd t ht).mono (by omega)) (fun t ht=>(fg.bd t ht).mono (by omega)) (by omega) (Nat.le_trans ff.len hn) (Nat.le_trans fg.len hm) fg.var
set_option maxRecDepth 10000 in
theorem rsub7 (f g:Af) {B n:Nat} [ff:Fm f.ts B n] {C m:Nat} [fg:Fm g.ts C m] {D E:Nat} [fc:Br f.c D] [gc:Br g.c E] (h:B + D + C + E≤90000000000) (hn:n≤400) (hm:m≤400):Ctr Tryz.prog 20 [afV f,afV g] (R.one (afV ⟨sumT f.ts (scT g.ts ((-1:Int):Rat)),f.c + g.c * ((-1:Int):Rat)⟩)):=by
 refine bd_ Tryz.func20 Tryz.ntmps20 rfl (fun w0 A0=>?_)
 haveI:Br ((-1:Int):Rat) 2:=Br.int2 (by decide) (by decide)
 refine zc 8 rfl (dr_ 0 [(5,2)] [2] (dz 2 rfl (kc_ fn36 rfl (rqof (-1) (by decide) (by decide)) (kc_ fn64 rfl (rscale_w ⟨g.ts,g.c⟩ (((-1):Int):Rat) (by omega) (by omega)) (kc_ fn63 rfl (radd7_w ⟨f.ts,f.c⟩ ⟨scT g.ts (((-1):Int):Rat),g.c * (((-1):Int):Rat)⟩ (by omega) (by omega) (by omega)) (dz 1 rfl (DK_nil (za 1 rfl ?_))))))))
 exact r1_ hq_ rfl rfl
end Go.Proofs.YtmpkandbccallaaGreatDoor
set_option linter.unusedSimpArgs false
set_option linter.unusedVariables false
namespace Rc
open Go Go.RowKit
def nx (l:List Nat) (k n:Nat):Nat:=match l[k]? with | some x=>x % n | none=>0
def nk (l:List Nat) (k:Nat):Nat:=if k < l.length then k + 1 else k
theorem nx_none {l:List Nat} {k n:Nat} (h:l.length≤k):nx l k n = 0:=by unfold nx;rw [List.getElem?_eq_none h]
theorem nx_some {l:List Nat} {k n x:Nat} (h:l[k]? = some x):nx l k n = x % n:=by unfold nx;rw [h]
theorem nk_none {l:List Nat} {k:Nat} (h:l.length≤k):nk l k = k:=if_neg (by omega)
theorem nk_some {l:List Nat} {k:Nat} (h:k < l.length):nk l k = k + 1:=if_pos h
theorem nk_le {l:List Nat} {k:Nat} (h:k≤l.length):nk l k≤l.length:=by unfold nk;split <;> omega
theorem nx_lt {l:List Nat} {k n:Nat} (h:0 < n):nx l k n < n:=by
 unfold nx
 split
 ·exact Nat.mod_lt _ h
 ·exact h
def nd (j:Nat):Nat:=if j < 2 then 1 else if j = 2 then 2 else 4
theorem nd_get {j:Nat} (h:j < 4):([Leaf.val (.int .i64 1),Leaf.val (.int .i64 1),Leaf.val (.int .i64 2),Leaf.val (.int .i64 4)]:List Leaf)[j]? = some (Leaf.val (.int .i64 ((nd j:Nat):Int))):=by
 match j,h with
 | 0,_=>rfl
 | 1,_=>rfl
 | 2,_=>rfl
 | 3,_=>rfl
theorem nd_pos (j:Nat):1≤nd j∧nd j≤4:=by
 unfold nd
 split
 ·omega
 ·split <;> omega
def numq (l:List Nat) (k:Nat):Rat:=(((((nx l k 9:Nat):Int) - 4:Int)):Rat) / ((((nd (nx l (nk l k) 4):Nat):Int)):Rat)
theorem numq_bd (l:List Nat) (k:Nat):Br (numq l k) 6:=by
 unfold numq
 have h9:nx l k 9 < 9:=nx_lt (by decide)
 have hd:=nd_pos (nx l (nk l k) 4)
 haveI:=Br.int2 (z:=((nx l k 9:Nat):Int) - 4) (by omega) (by omega)
 haveI:=Br.int2 (z:=((nd (nx l (nk l k) 4):Nat):Int)) (by omega) (by omega)
 exact Br.div.mono (by omega)
def fstep (l:List Nat) (s:Af × Nat) (v:Nat):Af × Nat:=
 if 0 < nx l s.2 3 then (⟨sumT s.1.ts (scT [(v,((1:Int):Rat))] (numq l (nk l s.2))),s.1.c + 0 * numq l (nk l s.2)⟩,nk l (nk l (nk l s.2))) else (s.1,nk l s.2)
def formq (l:List Nat) (k n:Nat):Af × Nat:=(List.range n).foldl (fstep l) (⟨[],numq l k⟩,nk l (nk l k))
theorem formq_succ (l:List Nat) (k n:Nat):formq l k (n + 1) = fstep l (formq l k n) n:=by
 unfold formq
 rw [List.range_succ,List.foldl_append]
 rfl
theorem formq_ok (l:List Nat) (k:Nat) (hk:k≤l.length):∀ n,n≤1000000→Fm (formq l k n).1.ts (20 * n) n∧Br (formq l k n).1.c (20 * n + 6)∧(formq l k n).2≤l.length
 | 0,_=>⟨Fm.nil,numq_bd l k,nk_le (nk_le hk)⟩
 | n + 1,hn=>by
  obtain ⟨h1,h2,h3⟩:=formq_ok l k hk n (by omega)
  rw [formq_succ]
  unfold fstep
  split
  ·haveI:=numq_bd l (nk l (formq l k n).2)
   haveI:Br ((1:Int):Rat) 2:=Br.int2 (by decide) (by decide)
   haveI:=Fm.one (v:=n) (c:=((1:Int):Rat)) (by omega) (by decide)
   refine ⟨(Fm.sum (f:=(formq l k n).1.ts)).mono (by omega) (by omega),?_,nk_le (nk_le (nk_le h3))⟩
   exact (Br.add (r:=(formq l k n).1.c)).mono (by omega)
  ·exact ⟨h1.mono (by omega) (by omega),h2.mono (by omega),nk_le h3⟩
end Rc
set_option linter.unusedSimpArgs false
set_option linter.unusedVariables false
namespace Go.Proofs.YtmpkandbccallaaGreatDoor
open Go Go.RowKit Rc
set_option maxRecDepth 10000 in
theorem next_spec (l:List Nat) (k n:Nat) (hn:0 < n) (hn2:n≤1000) (hl:l.length≤1000000) (hk:k≤l.length) (hb:∀ x∈l,x < 256):CtrP Tryz.prog 120 166 [El.row u8E l,Leaf.val (.int .i64 ((k:Nat):Int))] [El.row u8E l,Leaf.val (.int .i64 ((nk l k:Nat):Int))] [V.one (Leaf.val (.int .i64 ((n:Int))))] (R.one (V.one (Leaf.val (.int .i64 ((nx l k n:Int)))))):=by
 refine CtrP.of_body Tryz.func120 rfl Tryz.ntmps120 (Nat.le_of_ble_eq_true rfl) (fun w0 A0 bk hX=>?_)
 refine qc_ (zc 7 rfl (dr_ 0 [] [] (dz 8 rfl (kq_ rfl (jln rfl) ?_))))
 by_cases hlk:l.length≤k
 ·refine kq_ rfl (geT rfl) (DK_nil (za 7 rfl ?_))
  exact Tc_retP (fun _ _ h=>h) rfl rfl (by rw [nx_none hlk] <;> rfl) rfl (by rw [nk_none hlk]) hX
 ·refine kq_ rfl (geF rfl) (DK_nil (za 5 rfl ?_))
  obtain ⟨x,hx⟩:∃ x,l[k]? = some x:=⟨_,List.getElem?_eq_getElem (by omega)⟩
  have hx2:=hb x (List.mem_of_getElem? hx)
  refine zc 5 rfl (tq_ rfl (jad (k + 1) rfl) (zl 6 rfl (dr_ 0 [] [] (dz 8 rfl (kq_ rfl (jsb k rfl) (kq_ rfl (jix k hx rfl) (kq_ rfl (jli rfl) (kq_ rfl (jci x rfl) (dz 1 rfl ?_)))))))))
  refine kq_ rfl (Jq_rem rfl rfl rfl (by omega) (r:=((x % n:Nat):Int)) (tmodN _ _)) (dz 1 rfl (DK_nil (za 1 rfl ?_)))
  exact Tc_retP (fun _ _ h=>h) rfl rfl (by rw [nx_some hx]) rfl (by rw [nk_some (by omega)] <;> rfl) hX
end Go.Proofs.YtmpkandbccallaaGreatDoor
set_option linter.unusedSimpArgs false
set_option linter.unusedVariables false
namespace Go.Proofs.YtmpkandbccallaaGreatDoor
open Go Go.RowKit Rc
set_option maxRecDepth 10000 in
theorem number_spec (l:List Nat) (k:Nat) (hl:l.length≤1000000) (hk:k≤l.length) (hb:∀ x∈l,x < 256):CtrP Tryz.prog 119 166 [El.row u8E l,Leaf.val (.int .i64 ((k:Nat):Int))] [El.row u8E l,Leaf.val (.int .i64 ((nk l (nk l k):Nat):Int))] [] (R.one (V.agg (qL (numq l k)))):=by
 refine CtrP.of_body Tryz.func119 rfl Tryz.ntmps119 (Nat.le_of_ble_eq_true rfl) (fun w0 A0 bk hX=>?_)
 refine qc_ ?_
 have h9:nx l k 9 < 9:=nx_lt (by decide)
 have hd1:=nd_pos (nx l (nk l k) 4)
 refine zc 8 rfl (te_ rfl (Je_call_ptr rfl fn120 rfl rfl rfl rfl (next_spec l k 9 (by first | decide | omega) (by first | decide | omega) hl (by first | assumption | exact nk_le (by assumption)) hb)) (tq_ rfl (Jq_sub rfl rfl rfl (r:=((nx l k 9:Nat):Int) - 4) (w64 (by omega) (by omega) (by omega))) (tq_ rfl (Jq_buildArr rfl tz209 rfl un209 ty3 rfl) (zl 1 rfl ?_))))
 refine te_ rfl (Je_call_ptr rfl fn120 rfl rfl rfl rfl (next_spec l (nk l k) 4 (by first | decide | omega) (by first | decide | omega) hl (by first | assumption | exact nk_le (by assumption)) hb)) (tq_ rfl (Jq_indexA (nx l (nk l k) 4) rfl rfl rfl un209 ty3 (nx_lt (by decide)) (nd_get (nx_lt (by decide)))) ?_)
 refine tc_ fn65 rfl (rqfrac (((nx l k 9:Nat):Int) - 4) ((nd (nx l (nk l k) 4):Nat):Int) (by omega) (by omega) (by omega) (by omega) (by omega)) (zl 14 rfl ?_)
 exact Tc_retP (fun _ _ h=>h) rfl (⟨_,_,rfl,rfl,.inl ⟨ty27,Nat.le_of_ble_eq_true rfl,rfl⟩⟩) rfl rfl rfl hX
end Go.Proofs.YtmpkandbccallaaGreatDoor
set_option linter.unusedSimpArgs false
set_option linter.unusedVariables false
namespace Go.Proofs.YtmpkandbccallaaGreatDoor
open Go Go.RowKit Rc
set_option maxRecDepth 10000 in
theorem form_spec (l:List Nat) (k n:Nat) (hn:n≤100) (hl:l.length≤1000000) (hk:k≤l.length) (hb:∀ x∈l,x < 256):CtrP Tryz.prog 60 166 [El.row u8E l,Leaf.val (.int .i64 ((k:Nat):Int))] [El.row u8E l,Leaf.val (.int .i64 (((formq l k n).2:Nat):Int))] [V.one (Leaf.val (.int .i64 ((n:Int))))] (R.one (afV (formq l k n).1)):=by
 refine CtrP.of_body Tryz.func60 rfl Tryz.ntmps60 (Nat.le_of_ble_eq_true rfl) (fun w0 A0 bk hX=>?_)
 refine qc_ (zc 8 rfl (te_ rfl (Je_call_ptr rfl fn119 rfl rfl rfl rfl (number_spec l k hl (by first | assumption | exact nk_le (by assumption)) hb)) (zl 12 rfl ?_)))
 refine lpR_ (fun m Γ H=>∃ (i:Nat) (out:Af) (q:Nat),n - i = m∧Γ = [(0,some (D.ptr 0 0)),(1,some (D.val (.int .i64 ((n:Nat):Int)))),(4,some (D.ptr 1 0)),(5,some (D.ptr 2 0)),(6,some (D.val (.int .i64 ((i:Nat):Int))))]∧H = [hbq 166 [El.row u8E l,Leaf.val (.int .i64 ((q:Nat):Int))] bk,hb_ 29 [El.row tmE ([]),Leaf.val (.bool false),natL ([]),natL ([])],hb_ 29 (afL out)]∧i≤n∧(out,q) = formq l k i) ⟨0,⟨[],numq l k⟩,_,rfl,rfl,rfl,Nat.zero_le _,rfl⟩ rfl ?_
 rintro m Γ H ⟨i,out,q,rfl,rfl,rfl,hi0,hs⟩
 refine zc 5 rfl ?_
 by_cases hi:i < n
 ·refine tq_ rfl (ltT rfl) (zl 8 rfl ?_)
  have hok:=formq_ok l k hk i (by omega)
  rw [← hs] at hok
  obtain ⟨hfm,hfc,hq⟩:=hok
  haveI:Fm out.ts (20 * i) i:=hfm
  haveI:Br out.c (20 * i + 6):=hfc
  have hk:q≤l.length:=hq
  haveI:=numq_bd l (nk l q)
  haveI:Br ((1:Int):Rat) 2:=Br.int2 (by decide) (by decide)
  haveI:=Fm.one (v:=i) (c:=((1:Int):Rat)) (by omega) (by decide)
  refine zc 2 rfl (te_ rfl (Je_call_ptr rfl fn120 rfl rfl rfl rfl (next_spec l q 3 (by first | decide | omega) (by first | decide | omega) hl (by first | assumption | exact nk_le (by assumption)) hb)) ?_)
  by_cases hx:0 < nx l q 3
  ·refine tq_ rfl (gtT rfl) (zl 3 rfl (dr_ 0 [(4,0),(7,2)] [0,2] (kp_ [0] rfl (Jq_load_agg rfl rfl rfl (by decide) ty29 (by decide) (Nat.le_of_ble_eq_true rfl) rfl) (dz 1 rfl (kc_ fn121 rfl (rvar i (by omega)) (dz 1 rfl (ki_ 0 rfl (Jd_call_ptr rfl fn119 rfl rfl rfl rfl (number_spec l (nk l q) hl (by first | assumption | exact nk_le (by assumption)) hb)) ?_)))))))
   refine kc_ fn64 rfl (rscale_w ⟨[(i,((1:Int):Rat))],0⟩ (numq l (nk l q)) (by omega) (by omega)) (kc_ fn63 rfl (radd7_w ⟨out.ts,out.c⟩ ⟨scT ([(i,((1:Int):Rat))]) (numq l (nk l q)),0 * (numq l (nk l q))⟩ (by omega) (by omega) (by omega)) (dz 1 rfl (DK_nil (za 4 rfl (tq_ rfl (jad (i + 1) rfl) (zl 2 rfl ?_))))))
   exact nx_ ⟨i + 1,⟨_,_⟩,_,rfl,rfl,rfl,by omega,by rw [formq_succ,← hs];exact (if_pos hx).symm⟩ rfl
  ·refine tq_ rfl (gtF rfl) (zl 8 rfl (tq_ rfl (jad (i + 1) rfl) (zl 2 rfl ?_)))
   exact nx_ ⟨i + 1,_,_,rfl,rfl,rfl,by omega,by rw [formq_succ,← hs];exact (if_neg hx).symm⟩ rfl
 ·refine tq_ rfl (ltF rfl) (zl 9 rfl ?_)
  have hie:i = n:=by omega
  subst hie
  refine zc 5 rfl ?_
  exact Tc_retP (fun _ _ h=>h) rfl (⟨_,_,rfl,rfl,.inl ⟨ty29,Nat.le_of_ble_eq_true rfl,rfl⟩⟩) (by rw [← hs] <;> rfl) rfl (by rw [← hs]) hX
end Go.Proofs.YtmpkandbccallaaGreatDoor
set_option linter.unusedSimpArgs false
set_option linter.unusedVariables false
namespace Rc
open Go Go.RowKit
structure Gr where
 inp:Nat
 us:List Af
 os:List Af
structure Rg where
 lo:List Rat
 hi:List Rat
 rows:List Af
structure Qu where
 g:Gr
 r:Rg
 goal:Af
structure Dc where
 kind:Nat
 idx:Nat
 pt:Rat
structure Rw where
 kind:Int
 idx:Int
 lo:Int
 hi:Int
theorem Rw.ext' {a b:Rw} (h1:a.kind = b.kind) (h2:a.idx = b.idx) (h3:a.lo = b.lo) (h4:a.hi = b.hi):a = b:=by
 cases a;cases b;simp at *;exact ⟨h1,h2,h3,h4⟩
instance : DecidableEq Rw := fun a b =>
 if h:a.kind = b.kind∧a.idx = b.idx∧a.lo = b.lo∧a.hi = b.hi then .isTrue (Rw.ext' h.1 h.2.1 h.2.2.1 h.2.2.2)
 else .isFalse (fun e=>h (by subst e;exact ⟨rfl,rfl,rfl,rfl⟩))
structure Mu where
 r:Rw
 c:Qr
structure Lm where
 unit:Int
 up:Bool
 v:Qr
 pf:List Mu
structure Sc where
 q:Qu
 path:List Dc
 lems:List Lm
def ratE:El Rat:=⟨fun x=>qL x,3,fun _=>rfl,fun _=>rfl⟩
def muE:El Mu:=⟨fun m=>[Leaf.val (.int .i64 m.r.kind),Leaf.val (.int .i64 m.r.idx),Leaf.val (.int .i64 m.r.lo),Leaf.val (.int .i64 m.r.hi),Leaf.val (.bool m.c.neg),natL m.c.n,natL m.c.d],7,fun _=>rfl,fun _=>rfl⟩
def lmE:El Lm:=⟨fun m=>[Leaf.val (.int .i64 m.unit),Leaf.val (.bool m.up),Leaf.val (.bool m.v.neg),natL m.v.n,natL m.v.d,muE.row m.pf],6,fun _=>rfl,fun _=>rfl⟩
def dcE:El Dc:=⟨fun d=>[Leaf.val (.int .i64 (d.kind:Int)),Leaf.val (.int .i64 (d.idx:Int)),Leaf.val (.bool (cneg d.pt)),natL (limbs (cnum d.pt)),natL (limbs (cden d.pt))],5,fun _=>rfl,fun _=>rfl⟩
@[reducible] def grV (g:Gr):V:=V.agg [Leaf.val (.int .i64 (g.inp:Int)),afE.row g.us,afE.row g.os]
@[reducible] def rgV (r:Rg):V:=V.agg [ratE.row r.lo,ratE.row r.hi,afE.row r.rows]
@[reducible] def quV (q:Qu):V:=V.agg [Leaf.val (.int .i64 (q.g.inp:Int)),afE.row q.g.us,afE.row q.g.os,ratE.row q.r.lo,ratE.row q.r.hi,afE.row q.r.rows,tmE.row q.goal.ts,Leaf.val (.bool (cneg q.goal.c)),natL (limbs (cnum q.goal.c)),natL (limbs (cden q.goal.c))]
@[reducible] def scV (s:Sc):V:=V.agg [Leaf.val (.int .i64 (s.q.g.inp:Int)),afE.row s.q.g.us,afE.row s.q.g.os,ratE.row s.q.r.lo,ratE.row s.q.r.hi,afE.row s.q.r.rows,tmE.row s.q.goal.ts,Leaf.val (.bool (cneg s.q.goal.c)),natL (limbs (cnum s.q.goal.c)),natL (limbs (cden s.q.goal.c)),dcE.row s.path,lmE.row s.lems]
@[reducible] def quL (q:Qu):List Leaf:=[Leaf.val (.int .i64 (q.g.inp:Int)),afE.row q.g.us,afE.row q.g.os,ratE.row q.r.lo,ratE.row q.r.hi,afE.row q.r.rows,tmE.row q.goal.ts,Leaf.val (.bool (cneg q.goal.c)),natL (limbs (cnum q.goal.c)),natL (limbs (cden q.goal.c))]
@[reducible] def scL (s:Sc):List Leaf:=[Leaf.val (.int .i64 (s.q.g.inp:Int)),afE.row s.q.g.us,afE.row s.q.g.os,ratE.row s.q.r.lo,ratE.row s.q.r.hi,afE.row s.q.r.rows,tmE.row s.q.goal.ts,Leaf.val (.bool (cneg s.q.goal.c)),natL (limbs (cnum s.q.goal.c)),natL (limbs (cden s.q.goal.c)),dcE.row s.path,lmE.row s.lems]
@[reducible] def scZ:List Leaf:=[Leaf.val (.int .i64 0),afE.row [],afE.row [],ratE.row [],ratE.row [],afE.row [],tmE.row [],Leaf.val (.bool false),natL [],natL [],dcE.row [],lmE.row []]
@[reducible] def rwV (r:Rw):V:=V.agg [Leaf.val (.int .i64 r.kind),Leaf.val (.int .i64 r.idx),Leaf.val (.int .i64 r.lo),Leaf.val (.int .i64 r.hi)]
@[reducible] def dcV (d:Dc):V:=V.agg [Leaf.val (.int .i64 (d.kind:Int)),Leaf.val (.int .i64 (d.idx:Int)),Leaf.val (.bool (cneg d.pt)),natL (limbs (cnum d.pt)),natL (limbs (cden d.pt))]
@[reducible] def muV (m:Mu):V:=V.agg [Leaf.val (.int .i64 m.r.kind),Leaf.val (.int .i64 m.r.idx),Leaf.val (.int .i64 m.r.lo),Leaf.val (.int .i64 m.r.hi),Leaf.val (.bool m.c.neg),natL m.c.n,natL m.c.d]
class Hb (r:Rat) (n:outParam Nat):Prop where
 num:r.num.natAbs < 2 ^ n
 den:r.den≤2 ^ n
theorem Hb.mono {r:Rat} {n m:Nat} (h:Hb r n) (hn:n≤m):Hb r m:=
 ⟨Nat.lt_of_lt_of_le h.num (Nat.pow_le_pow_right (by decide) hn),Nat.le_trans h.den (Nat.pow_le_pow_right (by decide) hn)⟩
theorem pow_limb (n:Nat):2 ^ n≤4294967296 ^ n:=Nat.pow_le_pow_left (by decide) n
theorem Hb.br {r:Rat} {n:Nat} (h:Hb r n):Br r (n + 1):=by
 have h1:=pow_limb n
 have h2:4294967296 ^ n < 4294967296 ^ (n + 1):=Nat.pow_lt_pow_right (by decide) (by omega)
 have h3:=h.num
 have h4:=h.den
 exact Br.of (by omega) (by omega)
theorem Hb.rq {b:Bool} {n d k:Nat} (h1:n < 2 ^ k) (h2:dn d≤2 ^ k):Hb (rq b n d) k:=
 ⟨by have:=cnum_rq b n d;unfold cnum at this;rw [this];exact Nat.lt_of_le_of_lt (Nat.div_le_self _ _) h1,by rw [den_rq];exact Nat.le_trans (Nat.div_le_self _ _) h2⟩
instance Hb.mul {r s:Rat} {i j:Nat} [hr:Hb r i] [hs:Hb s j]:Hb (r * s) (i + j):=by
 rw [← rq_of r,← rq_of s,← rq_mul,dn_of (Nat.ne_of_gt r.den_pos),dn_of (Nat.ne_of_gt s.den_pos)]
 refine Hb.rq ?_ ?_
 ·rw [Nat.pow_add];exact Nat.mul_lt_mul'' hr.num hs.num
 ·rw [dn_of (Nat.mul_ne_zero (Nat.ne_of_gt r.den_pos) (Nat.ne_of_gt s.den_pos)),Nat.pow_add];exact Nat.mul_le_mul hr.den hs.den
theorem natAbs_sgn2 (a b:Bool) (m n:Nat):(sgn a m + sgn b n).natAbs≤m + n:=by cases a <;> cases b <;> simp [sgn] <;> omega
instance Hb.add {r s:Rat} {i j:Nat} [hr:Hb r i] [hs:Hb s j]:Hb (r + s) (i + j + 1):=by
 rw [← rq_of r,← rq_of s,← rq_add _ _ _ _ _ _ _ rfl,dn_of (Nat.ne_of_gt r.den_pos),dn_of (Nat.ne_of_gt s.den_pos)]
 refine Hb.rq ?_ ?_
 ·refine Nat.lt_of_le_of_lt (natAbs_sgn2 _ _ _ _) ?_
  have h1:cnum r * s.den < 2 ^ (i + j):=by
   rw [Nat.pow_add];exact Nat.mul_lt_mul_of_lt_of_le hr.num hs.den (Nat.pow_pos (by decide))
  have h2:cnum s * r.den < 2 ^ (i + j):=by
   rw [Nat.pow_add,Nat.mul_comm (2 ^ i)];exact Nat.mul_lt_mul_of_lt_of_le hs.num hr.den (Nat.pow_pos (by decide))
  rw [Nat.pow_succ];omega
 ·rw [dn_of (Nat.mul_ne_zero (Nat.ne_of_gt r.den_pos) (Nat.ne_of_gt s.den_pos))]
  refine Nat.le_trans (?_:_≤2 ^ (i + j)) (Nat.pow_le_pow_right (by decide) (by omega))
  rw [Nat.pow_add];exact Nat.mul_le_mul hr.den hs.den
instance Hb.neg {r:Rat} {i:Nat} [hr:Hb r i]:Hb (-r) i:=⟨by rw [show (-r).num = -r.num from rfl,Int.natAbs_neg];exact hr.num,hr.den⟩
instance Hb.sub {r s:Rat} {i j:Nat} [hr:Hb r i] [hs:Hb s j]:Hb (r - s) (i + j + 1):=by
 rw [Rat.sub_eq_add_neg];exact Hb.add
instance Hb.abs {r:Rat} {i:Nat} [hr:Hb r i]:Hb (Rc.rq false (cnum r) (cden r)) i:=
 Hb.rq hr.num (by rw [dn_cden];exact hr.den)
instance Br.abs {r:Rat} {i:Nat} [hr:Br r i]:Br (Rc.rq false (cnum r) (cden r)) (i + 1):=by
 have h1:=hr.num
 have h2:=hr.den
 have h3:4294967296 ^ i < 4294967296 ^ (i + 1):=Nat.pow_lt_pow_right (by decide) (by omega)
 refine Br.rq (by omega) ?_
 unfold cden;split <;> omega
theorem Hb.zero:Hb 0 0:=⟨by decide,by decide⟩
theorem Hb.int {z:Int} {n:Nat} (h:z.natAbs < 2 ^ n):Hb (z:Rat) n:=⟨by rw [Rat.num_intCast];exact h,by rw [Rat.den_intCast];exact Nat.one_le_two_pow⟩
theorem rq_intz (z:Int):rq (decide (z < 0)) z.natAbs 1 = (z:Rat):=by
 have h:=rq_div (decide (z < 0)) false z.natAbs 1 (by omega)
 rw [sgn_natAbs] at h
 have h1:(z:Rat) / ((1:Int):Rat) = z:=by grind
 rw [← h1]
 simpa [sgn] using h
theorem abs_nonneg (r:Rat):0≤rq false (cnum r) (cden r):=by
 have h:=rq_neg_iff false (cnum r) (cden r)
 have h2:¬ sgn false (cnum r) < 0:=by simp [sgn]
 exact Rat.not_lt.1 (fun e=>h2 (h.1 e))
theorem abs_eq (r:Rat):rq false (cnum r) (cden r) = if r < 0 then -r else r:=by
 have h:=rq_canon r
 split
 ·rename_i hr
  have hn:cneg r = true:=by unfold cneg;exact decide_eq_true (Int.not_le.1 (fun e=>Rat.not_le.2 hr (Rat.num_nonneg.1 e)))
  rw [hn] at h
  rw [show (false:Bool) = !true from rfl,rq_neg,h]
 ·rename_i hr
  have hn:cneg r = false:=by unfold cneg;exact decide_eq_false (Int.not_lt.2 (Rat.num_nonneg.2 (Rat.not_lt.1 hr)))
  rw [hn] at h;exact h
instance numq_hb (l:List Nat) (k:Nat):Hb (numq l k) 3:=by
 unfold numq
 have h9:nx l k 9 < 9:=nx_lt (by decide)
 have hd:=nd_pos (nx l (nk l k) 4)
 have e1:(((((nx l k 9:Nat):Int) - 4:Int)):Rat) / ((((nd (nx l (nk l k) 4):Nat):Int)):Rat) = rq (decide (((nx l k 9:Nat):Int) - 4 < 0)) (((nx l k 9:Nat):Int) - 4).natAbs (nd (nx l (nk l k) 4)):=by
  have h:=rq_div (decide (((nx l k 9:Nat):Int) - 4 < 0)) false (((nx l k 9:Nat):Int) - 4).natAbs (nd (nx l (nk l k) 4)) (by omega)
  rw [sgn_natAbs] at h
  simpa [sgn] using h.symm
 rw [e1]
 exact Hb.rq (by omega) (by rw [dn_of (by omega)];omega)
structure FOk (b n:Nat) (f:Af):Prop where
 can:CanT f.ts
 bd:∀ t∈f.ts,Hb t.2 b
 cb:Hb f.c b
 var:∀ t∈f.ts,t.1 < n
theorem FOk.mono {b c n m:Nat} {f:Af} (h:FOk b n f) (h1:b≤c) (h2:n≤m):FOk c m f:=
 ⟨h.can,fun t ht=>(h.bd t ht).mono h1,h.cb.mono h1,fun t ht=>Nat.lt_of_lt_of_le (h.var t ht) h2⟩
theorem canT_len:∀ {ts:List Tm} {a n:Nat},CanT ts→(∀ t∈ts,a≤t.1∧t.1 < n)→ts.length≤n - a
 | [],a,n,_,_=>Nat.zero_le _
 | (w,d) :: ts,a,n,h,hv=>by
  obtain ⟨h1,h2,h3⟩:=h
  have h4:=hv (w,d) (by simp)
  have:=canT_len (a:=w + 1) (n:=n) h3 (fun t ht=>⟨h2 t ht,(hv t (by simp [ht])).2⟩)
  simp only [List.length_cons]
  simp at h4
  omega
theorem FOk.len {b n:Nat} {f:Af} (h:FOk b n f):f.ts.length≤n:=by
 have:=canT_len (a:=0) h.can (fun t ht=>⟨Nat.zero_le _,h.var t ht⟩)
 omega
theorem FOk.fm {b n:Nat} {f:Af} (h:FOk b n f) (hn:n≤1000000):Fm f.ts (b + 1) n:=
 ⟨h.can,fun t ht=>(h.bd t ht).br,h.len,fun t ht=>Nat.lt_of_lt_of_le (h.var t ht) hn⟩
theorem FOk.br {b n:Nat} {f:Af} (h:FOk b n f):Br f.c (b + 1):=h.cb.br
theorem addT_end {ts:List Tm} {v:Nat} {c:Rat} (h:∀ t∈ts,t.1 < v):addT ts v c = ts ++ (if c = 0 then [] else [(v,c)]):=by
 have:=addT_lt (a:=ts) (b:=[]) (v:=v) (c:=c) h
 rw [List.append_nil] at this
 exact this
theorem sum1 {ts:List Tm} {v:Nat} {c:Rat} (h:∀ t∈ts,t.1 < v):sumT ts (scT [(v,((1:Int):Rat))] c) = ts ++ (if c = 0 then [] else [(v,c)]):=by
 have e:scT [(v,((1:Int):Rat))] c = if c = 0 then [] else [(v,c)]:=by
  show nz [] (v,((1:Int):Rat) * c) = _
  have h1:((1:Int):Rat) * c = c:=by simp [Rat.one_mul]
  rw [h1]
  by_cases h0:c = 0
  ·rw [nz_pos h0,if_pos h0]
  ·rw [nz_neg h0,if_neg h0];rfl
 rw [e]
 by_cases h0:c = 0
 ·rw [if_pos h0,List.append_nil];rfl
 ·rw [if_neg h0]
  show addT ts v c = _
  rw [addT_end h,if_neg h0]
theorem canT_snoc:∀ {ts:List Tm} {v:Nat} {c:Rat},CanT ts→(∀ t∈ts,t.1 < v)→c≠0→CanT (ts ++ [(v,c)])
 | [],v,c,_,_,h=>⟨h,fun t ht=>by simp at ht,trivial⟩
 | (w,d) :: ts,v,c,h,hv,hc=>by
  refine ⟨h.1,fun t ht=>?_,canT_snoc h.2.2 (fun t ht=>hv t (by simp [ht])) hc⟩
  rcases List.mem_append.1 ht with ht | ht
  ·exact h.2.1 t ht
  ·simp at ht;subst ht;exact hv (w,d) (by simp)
theorem formq_fok (l:List Nat) (k:Nat):∀ n,FOk 3 n (formq l k n).1
 | 0=>⟨trivial,fun t ht=>by simp [formq] at ht,numq_hb l k,fun t ht=>by simp [formq] at ht⟩
 | n + 1=>by
  have h:=formq_fok l k n
  rw [formq_succ]
  unfold fstep
  split
  ·refine ⟨?_,?_,?_,?_⟩ <;> simp only [] <;> try rw [sum1 h.var]
   ·split
    ·rw [List.append_nil];exact h.can
    ·rename_i h0;exact canT_snoc h.can h.var h0
   ·intro t ht
    rcases List.mem_append.1 ht with ht | ht
    ·exact h.bd t ht
    ·split at ht
     ·simp at ht
     ·simp at ht;subst ht;exact numq_hb _ _
   ·rw [Rat.zero_mul,Rat.add_zero];exact h.cb
   ·intro t ht
    rcases List.mem_append.1 ht with ht | ht
    ·have:=h.var t ht;omega
    ·split at ht
     ·simp at ht
     ·simp at ht;subst ht;simp
  ·exact h.mono (Nat.le_refl _) (by omega)
theorem formq_le {l:List Nat} {k n:Nat} (hk:k≤l.length) (hn:n≤1000000):(formq l k n).2≤l.length:=(formq_ok l k hk n hn).2.2
def formsq (l:List Nat) (f:Nat→Nat) (k n:Nat):List Af × Nat:=(List.range n).foldl (fun s j=>(s.1 ++ [(formq l s.2 (f j)).1],(formq l s.2 (f j)).2)) ([],k)
theorem formsq_succ (l:List Nat) (f:Nat→Nat) (k n:Nat):formsq l f k (n + 1) = ((formsq l f k n).1 ++ [(formq l (formsq l f k n).2 (f n)).1],(formq l (formsq l f k n).2 (f n)).2):=by
 unfold formsq;rw [List.range_succ,List.foldl_append];rfl
theorem formsq_len (l:List Nat) (f:Nat→Nat) (k:Nat):∀ n,(formsq l f k n).1.length = n
 | 0=>rfl
 | n + 1=>by rw [formsq_succ];simp [formsq_len l f k n]
theorem formsq_le {l:List Nat} {f:Nat→Nat} {k:Nat} (hk:k≤l.length) (hf:∀ j,f j≤1000000 ∨ True) (hf2:∀ j,j < 100→f j≤1000000):∀ n,n≤100→(formsq l f k n).2≤l.length
 | 0,_=>hk
 | n + 1,hn=>by rw [formsq_succ];exact formq_le (formsq_le hk hf hf2 n (by omega)) (hf2 n (by omega))
theorem formsq_get (l:List Nat) (f:Nat→Nat) (k:Nat):∀ (n j:Nat) (x:Af),(formsq l f k n).1[j]? = some x→FOk 3 (f j) x
 | 0,j,x,h=>by simp [formsq] at h
 | n + 1,j,x,h=>by
  rw [formsq_succ] at h
  by_cases hj:j < (formsq l f k n).1.length
  ·rw [List.getElem?_append_left hj] at h;exact formsq_get l f k n j x h
  ·rw [List.getElem?_append_right (by omega),formsq_len] at h
   have h1:j - n = 0:=by have:=(List.getElem?_eq_some_iff.1 h).1;simp at this;omega
   rw [formsq_len] at hj
   have h2:j = n:=by omega
   rw [h1] at h
   simp at h
   rw [← h,h2];exact formq_fok _ _ _
theorem mem_get {α:Type} {l:List α} {x:α} (h:x∈l):∃ j:Nat,l[j]? = some x:=List.getElem?_of_mem h
def graphq (l:List Nat) (k:Nat):Gr × Nat:=
 (⟨1 + nx l k 3,(formsq l (fun j=>1 + nx l k 3 + j) (nk l (nk l (nk l k))) (nx l (nk l k) 5)).1,
  (formsq l (fun _=>1 + nx l k 3 + nx l (nk l k) 5) (formsq l (fun j=>1 + nx l k 3 + j) (nk l (nk l (nk l k))) (nx l (nk l k) 5)).2 (1 + nx l (nk l (nk l k)) 3)).1⟩,
  (formsq l (fun _=>1 + nx l k 3 + nx l (nk l k) 5) (formsq l (fun j=>1 + nx l k 3 + j) (nk l (nk l (nk l k))) (nx l (nk l k) 5)).2 (1 + nx l (nk l (nk l k)) 3)).2)
def bstep (l:List Nat) (s:(List Rat × List Rat) × Nat):(List Rat × List Rat) × Nat:=
 ((s.1.1 ++ [numq l s.2],s.1.2 ++ [numq l s.2 + rq false (cnum (numq l (nk l (nk l s.2)))) (cden (numq l (nk l (nk l s.2))))]),nk l (nk l (nk l (nk l s.2))))
def boxq (l:List Nat) (k n:Nat):(List Rat × List Rat) × Nat:=(List.range n).foldl (fun s _=>bstep l s) (([],[]),k)
theorem boxq_succ (l:List Nat) (k n:Nat):boxq l k (n + 1) = bstep l (boxq l k n):=by
 unfold boxq;rw [List.range_succ,List.foldl_append];rfl
theorem boxq_len (l:List Nat) (k:Nat):∀ n,(boxq l k n).1.1.length = n∧(boxq l k n).1.2.length = n
 | 0=>⟨rfl,rfl⟩
 | n + 1=>by rw [boxq_succ];unfold bstep;simp [boxq_len l k n]
theorem boxq_le {l:List Nat} {k:Nat} (hk:k≤l.length):∀ n,(boxq l k n).2≤l.length
 | 0=>hk
 | n + 1=>by rw [boxq_succ];exact nk_le (nk_le (nk_le (nk_le (boxq_le hk n))))
theorem boxq_get (l:List Nat) (k:Nat):∀ (n j:Nat) (x y:Rat),(boxq l k n).1.1[j]? = some x→(boxq l k n).1.2[j]? = some y→Hb x 3∧Hb y 7∧x≤y
 | 0,j,x,y,h,_=>by simp [boxq] at h
 | n + 1,j,x,y,h,h'=>by
  rw [boxq_succ] at h h'
  unfold bstep at h h'
  simp only [] at h h'
  obtain ⟨e1,e2⟩:=boxq_len l k n
  by_cases hj:j < n
  ·rw [List.getElem?_append_left (by omega)] at h h'
   exact boxq_get l k n j x y h h'
  ·rw [List.getElem?_append_right (by omega)] at h h'
   have h1:j - n = 0:=by have:=(List.getElem?_eq_some_iff.1 h).1;simp at this;omega
   rw [e1,h1] at h
   rw [e2,h1] at h'
   simp at h h'
   subst h;subst h'
   refine ⟨numq_hb _ _,Hb.add.mono (by omega),?_⟩
   have:=abs_nonneg (numq l (nk l (nk l (boxq l k n).2)))
   grind
def regq (l:List Nat) (k inp:Nat):Rg × Nat:=
 (⟨(boxq l k inp).1.1,(boxq l k inp).1.2,(formsq l (fun _=>inp) (nk l (boxq l k inp).2) (nx l (boxq l k inp).2 3)).1⟩,
  (formsq l (fun _=>inp) (nk l (boxq l k inp).2) (nx l (boxq l k inp).2 3)).2)
def queryq (l:List Nat) (k:Nat):Qu × Nat:=
 (⟨(graphq l k).1,(regq l (graphq l k).2 (graphq l k).1.inp).1,(formq l (regq l (graphq l k).2 (graphq l k).1.inp).2 ((graphq l k).1.inp + (graphq l k).1.us.length)).1⟩,
  (formq l (regq l (graphq l k).2 (graphq l k).1.inp).2 ((graphq l k).1.inp + (graphq l k).1.us.length)).2)
structure GOk (g:Gr):Prop where
 i1:1≤g.inp
 i3:g.inp≤3
 u4:g.us.length≤4
 o1:1≤g.os.length
 o3:g.os.length≤3
 us:∀ (j:Nat) (x:Af),g.us[j]? = some x→FOk 3 (g.inp + j) x
 os:∀ x∈g.os,FOk 3 (g.inp + g.us.length) x
structure ROk (n:Nat) (r:Rg):Prop where
 lo:r.lo.length = n
 hi:r.hi.length = n
 r2:r.rows.length≤2
 bd:∀ (j:Nat) (x y:Rat),r.lo[j]? = some x→r.hi[j]? = some y→Hb x 3∧Hb y 7∧x≤y
 rows:∀ x∈r.rows,FOk 3 n x
structure QOk (q:Qu):Prop where
 g:GOk q.g
 r:ROk q.g.inp q.r
 goal:FOk 3 (q.g.inp + q.g.us.length) q.goal
theorem graphq_ok (l:List Nat) (k:Nat):GOk (graphq l k).1:=by
 have h1:nx l k 3 < 3:=nx_lt (by decide)
 have h2:nx l (nk l k) 5 < 5:=nx_lt (by decide)
 have h3:nx l (nk l (nk l k)) 3 < 3:=nx_lt (by decide)
 refine ⟨?_,?_,?_,?_,?_,fun j x h=>formsq_get _ _ _ _ _ _ h,fun x hx=>?_⟩
 ·show 1≤1 + nx l k 3;omega
 ·show 1 + nx l k 3≤3;omega
 ·show (formsq _ _ _ _).1.length≤4;rw [formsq_len];omega
 ·show 1≤(formsq _ _ _ _).1.length;rw [formsq_len];omega
 ·show (formsq _ _ _ _).1.length≤3;rw [formsq_len];omega
 ·obtain ⟨j,hj⟩:=mem_get hx
  have:=formsq_get _ _ _ _ _ _ hj
  show FOk 3 (1 + nx l k 3 + (formsq _ _ _ _).1.length) x
  rw [formsq_len];exact this
theorem graphq_le {l:List Nat} {k:Nat} (hk:k≤l.length):(graphq l k).2≤l.length:=by
 have h1:nx l k 3 < 3:=nx_lt (by decide)
 have h2:nx l (nk l k) 5 < 5:=nx_lt (by decide)
 have h3:nx l (nk l (nk l k)) 3 < 3:=nx_lt (by decide)
 exact formsq_le (formsq_le (nk_le (nk_le (nk_le hk))) (fun _=>.inr trivial) (fun j hj=>by omega) _ (by omega)) (fun _=>.inr trivial) (fun j hj=>by omega) _ (by omega)
theorem regq_ok (l:List Nat) (k n:Nat):ROk n (regq l k n).1:=by
 have h3:nx l (boxq l k n).2 3 < 3:=nx_lt (by decide)
 refine ⟨(boxq_len l k n).1,(boxq_len l k n).2,?_,boxq_get l k n,fun x hx=>?_⟩
 ·show (formsq _ _ _ _).1.length≤2;rw [formsq_len];omega
 ·obtain ⟨j,hj⟩:=mem_get hx
  exact formsq_get _ _ _ _ _ _ hj
theorem regq_le {l:List Nat} {k n:Nat} (hk:k≤l.length) (hn:n≤1000):(regq l k n).2≤l.length:=by
 have h3:nx l (boxq l k n).2 3 < 3:=nx_lt (by decide)
 exact formsq_le (nk_le (boxq_le hk n)) (fun _=>.inr trivial) (fun j hj=>by omega) _ (by omega)
theorem queryq_ok (l:List Nat) (k:Nat):QOk (queryq l k).1:=⟨graphq_ok l k,regq_ok l _ _,formq_fok l _ _⟩
theorem queryq_le {l:List Nat} {k:Nat} (hk:k≤l.length):(queryq l k).2≤l.length:=by
 have h:=graphq_ok l k
 exact formq_le (regq_le (graphq_le hk) (by have:=h.i3;omega)) (by have:=h.i3;have:=h.u4;omega)
end Rc

set_option linter.unusedSimpArgs false
set_option linter.unusedVariables false
namespace Go.Proofs.YtmpkandbccallaaGreatDoor
open Go Go.RowKit Rc
set_option maxRecDepth 10000 in
theorem graph_spec (l:List Nat) (k:Nat) (hl:l.length≤1000000) (hk:k≤l.length) (hb:∀ x∈l,x < 256):CtrP Tryz.prog 129 166 [El.row u8E l,Leaf.val (.int .i64 ((k:Nat):Int))] [El.row u8E l,Leaf.val (.int .i64 (((graphq l k).2:Nat):Int))] [] (R.one (grV (graphq l k).1)):=by
 refine CtrP.of_body Tryz.func129 rfl Tryz.ntmps129 (Nat.le_of_ble_eq_true rfl) (fun w0 A0 bk hX=>?_)
 refine qc_ ?_
 have h1:nx l k 3 < 3:=nx_lt (by decide)
 have h2:nx l (nk l k) 5 < 5:=nx_lt (by decide)
 have h3:nx l (nk l (nk l k)) 3 < 3:=nx_lt (by decide)
 have hk1:=nk_le hk
 have hk2:=nk_le hk1
 have hk3:=nk_le hk2
 refine zc 2 rfl (te_ rfl (Je_alloc (n:=1) rfl tx33 rfl) (zl 5 rfl (te_ rfl (Je_call_ptr rfl fn120 rfl rfl rfl rfl (next_spec l k 3 (by first | decide | omega) (by first | decide | omega) hl (by first | assumption | exact nk_le (by assumption)) hb)) (tq_ rfl (jad (1 + nx l k 3) rfl) (tq_ rfl (Jq_build rfl tx33 rfl pl33 rfl) (te_ rfl (Je_alloc (n:=2) rfl tx33 rfl) (zl 6 rfl ?_)))))))
 refine te_ rfl (Je_call_ptr rfl fn120 rfl rfl rfl rfl (next_spec l (nk l k) 5 (by first | decide | omega) (by first | decide | omega) hl (by first | assumption | exact nk_le (by assumption)) hb)) (zl 1 rfl ?_)
 refine te_ rfl (Je_call_ptr rfl fn120 rfl rfl rfl rfl (next_spec l (nk l (nk l k)) 3 (by first | decide | omega) (by first | decide | omega) hl (by first | assumption | exact nk_le (by assumption)) hb)) (tq_ rfl (jad (1 + nx l (nk l (nk l k)) 3) rfl) (zl 6 rfl ?_))
 refine Tc_growB 2 29 4 (ls':=[Leaf.val (.int .i64 ((1 + nx l k 3:Nat):Int)),Leaf.own 3 0,Leaf.val (.slice none 0 0)]) rfl rfl rfl ⟨.inl rfl,.inr ⟨rfl,rfl⟩,.inl rfl,trivial⟩ (zc 5 rfl ?_)
 refine lpR_ (fun m Γ H=>∃ (i:Nat) (n:Nat) (out:List Af) (q:Nat),(nx l (nk l k) 5) - i = m∧Γ = [(0,some (D.ptr 0 0)),(2,some (D.ptr 1 0)),(3,some (D.ptr 2 0)),(4,some (D.val (.int .i64 ((nx l (nk l k) 5:Nat):Int)))),(5,some (D.val (.int .i64 ((1 + nx l (nk l (nk l k)) 3:Nat):Int)))),(6,some (D.val (.int .i64 ((i:Nat):Int))))]∧H = [hbq 166 [El.row u8E l,Leaf.val (.int .i64 ((q:Nat):Int))] bk,hb_ 33 [Leaf.val (.int .i64 0),Leaf.val (.slice none 0 0),Leaf.val (.slice none 0 0)],hb_ 33 [Leaf.val (.int .i64 (((1 + nx l k 3):Nat):Int)),Leaf.own 3 n,Leaf.val (.slice none 0 0)],hgr 29 4 afE out n]∧i≤(nx l (nk l k) 5)∧(out,q) = formsq l (fun j=>1 + nx l k 3 + j) (nk l (nk l (nk l k))) i) ⟨0,0,[],_,rfl,rfl,rfl,Nat.zero_le _,rfl⟩ rfl ?_
 rintro m Γ H ⟨i,n,out,q,rfl,rfl,rfl,hi0,hs⟩
 refine zc 5 rfl ?_
 by_cases hi:i < (nx l (nk l k) 5)
 ·refine tq_ rfl (ltT rfl) (zl 7 rfl ?_)
  have hol:=congrArg (fun p=>p.1.length) hs
  simp only [formsq_len] at hol
  have hq:q≤l.length:=by have:=formsq_le (l:=l) (f:=(fun j=>1 + nx l k 3 + j)) (k:=(nk l (nk l (nk l k)))) (nk_le (nk_le (nk_le hk))) (fun _=>.inr trivial) (fun j hj=>by omega) i (by omega);rw [← hs] at this;exact this
  refine dr_ 0 [(7,0),(9,3),(11,2)] [0,3,2] (dz 1 rfl (kp_ [0,3] rfl (jld rfl) (dz 2 rfl (kp_ [0,3] rfl (jld rfl) (dz 1 rfl (kq_ rfl (jad (1 + nx l k 3 + i) rfl) (ki_ 0 rfl (Jd_call_ptr rfl fn60 rfl rfl rfl rfl (form_spec l q (1 + nx l k 3 + i) (by omega) hl (by assumption) hb)) ?_)))))))
  refine ke_ rfl (fun _=>Je_buildSlice rfl un31 ty29 tz29 rfl (by decide) (by decide) rfl (by decide) rfl) (ki_ 3 rfl (dap (e:=afE) (⟨(formq l q (1 + nx l k 3 + i)).1.ts,(formq l q (1 + nx l k 3 + i)).1.c⟩) rfl rfl) (dz 2 rfl (DK_nil (za 4 rfl (tq_ rfl (jad (i + 1) rfl) (zl 2 rfl ?_))))))
  exact nx_ ⟨i + 1,_,_,_,rfl,rfl,rfl,hi,by rw [formsq_succ,← hs]⟩ rfl
 ·refine tq_ rfl (ltF rfl) (zl 10 rfl ?_)
  have hie:i = (nx l (nk l k) 5):=by omega
  subst hie
  refine Tc_growB 2 29 4 (ls':=[Leaf.val (.int .i64 (((1 + nx l k 3):Nat):Int)),Leaf.own 3 n,Leaf.own 4 0]) rfl rfl rfl ⟨.inl rfl,.inl rfl,.inr ⟨rfl,rfl⟩,trivial⟩ (zc 5 rfl ?_)
  refine lpR_ (fun m Γ H=>∃ (i:Nat) (n2:Nat) (out2:List Af) (q2:Nat),(1 + nx l (nk l (nk l k)) 3) - i = m∧Γ = [(0,some (D.ptr 0 0)),(2,some (D.ptr 1 0)),(3,some (D.ptr 2 0)),(4,some (D.val (.int .i64 ((nx l (nk l k) 5:Nat):Int)))),(5,some (D.val (.int .i64 ((1 + nx l (nk l (nk l k)) 3:Nat):Int)))),(7,some (D.val (.int .i64 ((i:Nat):Int))))]∧H = [hbq 166 [El.row u8E l,Leaf.val (.int .i64 ((q2:Nat):Int))] bk,hb_ 33 [Leaf.val (.int .i64 0),Leaf.val (.slice none 0 0),Leaf.val (.slice none 0 0)],hb_ 33 [Leaf.val (.int .i64 (((1 + nx l k 3):Nat):Int)),Leaf.own 3 n,Leaf.own 4 n2],hgr 29 4 afE out n,hgr 29 4 afE out2 n2]∧i≤(1 + nx l (nk l (nk l k)) 3)∧(out2,q2) = formsq l (fun _=>1 + nx l k 3 + (nx l (nk l k) 5)) (formsq l (fun j=>1 + nx l k 3 + j) (nk l (nk l (nk l k))) (nx l (nk l k) 5)).2 i) ⟨0,0,[],_,rfl,rfl,rfl,Nat.zero_le _,(by rw [← hs];rfl)⟩ rfl ?_
  rintro m Γ H ⟨i,n2,out2,q2,rfl,rfl,rfl,hj0,hs2⟩
  refine zc 5 rfl ?_
  by_cases hj:i < (1 + nx l (nk l (nk l k)) 3)
  ·refine tq_ rfl (ltT rfl) (zl 7 rfl ?_)
   have hol2:=congrArg (fun p=>p.1.length) hs2
   simp only [formsq_len] at hol2
   have hq2:q2≤l.length:=by have:=formsq_le (l:=l) (f:=(fun _=>1 + nx l k 3 + (nx l (nk l k) 5))) (k:=(formsq l (fun j=>1 + nx l k 3 + j) (nk l (nk l (nk l k))) (nx l (nk l k) 5)).2) (formsq_le (nk_le (nk_le (nk_le hk))) (fun _=>.inr trivial) (fun j hj=>by omega) _ (by omega)) (fun _=>.inr trivial) (fun j hj=>by omega) i (by omega);rw [← hs2] at this;exact this
   refine dr_ 0 [(7,0),(9,4),(11,2)] [0,4,2] (dz 1 rfl (kp_ [0,4] rfl (jld rfl) (dz 2 rfl (kp_ [0,4] rfl (jld rfl) (dz 1 rfl (kq_ rfl (jad ((1 + nx l k 3) + (nx l (nk l k) 5)) rfl) (ki_ 0 rfl (Jd_call_ptr rfl fn60 rfl rfl rfl rfl (form_spec l q2 ((1 + nx l k 3) + (nx l (nk l k) 5)) (by omega) hl (by assumption) hb)) ?_)))))))
   refine ke_ rfl (fun _=>Je_buildSlice rfl un31 ty29 tz29 rfl (by decide) (by decide) rfl (by decide) rfl) (ki_ 4 rfl (dap (e:=afE) (⟨(formq l q2 ((1 + nx l k 3) + (nx l (nk l k) 5))).1.ts,(formq l q2 ((1 + nx l k 3) + (nx l (nk l k) 5))).1.c⟩) rfl rfl) (dz 2 rfl (DK_nil (za 4 rfl (tq_ rfl (jad (i + 1) rfl) (zl 2 rfl ?_))))))
   exact nx_ ⟨i + 1,_,_,_,rfl,rfl,rfl,hj,by rw [formsq_succ,← hs2]⟩ rfl
  ·refine tq_ rfl (ltF rfl) (zl 9 rfl ?_)
   have hie:i = (1 + nx l (nk l (nk l k)) 3):=by omega
   subst hie
   refine zc 5 rfl (Tc_viewB 1 (ls':=[Leaf.val (.int .i64 (((1 + nx l k 3):Nat):Int)),El.row afE out,Leaf.own 4 n2]) rfl rfl (RowAt.ofE afE out rfl (by decide)) ⟨.inl rfl,.inr ⟨rfl,rfl⟩,.inl rfl,trivial⟩ ?_)
   refine Tc_viewB 1 (ls':=[Leaf.val (.int .i64 (((1 + nx l k 3):Nat):Int)),El.row afE out,El.row afE out2]) rfl rfl (RowAt.ofE afE out2 rfl (by decide)) ⟨.inl rfl,.inl rfl,.inr ⟨rfl,rfl⟩,trivial⟩ ?_
   exact Tc_retP (fun _ _ h=>h) rfl (⟨_,_,rfl,rfl,.inl ⟨ty33,Nat.le_of_ble_eq_true rfl,rfl⟩⟩) (by unfold graphq;rw [← hs2,← hs]) rfl (by unfold graphq;rw [← hs2]) hX
end Go.Proofs.YtmpkandbccallaaGreatDoor
set_option linter.unusedSimpArgs false
set_option linter.unusedVariables false
namespace Go.Proofs.YtmpkandbccallaaGreatDoor
open Go Go.RowKit Rc
set_option maxRecDepth 10000 in
theorem small_spec (l:List Nat) (k inp:Nat) (hn:inp≤100) (hl:l.length≤1000000) (hk:k≤l.length) (hb:∀ x∈l,x < 256):CtrP Tryz.prog 130 166 [El.row u8E l,Leaf.val (.int .i64 ((k:Nat):Int))] [El.row u8E l,Leaf.val (.int .i64 (((regq l k inp).2:Nat):Int))] [V.one (Leaf.val (.int .i64 ((inp:Int))))] (R.one (rgV (regq l k inp).1)):=by
 refine CtrP.of_body Tryz.func130 rfl Tryz.ntmps130 (Nat.le_of_ble_eq_true rfl) (fun w0 A0 bk hX=>?_)
 refine qc_ (zc 2 rfl (te_ rfl (Je_alloc (n:=1) rfl tx36 rfl) (zl 4 rfl (te_ rfl (Je_alloc (n:=2) rfl tx36 rfl) (zl 4 rfl (Tc_growB 2 27 3 (ls':=[Leaf.own 3 0,Leaf.val (.slice none 0 0),Leaf.val (.slice none 0 0)]) rfl rfl rfl ⟨.inr ⟨rfl,rfl⟩,.inl rfl,.inl rfl,trivial⟩ ?_))))))
 refine Tc_growB 2 27 3 (ls':=[Leaf.own 3 0,Leaf.own 4 0,Leaf.val (.slice none 0 0)]) rfl rfl rfl ⟨.inl rfl,.inr ⟨rfl,rfl⟩,.inl rfl,trivial⟩ (zc 5 rfl ?_)
 refine lpR_ (fun m Γ H=>∃ (i:Nat) (n1 n2:Nat) (lo up:List Rat) (q:Nat),inp - i = m∧Γ = [(0,some (D.ptr 0 0)),(1,some (D.val (.int .i64 ((inp:Nat):Int)))),(4,some (D.ptr 1 0)),(5,some (D.ptr 2 0)),(6,some (D.val (.int .i64 ((i:Nat):Int))))]∧H = [hbq 166 [El.row u8E l,Leaf.val (.int .i64 ((q:Nat):Int))] bk,hb_ 36 [Leaf.val (.slice none 0 0),Leaf.val (.slice none 0 0),Leaf.val (.slice none 0 0)],hb_ 36 [Leaf.own 3 n1,Leaf.own 4 n2,Leaf.val (.slice none 0 0)],hgr 27 3 ratE lo n1,hgr 27 3 ratE up n2]∧i≤inp∧((lo,up),q) = boxq l k i) ⟨0,0,0,[],[],_,rfl,rfl,rfl,Nat.zero_le _,rfl⟩ rfl ?_
 rintro m Γ H ⟨i,n1,n2,lo,up,q,rfl,rfl,rfl,hi0,hs⟩
 refine zc 5 rfl ?_
 by_cases hi:i < inp
 ·refine tq_ rfl (ltT rfl) (zl 8 rfl ?_)
  obtain ⟨e1,e2⟩:=boxq_len l k i
  have hq:=boxq_le hk i
  rw [← hs] at e1 e2 hq
  simp only [] at e1 e2 hq
  have hq1:=nk_le hq
  have hq2:=nk_le hq1
  haveI:=numq_bd l q
  haveI:=numq_bd l (nk l (nk l q))
  refine zc 2 rfl (te_ rfl (Je_call_ptr rfl fn119 rfl rfl rfl rfl (number_spec l q hl (by first | assumption | exact nk_le (by assumption)) hb)) (zl 1 rfl (te_ rfl (Je_call_ptr rfl fn119 rfl rfl rfl rfl (number_spec l (nk l (nk l q)) hl (by first | assumption | exact nk_le (by assumption)) hb)) (zl 12 rfl (dr_ 0 [(4,3),(11,4),(13,2),(15,2)] [3,4,2] (dz 1 rfl ?_))))))
  refine kp_ [3,4] rfl (jld rfl) (dz 1 rfl (ke_ rfl (fun _=>Je_buildSlice rfl un34 ty27 tz27 rfl (by decide) (by decide) rfl (by decide) rfl) (ki_ 3 rfl (dap (numq l q) rfl rfl) (dz 1 rfl (kp_ [3,4] rfl (jld rfl) (dz 2 rfl ?_))))))
  refine kc_ fn54 rfl (rqadd (qOf (numq l q)) (numq l q) (qOf_q _) (Br.use (by omega)) (Qr.mk false (limbs (cnum (numq l (nk l (nk l q))))) (limbs (cden (numq l (nk l (nk l q))))) (small_limbs _) (small_limbs _)) (rq false (cnum (numq l (nk l (nk l q)))) (cden (numq l (nk l (nk l q))))) (qr_eq (val_limbs _) (val_limbs _)) (Fit.mk (Br.use (r:=numq l (nk l (nk l q))) (by omega)).n (Br.use (r:=numq l (nk l (nk l q))) (by omega)).d)) ?_
  refine ke_ rfl (fun _=>Je_buildSlice rfl un34 ty27 tz27 rfl (by decide) (by decide) rfl (by decide) rfl) (ki_ 4 rfl (dap ((numq l q) + (rq false (cnum (numq l (nk l (nk l q)))) (cden (numq l (nk l (nk l q)))))) rfl rfl) (dz 4 rfl (DK_nil (za 4 rfl (tq_ rfl (jad (i + 1) rfl) (zl 2 rfl (At_free 5 (At_free 6 (trim_ 5 rfl ?_)))))))))
  exact nx_ ⟨i + 1,_,_,_,_,_,rfl,rfl,rfl,hi,by rw [boxq_succ,← hs];rfl⟩ rfl
 ·refine tq_ rfl (ltF rfl) (zl 10 rfl ?_)
  have hie:inp = i:=by omega
  subst hie
  have hq:=boxq_le hk inp
  rw [← hs] at hq
  have hq:q≤l.length:=hq
  have hm3:nx l q 3 < 3:=nx_lt (by decide)
  have hqk:=nk_le hq
  refine Tc_growB 2 29 4 (ls':=[Leaf.own 3 n1,Leaf.own 4 n2,Leaf.own 5 0]) rfl rfl rfl ⟨.inl rfl,.inl rfl,.inr ⟨rfl,rfl⟩,trivial⟩ (zc 2 rfl (te_ rfl (Je_call_ptr rfl fn120 rfl rfl rfl rfl (next_spec l q 3 (by first | decide | omega) (by first | decide | omega) hl (by first | assumption | exact nk_le (by assumption)) hb)) (zl 4 rfl ?_)))
  refine lpR_ (fun m Γ H=>∃ (i:Nat) (n3:Nat) (out:List Af) (q2:Nat),(nx l q 3) - i = m∧Γ = [(0,some (D.ptr 0 0)),(1,some (D.val (.int .i64 ((inp:Nat):Int)))),(4,some (D.ptr 1 0)),(5,some (D.ptr 2 0)),(9,some (D.val (.int .i64 ((((nx l q 3) - i):Nat):Int))))]∧H = [hbq 166 [El.row u8E l,Leaf.val (.int .i64 ((q2:Nat):Int))] bk,hb_ 36 [Leaf.val (.slice none 0 0),Leaf.val (.slice none 0 0),Leaf.val (.slice none 0 0)],hb_ 36 [Leaf.own 3 n1,Leaf.own 4 n2,Leaf.own 5 n3],hgr 27 3 ratE lo n1,hgr 27 3 ratE up n2,hgr 29 4 afE out n3]∧i≤(nx l q 3)∧(out,q2) = formsq l (fun _=>inp) (nk l q) i) ⟨0,0,[],_,rfl,rfl,rfl,Nat.zero_le _,rfl⟩ rfl ?_
  rintro m Γ H ⟨i,n3,out,q2,rfl,rfl,rfl,hj0,hs2⟩
  refine zc 4 rfl ?_
  by_cases hj:i < (nx l q 3)
  ·refine tq_ rfl (gtT rfl) (zl 7 rfl ?_)
   have hol:=congrArg (fun p=>p.1.length) hs2
   simp only [formsq_len] at hol
   have hq2:q2≤l.length:=by have:=formsq_le (l:=l) (f:=(fun _=>inp)) (k:=(nk l q)) hqk (fun _=>.inr trivial) (fun j hj=>by omega) i (by omega);rw [← hs2] at this;exact this
   refine dr_ 0 [(4,0),(6,5),(8,2)] [0,5,2] (dz 1 rfl (kp_ [0,5] rfl (jld rfl) (dz 2 rfl (ki_ 0 rfl (Jd_call_ptr rfl fn60 rfl rfl rfl rfl (form_spec l q2 inp (by omega) hl (by assumption) hb)) (ke_ rfl (fun _=>Je_buildSlice rfl un31 ty29 tz29 rfl (by decide) (by decide) rfl (by decide) rfl) (ki_ 5 rfl (dap (e:=afE) (⟨(formq l q2 inp).1.ts,(formq l q2 inp).1.c⟩) rfl rfl) ?_))))))
   refine dz 2 rfl (DK_nil (za 4 rfl (tq_ rfl (jsb ((nx l q 3) - (i + 1)) rfl) (zl 2 rfl ?_))))
   exact nx_ ⟨i + 1,_,_,_,rfl,rfl,rfl,(by omega),by rw [formsq_succ,← hs2]⟩ rfl
  ·refine tq_ rfl (gtF rfl) (zl 9 rfl ?_)
   have hie:i = (nx l q 3):=by omega
   subst hie
   refine zc 5 rfl (Tc_viewB 1 (ls':=[El.row ratE lo,Leaf.own 4 n2,Leaf.own 5 n3]) rfl rfl (RowAt.ofE ratE lo rfl (by decide)) ⟨.inr ⟨rfl,rfl⟩,.inl rfl,.inl rfl,trivial⟩ (Tc_viewB 1 (ls':=[El.row ratE lo,El.row ratE up,Leaf.own 5 n3]) rfl rfl (RowAt.ofE ratE up rfl (by decide)) ⟨.inl rfl,.inr ⟨rfl,rfl⟩,.inl rfl,trivial⟩ ?_))
   refine Tc_viewB 1 (ls':=[El.row ratE lo,El.row ratE up,El.row afE out]) rfl rfl (RowAt.ofE afE out rfl (by decide)) ⟨.inl rfl,.inl rfl,.inr ⟨rfl,rfl⟩,trivial⟩ ?_
   exact Tc_retP (fun _ _ h=>h) rfl (⟨_,_,rfl,rfl,.inl ⟨ty36,Nat.le_of_ble_eq_true rfl,rfl⟩⟩) (by unfold regq;rw [← hs,← hs2]) rfl (by unfold regq;rw [← hs,← hs2]) hX
end Go.Proofs.YtmpkandbccallaaGreatDoor
set_option linter.unusedSimpArgs false
set_option linter.unusedVariables false
namespace Go.Proofs.YtmpkandbccallaaGreatDoor
open Go Go.RowKit Rc
set_option maxRecDepth 10000 in
theorem query_spec (l:List Nat) (k:Nat) (hl:l.length≤1000000) (hk:k≤l.length) (hb:∀ x∈l,x < 256):CtrP Tryz.prog 71 166 [El.row u8E l,Leaf.val (.int .i64 ((k:Nat):Int))] [El.row u8E l,Leaf.val (.int .i64 (((queryq l k).2:Nat):Int))] [] (R.one (quV (queryq l k).1)):=by
 refine CtrP.of_body Tryz.func71 rfl Tryz.ntmps71 (Nat.le_of_ble_eq_true rfl) (fun w0 A0 bk hX=>?_)
 refine qc_ ?_
 have hg:=graphq_ok l k
 have h1:=hg.i1;have h2:=hg.i3;have h3:=hg.u4
 have hk1:=graphq_le hk
 have hk2:=regq_le (n:=(graphq l k).1.inp) hk1 (by omega)
 refine zc 8 rfl (te_ rfl (Je_call_ptr rfl fn129 rfl rfl rfl rfl (graph_spec l k hl (by assumption) hb)) (zl 9 rfl (te_ rfl (Je_call_ptr rfl fn130 rfl rfl rfl rfl (small_spec l ((graphq l k).2) ((graphq l k).1.inp) (by omega) hl (by assumption) hb)) (zl 5 rfl (dr_ 0 [(9,0),(11,1)] [0,1] (dz 7 rfl (kq_ rfl (jln rfl) ?_)))))))
 refine kq_ rfl (jad (((graphq l k).1.inp) + (((graphq l k).1.us).length)) rfl) (ki_ 0 rfl (Jd_call_ptr rfl fn60 rfl rfl rfl rfl (form_spec l ((regq l ((graphq l k).2) ((graphq l k).1.inp)).2) (((graphq l k).1.inp) + (((graphq l k).1.us).length)) (by omega) hl (by assumption) hb)) (dz 2 rfl (DK_nil (za 1 rfl ?_))))
 exact Tc_retP (fun _ _ h=>h) rfl (⟨_,_,rfl,rfl,.inl ⟨ty38,Nat.le_of_ble_eq_true rfl,rfl⟩⟩) rfl rfl rfl hX
end Go.Proofs.YtmpkandbccallaaGreatDoor
set_option linter.unusedSimpArgs false
set_option linter.unusedVariables false
namespace Go.Proofs.YtmpkandbccallaaGreatDoor
open Go Go.RowKit Rc
end Go.Proofs.YtmpkandbccallaaGreatDoor
set_option linter.unusedSimpArgs false
set_option linter.unusedVariables false
namespace Go.Proofs.YtmpkandbccallaaGreatDoor
open Go Go.RowKit Rc
set_option maxRecDepth 10000 in
theorem rvalidall (l:List Af) (vars:Nat) {B n:Nat} (hA:∀ f∈l,Fm f.ts B n∧Br f.c B) (hB:B≤300000000000) (hn:n≤1000) (hl:l.length≤1000) (hv:vars≤1000000):Ctr Tryz.prog 128 [V.one (El.row afE l),V.one (Leaf.val (.int .i64 ((vars:Int))))] (R.one (V.one (Leaf.val (.bool (decide (∀ f∈l,∀ t∈f.ts,t.1 < vars)))))):=by
 refine bd_ Tryz.func128 Tryz.ntmps128 rfl (fun w0 A0=>?_)
 refine zc 12 rfl (lpR_ (fun m Γ H=>∃ (i:Nat),l.length - i = m∧Γ = [(0,some (D.v (V.one (El.row afE l)))),(1,some (D.val (.int .i64 ((vars:Nat):Int)))),(5,some (D.val (.int .i64 ((i:Nat):Int))))]∧H = []∧i≤l.length∧∀ f∈l.take i,∀ t∈f.ts,t.1 < vars) ⟨0,rfl,rfl,rfl,Nat.zero_le _,by simp⟩ rfl ?_)
 rintro m Γ H ⟨i,rfl,rfl,rfl,hi0,hall⟩
 refine zc 5 rfl (tq_ rfl (jln rfl) ?_)
 by_cases hi:i < l.length
 ·refine tq_ rfl (ltT rfl) (zl 8 rfl ?_)
  obtain ⟨x,hx⟩:∃ x,l[i]? = some x:=⟨_,List.getElem?_eq_getElem hi⟩
  obtain ⟨hxm,hxc⟩:=hA x (List.mem_of_getElem? hx)
  refine zc 3 rfl (tq_ rfl (jix i hx rfl) (tq_ rfl (jlr rfl) (zl 1 rfl (tc_ fn51 rfl (rvalid7 x vars hxm.can hxm.bd hB (Nat.le_trans hxm.len hn) hv) (zl 3 rfl ?_)))))
  refine Tc_cond rfl (fun hc18=>?_) (fun hc18=>?_)
  ·refine zc 5 rfl ?_
   exact r1_ hq_ rfl (by rw [badA hx (by simpa using hc18)])
  ·refine zc 5 rfl (tq_ rfl (jad (i + 1) rfl) (zl 2 rfl ?_))
   exact nx_ ⟨i + 1,rfl,rfl,rfl,hi,takeA hx hall (by simpa using hc18)⟩ rfl
 ·refine tq_ rfl (ltF rfl) (zl 13 rfl ?_)
  exact r1_ hq_ rfl (by rw [decide_eq_true (show ∀ f∈l,∀ t∈f.ts,t.1 < vars from by rw [show i = l.length by omega,List.take_length] at hall;exact hall)])
end Go.Proofs.YtmpkandbccallaaGreatDoor
set_option linter.unusedSimpArgs false
set_option linter.unusedVariables false
namespace Go.Proofs.YtmpkandbccallaaGreatDoor
open Go Go.RowKit Rc
theorem rvalid_ok (f:Af) {b n:Nat} (h:FOk b n f) (hb:b≤100000000) (vars:Nat) (hv:n≤vars) (hv2:vars≤1000):Ctr Tryz.prog 51 [afV f,V.one (Leaf.val (.int .i64 ((vars:Int))))] (R.one (V.one (Leaf.val (.bool true)))):=by
 haveI:=h.br
 have e:=rvalid7 f vars (B:=b + 1) h.can (fun t ht=>(h.bd t ht).br) (by omega) (Nat.le_trans h.len (by omega)) (by omega)
 rwa [decide_eq_true (fun t ht=>Nat.lt_of_lt_of_le (h.var t ht) hv)] at e
theorem rvalidall_ok (l:List Af) {b n:Nat} (h:∀ f∈l,FOk b n f) (hb:b≤100000000) (hl:l.length≤1000) (vars:Nat) (hv:n≤vars) (hv2:vars≤1000):Ctr Tryz.prog 128 [V.one (El.row afE l),V.one (Leaf.val (.int .i64 ((vars:Int))))] (R.one (V.one (Leaf.val (.bool true)))):=by
 have e:=rvalidall l vars (B:=b + 1) (n:=n) (fun f hf=>⟨(h f hf).fm (by omega),(h f hf).br⟩) (by omega) (by omega) hl (by omega)
 rwa [decide_eq_true (fun f hf t ht=>Nat.lt_of_lt_of_le ((h f hf).var t ht) hv)] at e
set_option maxRecDepth 10000 in
theorem rqvalidall (l:List Rat) {B:Nat} (h:∀ x∈l,Br x B) (hB:B≤100000) (hl:l.length≤1000):Ctr Tryz.prog 167 [V.one (El.row ratE l)] (R.one (V.one (Leaf.val (.bool true)))):=by
 refine bd_ Tryz.func167 Tryz.ntmps167 rfl (fun w0 A0=>?_)
 refine zc 12 rfl (lpR_ (fun m Γ H=>∃ (i:Nat),l.length - i = m∧Γ = [(0,some (D.v (V.one (El.row ratE l)))),(3,some (D.val (.int .i64 ((i:Nat):Int))))]∧H = []∧i≤l.length) ⟨0,rfl,rfl,rfl,Nat.zero_le _⟩ rfl ?_)
 rintro m Γ H ⟨i,rfl,rfl,rfl,hi0⟩
 refine zc 5 rfl (tq_ rfl (jln rfl) ?_)
 by_cases hi:i < l.length
 ·refine tq_ rfl (ltT rfl) (zl 8 rfl ?_)
  obtain ⟨x,hx⟩:∃ x,l[i]? = some x:=⟨_,List.getElem?_eq_getElem hi⟩
  haveI hbx:=h x (List.mem_of_getElem? hx)
  refine zc 3 rfl (tq_ rfl (jix i hx rfl) (tq_ rfl (jlr rfl) (tc_ fn110 rfl (rqvalid (qOf x) x (qOf_q _) (Br.use (by omega))) (is_ true rfl (isC_of _) (zl 9 rfl (tq_ rfl (jad (i + 1) rfl) (zl 2 rfl ?_)))))))
  exact nx_ ⟨i + 1,rfl,rfl,rfl,hi⟩ rfl
 ·refine tq_ rfl (ltF rfl) (zl 13 rfl ?_)
  exact r1_ hq_ rfl rfl
set_option maxRecDepth 10000 in
theorem gvalid_r (g:Gr) (hg:GOk g):Ctr Tryz.prog 69 [grV g] (R.one (V.one (Leaf.val (.bool true)))):=by
 refine bd_ Tryz.func69 Tryz.ntmps69 rfl (fun w0 A0=>?_)
 have h1:=hg.i1;have h2:=hg.i3;have h3:=hg.u4;have h4:=hg.o1;have h5:=hg.o3
 refine zc 11 rfl (tq_ rfl (ltF rfl) (zl 3 rfl (tq_ rfl (gtF rfl) (zl 4 rfl (tq_ rfl (jln rfl) (tq_ rfl (gtF rfl) (zl 4 rfl (tq_ rfl (jln rfl) (tq_ rfl (ltF rfl) ?_)))))))))
 refine zl 4 rfl (tq_ rfl (jln rfl) (tq_ rfl (gtF rfl) (zl 13 rfl (lpR_ (fun m Γ H=>∃ (i:Nat),g.us.length - i = m∧Γ = [(1,some (D.ptr 0 0)),(3,some (D.val (.int .i64 ((i:Nat):Int))))]∧H = [hb_ 33 [Leaf.val (.int .i64 ((g.inp:Nat):Int)),El.row afE g.us,El.row afE g.os]]∧i≤g.us.length) ⟨0,rfl,rfl,rfl,Nat.zero_le _⟩ rfl ?_))))
 rintro m Γ H ⟨i,rfl,rfl,rfl,hi0⟩
 refine zc 6 rfl (tq_ rfl (jln rfl) ?_)
 by_cases hi:i < g.us.length
 ·refine tq_ rfl (ltT rfl) (zl 8 rfl ?_)
  obtain ⟨x,hx⟩:∃ x,g.us[i]? = some x:=⟨_,List.getElem?_eq_getElem hi⟩
  have hxo:=hg.us i x hx
  refine dr_ 0 [] [] (dz 3 rfl (kq_ rfl (jix i hx rfl) (kq_ rfl (jlr rfl) (dz 3 rfl (kq_ rfl (jad (g.inp + i) rfl) (kc_ fn51 rfl (rvalid_ok x hxo (by omega) (g.inp + i) (Nat.le_refl _) (by omega)) (dz 1 rfl (DK_nil (za 7 rfl ?_)))))))))
  refine tq_ rfl (jad (i + 1) rfl) (zl 2 rfl ?_)
  exact nx_ ⟨i + 1,rfl,rfl,rfl,hi⟩ rfl
 ·refine tq_ rfl (ltF rfl) (zl 16 rfl (tq_ rfl (jln rfl) (tq_ rfl (jad (g.inp + g.us.length) rfl) (tc_ fn128 rfl (rvalidall_ok g.os hg.os (by omega) (by omega) (g.inp + g.us.length) (Nat.le_refl _) (by omega)) (zl 3 rfl ?_)))))
  exact r1_ hq_ rfl rfl
set_option maxRecDepth 10000 in
theorem vars_r (g:Gr) (hg:GOk g):Ctr Tryz.prog 52 [grV g] (R.one (V.one (Leaf.val (.int .i64 (((g.inp + g.us.length:Nat):Int)))))):=by
 refine bd_ Tryz.func52 Tryz.ntmps52 rfl (fun w0 A0=>?_)
 have h1:=hg.i1;have h2:=hg.i3;have h3:=hg.u4;have h4:=hg.o1;have h5:=hg.o3
 refine zc 10 rfl (tc_ fn69 rfl (gvalid_r g (by assumption)) (zl 12 rfl (tq_ rfl (jln rfl) (tq_ rfl (jad (g.inp + g.us.length) rfl) (zl 3 rfl ?_)))))
 exact r1_ hq_ rfl rfl
set_option maxRecDepth 10000 in
theorem rgvalid_r (r:Rg) (n:Nat) (hr:ROk n r) (hn1:1≤n) (hn3:n≤3):Ctr Tryz.prog 109 [rgV r,V.one (Leaf.val (.int .i64 ((n:Int))))] (R.one (V.one (Leaf.val (.bool true)))):=by
 refine bd_ Tryz.func109 Tryz.ntmps109 rfl (fun w0 A0=>?_)
 have h1:=hr.lo;have h2:=hr.hi;have h3:=hr.r2
 refine zc 10 rfl (tq_ rfl (ltF rfl) (zl 2 rfl (tq_ rfl (gtF rfl) (zl 4 rfl (tq_ rfl (jln rfl) (zl 1 rfl (tq_ rfl (neF rfl) (zl 4 rfl (tq_ rfl (jln rfl) ?_)))))))))
 refine zl 1 rfl (tq_ rfl (neF rfl) (zl 4 rfl (tq_ rfl (jln rfl) (tq_ rfl (gtF rfl) (zl 11 rfl ?_)))))
 refine tc_ fn167 rfl (rqvalidall r.lo (B:=4) (fun x hx=>by obtain ⟨j,hj⟩:=mem_get hx;obtain ⟨y,hy⟩:∃ y,r.hi[j]? = some y:=⟨_,List.getElem?_eq_getElem (by have:=(List.getElem?_eq_some_iff.1 hj).1;omega)⟩;exact (hr.bd j _ _ hj hy).1.br) (by omega) (by omega)) ?_
 refine zl 4 rfl ?_
 refine tc_ fn167 rfl (rqvalidall r.hi (B:=8) (fun x hx=>by obtain ⟨j,hj⟩:=mem_get hx;obtain ⟨y,hy⟩:∃ y,r.lo[j]? = some y:=⟨_,List.getElem?_eq_getElem (by have:=(List.getElem?_eq_some_iff.1 hj).1;omega)⟩;exact (hr.bd j _ _ hy hj).2.1.br) (by omega) (by omega)) ?_
 refine zl 6 rfl (tc_ fn128 rfl (rvalidall_ok r.rows hr.rows (by omega) (by omega) n (Nat.le_refl _) (by omega)) (zl 14 rfl ?_))
 refine lpR_ (fun m Γ H=>∃ (i:Nat),n - i = m∧Γ = [(1,some (D.val (.int .i64 ((n:Nat):Int)))),(2,some (D.ptr 0 0)),(5,some (D.val (.int .i64 ((i:Nat):Int))))]∧H = [hb_ 36 [El.row ratE r.lo,El.row ratE r.hi,El.row afE r.rows]]∧i≤n) ⟨0,rfl,rfl,rfl,Nat.zero_le _⟩ rfl ?_
 rintro m Γ H ⟨i,rfl,rfl,rfl,hi0⟩
 refine zc 5 rfl ?_
 by_cases hi:i < n
 ·refine tq_ rfl (ltT rfl) (zl 8 rfl ?_)
  obtain ⟨x,hx⟩:∃ x,r.lo[i]? = some x:=⟨_,List.getElem?_eq_getElem (by omega)⟩
  obtain ⟨y,hy⟩:∃ y,r.hi[i]? = some y:=⟨_,List.getElem?_eq_getElem (by omega)⟩
  obtain ⟨hb1,hb2,hxy⟩:=hr.bd i x y hx hy
  haveI:=hb1.br;haveI:=hb2.br
  refine dr_ 0 [] [] (dz 3 rfl (kq_ rfl (jix i hx rfl) (kq_ rfl (jlr rfl) (dz 3 rfl (kq_ rfl (jix i hy rfl) (kq_ rfl (jlr rfl) (kc_ fn26 rfl (rqcmp (qOf (x)) (x) (qOf_q _) (Br.use (by omega)) (qOf (y)) (y) (qOf_q _) (Br.use (by omega))) (kq_ rfl (gtF rfl (by have:=cmpq_le.2 hxy;omega)) (DK_nil ?_)))))))))
  refine za 7 rfl (tq_ rfl (jad (i + 1) rfl) (zl 2 rfl ?_))
  exact nx_ ⟨i + 1,rfl,rfl,rfl,hi⟩ rfl
 ·refine tq_ rfl (ltF rfl) (zl 13 rfl ?_)
  exact r1_ hq_ rfl rfl
set_option maxRecDepth 10000 in
theorem qvalid_r (q:Qu) (hq:QOk q):Ctr Tryz.prog 50 [quV q] (R.one (V.one (Leaf.val (.bool true)))):=by
 refine bd_ Tryz.func50 Tryz.ntmps50 rfl (fun w0 A0=>?_)
 have hg:=hq.g;have hr:=hq.r
 have h1:=hg.i1;have h2:=hg.i3;have h3:=hg.u4;have h4:=hg.o1;have h5:=hg.o3
 refine zc 7 rfl (dr_ 0 [] [] (dz 2 rfl (kc_ fn69 rfl (gvalid_r q.g (by assumption)) (dz 6 rfl (kc_ fn109 rfl (rgvalid_r q.r q.g.inp (by assumption) (by omega) (by omega)) (dz 6 rfl (kc_ fn52 rfl (vars_r q.g (by assumption)) (kc_ fn51 rfl (rvalid_ok q.goal hq.goal (by omega) (q.g.inp + q.g.us.length) (Nat.le_refl _) (by omega)) (dz 2 rfl ?_)))))))))
 refine DK_nil (za 1 rfl ?_)
 exact r1_ hq_ rfl rfl
end Go.Proofs.YtmpkandbccallaaGreatDoor
