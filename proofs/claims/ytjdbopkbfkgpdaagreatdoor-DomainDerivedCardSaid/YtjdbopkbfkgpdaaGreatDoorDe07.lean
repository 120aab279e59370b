/- Parts of the proof, 7: the texts WkJ, WkQ, WkR, WkS, WkT, Feed, WkU, WkV, WkW, Mod, FactsE, WlA, WlB, WlC, WlD, WkX, WlE, WlF, Row, WlG, WlH, as far as they are used. -/
import Derived.Test.YtjdbopkbfkgpdaaGreatDoorDe06
set_option linter.unusedSimpArgs false
set_option linter.unusedVariables false
namespace Go.Proofs.YtjdbopkbfkgpdaaGreatDoor
open Go Go.RowKit Rc
set_option maxRecDepth 10000 in
theorem rqsame (x y:Qr):Ctr Tryz.prog 24 [qV x,qV y] (R.one (V.one (Leaf.val (.bool (sameQ x y))))):=by
 refine bd_ Tryz.func24 Tryz.ntmps24 rfl (fun w0 A0=>?_)
 refine zc 13 rfl (tq_ rfl (Jq_eql_bool rfl rfl rfl un4 (d:=_) (rfl)) (zl 1 rfl ?_))
 refine two_ rfl (fun hb10=>?_) (fun hb10=>?_)
 ·refine zl 16 rfl ?_
  exact r1_ hq_ rfl (by simp [sameQ, *])
 ·refine zl 4 rfl (tc_ fn64 rfl (same_spec x.n y.n) (zl 2 rfl ?_))
  refine two_ rfl (fun hb17=>?_) (fun hb17=>?_)
  ·refine zl 9 rfl ?_
   exact r1_ hq_ rfl (by simp [sameQ, *])
  ·refine zl 4 rfl (tc_ fn64 rfl (same_spec x.d y.d) (zl 4 rfl ?_))
   exact r1_ hq_ rfl (by simp [sameQ, *])
set_option maxRecDepth 10000 in
theorem rqvalid (x:Qr) (r:Rat) (hr:x.q = r) (hfx:Fit 1000000000000 x):Ctr Tryz.prog 70 [qV x] (R.one (V.one (Leaf.val (.bool (isC x))))):=by
 refine bd_ Tryz.func70 Tryz.ntmps70 rfl (fun w0 A0=>?_)
 haveI ir:Br r 1000000000000:=Br.fitq hr hfx
 refine zc 7 rfl (dr_ 0 [] [] (dz 2 rfl (kc_ fn65 rfl (rqcanon x (r) hr (hfx.mono (by omega))) (kc_ fn24 rfl (rqsame x (qOf (r))) (dz 1 rfl (DK_nil (za 1 rfl ?_)))))))
 exact r1_ hq_ rfl (by subst hr;rfl)
set_option maxRecDepth 10000 in
theorem qvalid (x:Qr) (r:Rat) (hr:x.q = r) (hfx:Fit 1000000000000 x):Ctr Tryz.prog 122 [qV x] (R.one (V.one (Leaf.val (.bool (isC x))))):=by
 refine bd_ Tryz.func122 Tryz.ntmps122 rfl (fun w0 A0=>?_)
 haveI ir:Br r 1000000000000:=Br.fitq hr hfx
 refine zc 11 rfl (tq_ rfl (jln rfl) ?_)
 by_cases h0:x.d.length = 0
 ·refine tq_ rfl (eqT rfl) (zl 7 rfl (tc_ fn155 rfl (valid_spec x.n) (zl 1 rfl ?_)))
  refine two_ rfl (fun hb11=>?_) (fun hb11=>?_)
  ·refine zl 13 rfl ?_
   exact r1_ hq_ rfl (by rw [isC_int h0];simp [*])
  ·refine zl 4 rfl ?_
   refine two_ rfl (fun hb15=>?_) (fun hb15=>?_)
   ·refine zl 2 rfl (tq_ rfl (jln rfl) (zl 6 rfl ?_))
    exact r1_ hq_ rfl (by rw [isC_int h0];simp [*])
   ·refine zl 9 rfl ?_
    exact r1_ hq_ rfl (by rw [isC_int h0];simp [*])
 ·refine tq_ rfl (eqF rfl) (zl 8 rfl (tc_ fn86 rfl (qcanon x (r) hr (hfx.mono (by omega))) (zl 10 rfl (tq_ rfl (Jq_eql_bool rfl rfl rfl un4 (d:=_) (rfl)) (zl 1 rfl ?_)))))
  refine two_ rfl (fun hb29=>?_) (fun hb29=>?_)
  ·refine zl 24 rfl (zl 12 rfl ?_)
   exact r1_ hq_ rfl (by rw [isC_cmp,hr];simp [*])
  ·refine zl 2 rfl (tq_ rfl (jln rfl) (zl 2 rfl (tq_ rfl (jln rfl) (zl 3 rfl ?_))))
   refine two_ rfl (fun hb38=>?_) (fun hb38=>?_)
   ·refine zl 24 rfl (zl 3 rfl ?_)
    exact r1_ hq_ rfl (by rw [isC_cmp,hr];simp [*])
   ·refine zl 2 rfl (tq_ rfl (jln rfl) (zl 2 rfl (tq_ rfl (jln rfl) (zl 3 rfl ?_))))
    refine two_ rfl (fun hb47=>?_) (fun hb47=>?_)
    ·refine zl 18 rfl ?_
     exact r1_ hq_ rfl (by rw [isC_cmp,hr];simp [*])
    ·refine zl 4 rfl (tc_ fn137 rfl (cmp_w x.n x.hn (limbs (cnum r)) (small_limbs _) (val x.n) rfl (cnum r) (val_limbs _)) (zl 3 rfl ?_))
     refine two_ rfl (fun hb55=>?_) (fun hb55=>?_)
     ·refine zl 10 rfl ?_
      exact r1_ hq_ rfl (by rw [isC_cmp,hr];simp [*])
     ·refine zl 4 rfl (tc_ fn137 rfl (cmp_w x.d x.hd (limbs (cden r)) (small_limbs _) (val x.d) rfl (cden r) (val_limbs _)) (zl 5 rfl ?_))
      exact r1_ hq_ rfl (by rw [isC_cmp,hr];simp [*])
set_option maxRecDepth 10000 in
theorem rqmake (x:Zr) (z:Int) (hz:x.z = z) (hfx:x.m.length≤1000000000000) (y:Zr) (w:Int) (hw:y.z = w) (hfy:y.m.length≤1000000000000) (hw1:w≠0):Ctr Tryz.prog 100 [zV x,zV y] (R.tup [qV (qOf ((z:Rat) / (w:Rat))),V.one (Leaf.val (.int .i64 0))]):=by
 refine bd_ Tryz.func100 Tryz.ntmps100 rfl (fun w0 A0=>?_)
 haveI ix:Bn (val x.m) 1000000000000:=Bn.val x.hm hfx
 haveI iy:Bn (val y.m) 1000000000000:=Bn.val y.hm hfy
 have hw0:val y.m≠0:=fun e=>hw1 (by rw [← hw];unfold Zr.z;rw [e];cases y.neg <;> rfl)
 refine zc 12 rfl (tc_ fn108 rfl (rzsign y (w) hw (Nat.le_trans hfy (by omega))) (tq_ rfl (eqF rfl (sgz_ne hw1)) (zl 11 rfl (tq_ rfl (Jq_neq_bool rfl rfl rfl un4 (d:=_) (rfl)) (zl 4 rfl (tc_ fn104 rfl (rqquot (x.neg != y.neg) x.m y.m x.hm y.hm (by omega) (by omega) (val x.m) (val y.m) rfl rfl hw0) (zl 4 rfl ?_)))))))
 exact r2_ hq_ rfl (by subst hz;subst hw;unfold Zr.z;rw [← rq_div _ _ _ _ hw0] <;> rfl)
set_option maxRecDepth 10000 in
theorem rqof (z:Int) (h1:-9223372036854775808≤z) (h2:z≤9223372036854775807):Ctr Tryz.prog 33 [V.one (Leaf.val (.int .i64 z))] (R.one (qV (qOf (z:Rat)))):=by
 refine bd_ Tryz.func33 Tryz.ntmps33 rfl (fun w0 A0=>?_)
 refine zc 8 rfl (tc_ fn75 rfl (rzof (z) (by omega) (by omega)) (zl 14 rfl ?_))
 exact r1_ hq_ rfl (congrArg R.one (qOf_int z))
set_option maxRecDepth 10000 in
theorem rqfrac (z w:Int) (h1:-9223372036854775808≤z) (h2:z≤9223372036854775807) (h3:-9223372036854775808≤w) (h4:w≤9223372036854775807) (h5:w≠0):Ctr Tryz.prog 56 [V.one (Leaf.val (.int .i64 z)),V.one (Leaf.val (.int .i64 w))] (R.tup [qV (qOf ((z:Rat) / (w:Rat))),V.one (Leaf.val (.int .i64 0))]):=by
 refine bd_ Tryz.func56 Tryz.ntmps56 rfl (fun w0 A0=>?_)
 refine zc 9 rfl (tc_ fn75 rfl (rzof (z) (by omega) (by omega)) (zl 1 rfl (tc_ fn75 rfl (rzof (w) (by omega) (by omega)) (tc_ fn100 rfl (rqmake (zOf z) z (zOf_z _) (Bn.of_lt (by omega) (by omega)) (zOf w) w (zOf_z _) (Bn.of_lt (by omega) (by omega)) h5) (zl 6 rfl ?_)))))
 exact r2_ hq_ rfl rfl
end Go.Proofs.YtjdbopkbfkgpdaaGreatDoor
set_option linter.unusedSimpArgs false
set_option linter.unusedVariables false
namespace Go.Proofs.YtjdbopkbfkgpdaaGreatDoor
open Go Go.RowKit Rc
set_option maxRecDepth 10000 in
theorem nonzero_spec (l:List Tm) (hl:l.length≤1000000) (v:Nat) (c:Rat) {B:Nat} [Br c B] (hB:B≤400000000000):CtrO Tryz.prog 93 68 4 (El.all tmE l) (El.all tmE (nz l (v,c))) [V.one (Leaf.own 0 0),V.agg (tmE.f (v,c))] (fun n=>V.one (Leaf.own 0 n)):=by
 refine CtrO.of_body Tryz.func93 rfl Tryz.ntmps93 (Nat.le_of_ble_eq_true rfl) (fun w0 A0=>?_)
 refine qc_ (zc 11 rfl (tc_ fn63 rfl (rqsign (qOf (c)) (c) (qOf_q _) (Br.use (by omega))) ?_))
 by_cases hc0:c = 0
 ·refine tq_ rfl (eqT rfl (by rw [hc0];rfl)) (zl 9 rfl ?_)
  exact Tc_retO (fun _ _ h=>h) rfl rfl rfl rfl (by rw [nz_pos hc0]) (hcl:=by first | rfl | exact El.all_cl _ _)
 ·refine tq_ rfl (eqF rfl (sg_ne hc0)) (zl 9 rfl (te_ rfl (Je_buildSlice rfl un30 ty68 tz68 rfl (by decide) (by decide) rfl (by decide) rfl) (te_ rfl (jap (v,c) rfl rfl) (zl 3 rfl ?_))))
  exact Tc_retO (fun _ _ h=>h) rfl rfl rfl rfl (by rw [nz_neg hc0]) (hcl:=by first | rfl | exact El.all_cl _ _)
set_option maxRecDepth 10000 in
theorem rscale (f:Af) (c:Rat) {B C:Nat} (hB:∀ t∈f.ts,Br t.2 B) [Br f.c B] [Br c C] (hBC:B + C≤300000000000) (hl:f.ts.length≤1000):Ctr Tryz.prog 48 [afV f,V.agg (qL (c))] (R.one (afV ⟨scT f.ts c,f.c * c⟩)):=by
 refine bd_ Tryz.func48 Tryz.ntmps48 rfl (fun w0 A0=>?_)
 refine zc 12 rfl (tc_ fn58 rfl (rqmul (qOf (f.c)) (f.c) (qOf_q _) (Br.use (by omega)) (qOf (c)) (c) (qOf_q _) (Br.use (by omega))) (tq_ rfl (Jq_build rfl tx36 rfl pl36 rfl) (te_ rfl (Je_alloc (n:=3) rfl tx36 rfl) (zl 5 rfl ?_))))
 refine Tc_growB 3 68 4 (ls':=[Leaf.own 4 0,Leaf.val (.bool (cneg ((f.c) * (c)))),natL (limbs (cnum ((f.c) * (c)))),natL (limbs (cden ((f.c) * (c))))]) rfl rfl rfl ⟨.inr ⟨rfl,rfl⟩,.inl rfl,.inl rfl,.inl rfl,trivial⟩ (zc 5 rfl ?_)
 refine lpR_ (fun m Γ H=>∃ (i:Nat) (n:Nat) (out:List Tm),f.ts.length - i = m∧Γ = [(2,some (D.ptr 0 0)),(3,some (D.ptr 1 0)),(4,some (D.ptr 2 0)),(5,some (D.ptr 3 0)),(6,some (D.val (.int .i64 ((i:Nat):Int))))]∧H = [hb_ 36 (afL f),hb_ 34 (qL c),hb_ 36 [El.row tmE ([]),Leaf.val (.bool false),natL ([]),natL ([])],hb_ 36 [Leaf.own 4 n,Leaf.val (.bool (cneg (f.c * c))),natL (limbs (cnum (f.c * c))),natL (limbs (cden (f.c * c)))],hgr 68 4 tmE out n]∧i≤f.ts.length∧out = scT (f.ts.take i) c) ⟨0,0,[],rfl,rfl,rfl,Nat.zero_le _,rfl⟩ rfl ?_
 rintro m Γ H ⟨i,n,out,rfl,rfl,rfl,hi0,hout⟩
 refine zc 6 rfl (tq_ rfl (jln rfl) ?_)
 by_cases hi:i < f.ts.length
 ·refine tq_ rfl (ltT rfl) (zl 7 rfl ?_)
  obtain ⟨x,hx⟩:∃ x,f.ts[i]? = some x:=⟨_,List.getElem?_eq_getElem hi⟩
  haveI hbx:=hB x (List.mem_of_getElem? hx)
  have hlo:out.length≤1000:=by rw [hout];exact Nat.le_trans (scT_len _ _) (by simp;omega)
  refine dr_ 0 [(17,4),(19,3)] [4,3] (dz 1 rfl (kp_ [4] rfl (jld rfl) (dz 3 rfl (kq_ rfl (jix i hx rfl) (kq_ rfl (jfr rfl) (kq_ rfl (jli rfl) (dz 3 rfl (kq_ rfl (jix i hx rfl) (kq_ rfl (jfr rfl) ?_)))))))))
  refine kq_ rfl (jlr rfl) (dz 1 rfl (kc_ fn58 rfl (rqmul (qOf (x.2)) (x.2) (qOf_q _) (Br.use (by omega)) (qOf (c)) (c) (qOf_q _) (Br.use (by omega))) (dz 1 rfl ?_)))
  refine ki_ 4 rfl (Jd_callO (r:=4) (ys:=[V.one (Leaf.own 4 n),V.agg [Leaf.val (.int .i64 ((x.1:Nat):Int)),Leaf.val (.bool (cneg ((x.2) * (c)))),natL (limbs (cnum ((x.2) * (c)))),natL (limbs (cden ((x.2) * (c))))]]) (V.one (Leaf.own 4 (n + 1))) rfl fn93 rfl rfl (nonzero_spec out (by omega) x.1 ((x.2) * (c)) (by omega)) (nz_le _ _)) (dz 2 rfl (DK_nil (za 4 rfl ?_)))
  refine tq_ rfl (jad (i + 1) rfl) (zl 2 rfl ?_)
  exact nx_ ⟨i + 1,_,_,rfl,rfl,rfl,hi,by rw [hout,scT_take hx]⟩ rfl
 ·refine tq_ rfl (ltF rfl) (zl 9 rfl ?_)
  have hie:i = f.ts.length:=by omega
  rw [hie,List.take_length] at hout
  refine zc 5 rfl (Tc_viewB 2 (ls':=[El.row tmE out,Leaf.val (.bool (cneg (f.c * c))),natL (limbs (cnum (f.c * c))),natL (limbs (cden (f.c * c)))]) rfl rfl (RowAt.ofE tmE out rfl (by decide)) ⟨.inr ⟨rfl,rfl⟩,.inl rfl,.inl rfl,.inl rfl,trivial⟩ ?_)
  exact r1_ hq_ rfl (by rw [← hout])
end Go.Proofs.YtjdbopkbfkgpdaaGreatDoor
set_option linter.unusedSimpArgs false
set_option linter.unusedVariables false
namespace Go.Proofs.YtjdbopkbfkgpdaaGreatDoor
open Go Go.RowKit Rc
set_option maxRecDepth 10000 in
theorem rvar (v:Nat) (hv:v≤1000000):Ctr Tryz.prog 112 [V.one (Leaf.val (.int .i64 ((v:Int))))] (R.one (afV ⟨[(v,((1:Int):Rat))],0⟩)):=by
 refine bd_ Tryz.func112 Tryz.ntmps112 rfl (fun w0 A0=>?_)
 refine zc 8 rfl (tc_ fn33 rfl (rqof 1 (by decide) (by decide)) (zl 1 rfl (te_ rfl (Je_buildSlice rfl un30 ty68 tz68 rfl (by decide) (by decide) rfl (by decide) rfl) (zl 4 rfl ?_))))
 exact r1_ hq_ rfl (by rw [af0] <;> rfl)
set_option maxRecDepth 10000 in
theorem rnumber (c:Rat):Ctr Tryz.prog 98 [V.agg (qL (c))] (R.one (afV ⟨[],c⟩)):=by
 refine bd_ Tryz.func98 Tryz.ntmps98 rfl (fun w0 A0=>?_)
 refine zc 13 rfl ?_
 exact r1_ hq_ rfl rfl
set_option maxRecDepth 10000 in
theorem rvalid7 (f:Af) (vars:Nat) {B:Nat} (hcan:CanT f.ts) (hB:∀ t∈f.ts,Br t.2 B) [Br f.c B] (hBC:B≤300000000000) (hl:f.ts.length≤1000) (hv:vars≤1000000):Ctr Tryz.prog 28 [afV f,V.one (Leaf.val (.int .i64 ((vars:Int))))] (R.one (V.one (Leaf.val (.bool (decide (∀ t∈f.ts,t.1 < vars)))))):=by
 refine bd_ Tryz.func28 Tryz.ntmps28 rfl (fun w0 A0=>?_)
 refine zc 13 rfl (lpR_ (fun m Γ H=>∃ (i:Nat),f.ts.length - i = m∧Γ = [(1,some (D.val (.int .i64 ((vars:Nat):Int)))),(2,some (D.ptr 0 0)),(5,some (D.val (.int .i64 ((i:Nat):Int))))]∧H = [hb_ 36 (afL f)]∧i≤f.ts.length∧∀ t∈f.ts.take i,t.1 < vars) ⟨0,rfl,rfl,rfl,Nat.zero_le _,by simp⟩ rfl ?_)
 rintro m Γ H ⟨i,rfl,rfl,rfl,hi0,hall⟩
 refine zc 6 rfl (tq_ rfl (jln rfl) ?_)
 by_cases hi:i < f.ts.length
 ·refine tq_ rfl (ltT rfl) (zl 8 rfl ?_)
  obtain ⟨x,hx⟩:∃ x,f.ts[i]? = some x:=⟨_,List.getElem?_eq_getElem hi⟩
  haveI hbx:=hB x (List.mem_of_getElem? hx)
  obtain ⟨hn0,hgt,hlt⟩:=hcan.get hx
  refine zc 4 rfl (tq_ rfl (jix i hx rfl) (tq_ rfl (jlr rfl) (zl 5 rfl (dr_ 0 [] [] (dz 2 rfl (kq_ rfl (ltF rfl) (dz 4 rfl ?_)))))))
  by_cases hvx:vars≤x.1
  ·refine kq_ rfl (geT rfl) (dz 24 rfl (dz 5 rfl (DK_nil (za 7 rfl ?_))))
   exact r1_ hq_ rfl (by rw [bad_var hx hvx])
  ·refine kq_ rfl (geF rfl) (dz 3 rfl ?_)
   by_cases hi1:0 < i
   ·refine kq_ rfl (gtT rfl) (dz 4 rfl ?_)
    obtain ⟨y,hy⟩:∃ y,f.ts[i - 1]? = some y:=⟨_,List.getElem?_eq_getElem (by omega)⟩
    have hyx:=hcan.prev hi1 hx hy
    refine kq_ rfl (jsb (i - 1) rfl) (kq_ rfl (jix (i - 1) hy rfl) (kq_ rfl (jfr rfl) (kq_ rfl (jli rfl) (dz 2 rfl (kq_ rfl (geF rfl) (dz 5 rfl (kc_ fn63 rfl (rqsign (qOf (x.2)) (x.2) (qOf_q _) (Br.use (by omega))) (kq_ rfl (eqF rfl (sg_ne hn0)) (dz 4 rfl ?_)))))))))
    refine kc_ fn70 rfl (rqvalid (qOf (x.2)) (x.2) (qOf_q _) (Br.use (by omega))) (kis_ true rfl (isC_of _) (dz 2 rfl (DK_nil (za 5 rfl ?_))))
    have hvx:x.1 < vars:=by omega
    refine zc 2 rfl (tq_ rfl (jad (i + 1) rfl) (zl 2 rfl (At_free 1 (trim_ 1 rfl ?_))))
    exact nx_ ⟨i + 1,rfl,rfl,rfl,hi,take_all hx hall hvx⟩ rfl
   ·refine kq_ rfl (gtF rfl) (dz 16 rfl (kc_ fn63 rfl (rqsign (qOf (x.2)) (x.2) (qOf_q _) (Br.use (by omega))) (kq_ rfl (eqF rfl (sg_ne hn0)) (dz 4 rfl (kc_ fn70 rfl (rqvalid (qOf (x.2)) (x.2) (qOf_q _) (Br.use (by omega))) (kis_ true rfl (isC_of _) (dz 2 rfl (DK_nil (za 5 rfl ?_)))))))))
    have hvx:x.1 < vars:=by omega
    refine zc 2 rfl (tq_ rfl (jad (i + 1) rfl) (zl 2 rfl (At_free 1 (trim_ 1 rfl ?_))))
    exact nx_ ⟨i + 1,rfl,rfl,rfl,hi,take_all hx hall hvx⟩ rfl
 ·refine tq_ rfl (ltF rfl) (zl 9 rfl ?_)
  have hie:i = f.ts.length:=by omega
  rw [hie,List.take_length] at hall
  refine zc 3 rfl (tc_ fn70 rfl (rqvalid (qOf (f.c)) (f.c) (qOf_q _) (Br.use (by omega))) (is_ true rfl (isC_of _) (zl 3 rfl ?_)))
  exact r1_ hq_ rfl (by rw [decide_eq_true hall])
set_option maxRecDepth 10000 in
theorem rplus (f:Af) (v:Nat) (c:Rat) {B C:Nat} (hcan:CanT f.ts) (hB:∀ t∈f.ts,Br t.2 B) [Br c C] (hBC:B + C≤300000000000) (hl:f.ts.length≤1000) (hv:v≤1000000):Ctr Tryz.prog 150 [afV f,V.one (Leaf.val (.int .i64 ((v:Int)))),V.agg (qL (c))] (R.one (afV ⟨addT f.ts v c,f.c⟩)):=by
 refine bd_ Tryz.func150 Tryz.ntmps150 rfl (fun w0 A0=>?_)
 refine zc 9 rfl (tq_ rfl (Jq_assign rfl (rfl)) (zl 3 rfl (Tc_growS 7 68 4 rfl rfl (zc 11 rfl ?_))))
 refine lpR_ (fun m Γ H=>∃ (i:Nat) (n:Nat) (out:List Tm) (done:Bool),f.ts.length - i = m∧Γ = [(1,some (D.val (.int .i64 ((v:Nat):Int)))),(3,some (D.ptr 0 0)),(5,some (D.ptr 1 0)),(6,some (D.ptr 2 0)),(7,some (D.v (V.one (Leaf.own 3 n)))),(8,some (D.bool done)),(9,some (D.val (.int .i64 ((i:Nat):Int))))]∧H = [hb_ 36 (afL f),hb_ 34 (qL c),hb_ 36 [El.row tmE ([]),Leaf.val (.bool false),natL ([]),natL ([])],hgr 68 4 tmE out n]∧i≤f.ts.length∧out.length≤2 * i∧PlI f.ts v c i out done) ⟨0,0,[],false,rfl,rfl,rfl,Nat.zero_le _,Nat.zero_le _,PlI.start _ _ _⟩ rfl ?_
 rintro m Γ H ⟨i,n,out,done,rfl,rfl,rfl,hi0,hol,hI⟩
 refine zc 6 rfl (tq_ rfl (jln rfl) ?_)
 by_cases hi:i < f.ts.length
 ·refine tq_ rfl (ltT rfl) (zl 8 rfl ?_)
  obtain ⟨x,hx⟩:∃ x,f.ts[i]? = some x:=⟨_,List.getElem?_eq_getElem hi⟩
  haveI hbx:=hB x (List.mem_of_getElem? hx)
  obtain ⟨hn0,hgt,hlt⟩:=hcan.get hx
  refine zc 4 rfl (tq_ rfl (jix i hx rfl) (tq_ rfl (jlr rfl) (zl 10 rfl ?_)))
  by_cases hxv:x.1 = v
  ·refine tq_ rfl (eqT rfl) (zl 8 rfl (tc_ fn57 rfl (rqadd (qOf (x.2)) (x.2) (qOf_q _) (Br.use (by omega)) (qOf (c)) (c) (qOf_q _) (Br.use (by omega))) (zl 24 rfl (zc 3 rfl ?_))))
   refine te_ rfl (Je_callO (r:=3) (ys:=[V.one (Leaf.own 3 n),V.agg [Leaf.val (.int .i64 ((x.1:Nat):Int)),Leaf.val (.bool (cneg ((x.2) + (c)))),natL (limbs (cnum ((x.2) + (c)))),natL (limbs (cden ((x.2) + (c))))]]) (V.one (Leaf.own 3 (n + 1))) rfl fn93 rfl rfl (nonzero_spec out (by omega) x.1 ((x.2) + (c)) (by omega)) (nz_le _ _)) (zl 6 rfl (tq_ rfl (jad (i + 1) rfl) ?_))
   refine zl 2 rfl (At_free 4 (trim_ 4 rfl ?_))
   exact nx_ ⟨i + 1,_,_,_,rfl,rfl,rfl,hi,(by have h1:=nz_len out (x.1,x.2 + c);omega),hI.eq hcan hx hxv⟩ rfl
  ·refine tq_ rfl (eqF rfl) (zl 11 rfl ?_)
   refine two_ rfl (fun hd=>?_) (fun hd=>?_)
   ·refine zl 10 rfl ?_
    have hd:done = true:=by simpa using hd
    subst hd
    refine zc 3 rfl (te_ rfl (Je_callO (r:=3) (ys:=[V.one (Leaf.own 3 n),V.agg [Leaf.val (.int .i64 ((x.1:Nat):Int)),Leaf.val (.bool (cneg x.2)),natL (limbs (cnum x.2)),natL (limbs (cden x.2))]]) (V.one (Leaf.own 3 (n + 1))) rfl fn93 rfl rfl (nonzero_spec out (by omega) x.1 x.2 (by omega)) (nz_le _ _)) (zl 6 rfl (tq_ rfl (jad (i + 1) rfl) (zl 2 rfl (At_free 4 (trim_ 4 rfl ?_))))))
    exact nx_ ⟨i + 1,_,_,_,rfl,rfl,rfl,hi,(by have h1:=nz_len out (x.1,x.2);omega),hI.rest hcan hx⟩ rfl
   ·refine zl 3 rfl ?_
    by_cases hvx:v < x.1
    ·refine tq_ rfl (gtT rfl) (zl 5 rfl ?_)
     have hd:done = false:=by simpa using hd
     subst hd
     refine zc 4 rfl (tc_ fn65 rfl (rqcanon (qOf (c)) (c) (qOf_q _) (Br.use (by omega))) (zl 1 rfl (te_ rfl (Je_callO (r:=3) (ys:=[V.one (Leaf.own 3 n),V.agg [Leaf.val (.int .i64 ((v:Nat):Int)),Leaf.val (.bool (cneg c)),natL (limbs (cnum c)),natL (limbs (cden c))]]) (V.one (Leaf.own 3 (n + 1))) rfl fn93 rfl rfl (nonzero_spec out (by omega) v c (by omega)) (nz_le _ _)) ?_)))
     refine zl 10 rfl (te_ rfl (Je_callO (r:=3) (ys:=[V.one (Leaf.own 3 (n + 1)),V.agg [Leaf.val (.int .i64 ((x.1:Nat):Int)),Leaf.val (.bool (cneg x.2)),natL (limbs (cnum x.2)),natL (limbs (cden x.2))]]) (V.one (Leaf.own 3 ((n + 1) + 1))) rfl fn93 rfl rfl (nonzero_spec (nz out (v,c)) (by have h1:=nz_len out (v,c);omega) x.1 x.2 (by omega)) (nz_le _ _)) (zl 6 rfl ?_))
     refine tq_ rfl (jad (i + 1) rfl) (zl 2 rfl (At_free 4 (trim_ 4 rfl ?_)))
     exact nx_ ⟨i + 1,_,_,_,rfl,rfl,rfl,hi,(by have h1:=nz_len out (v,c);have h2:=nz_len (nz out (v,c)) (x.1,x.2);omega),hI.ins hcan hx hvx⟩ rfl
    ·refine tq_ rfl (gtF rfl) (zl 6 rfl ?_)
     have hd:done = false:=by simpa using hd
     subst hd
     refine zc 3 rfl (te_ rfl (Je_callO (r:=3) (ys:=[V.one (Leaf.own 3 n),V.agg [Leaf.val (.int .i64 ((x.1:Nat):Int)),Leaf.val (.bool (cneg x.2)),natL (limbs (cnum x.2)),natL (limbs (cden x.2))]]) (V.one (Leaf.own 3 (n + 1))) rfl fn93 rfl rfl (nonzero_spec out (by omega) x.1 x.2 (by omega)) (nz_le _ _)) (zl 6 rfl (tq_ rfl (jad (i + 1) rfl) (zl 2 rfl (At_free 4 (trim_ 4 rfl ?_))))))
     exact nx_ ⟨i + 1,_,_,_,rfl,rfl,rfl,hi,(by have h1:=nz_len out (x.1,x.2);omega),hI.less hcan hx (by omega)⟩ rfl
 ·refine tq_ rfl (ltF rfl) (zl 15 rfl ?_)
  refine Tc_cond rfl (fun hd=>?_) (fun hd=>?_)
  ·have hd:done = false:=by simpa using hd
   subst hd
   refine zc 4 rfl (tc_ fn65 rfl (rqcanon (qOf (c)) (c) (qOf_q _) (Br.use (by omega))) (zl 1 rfl (te_ rfl (Je_callO (r:=3) (ys:=[V.one (Leaf.own 3 n),V.agg [Leaf.val (.int .i64 ((v:Nat):Int)),Leaf.val (.bool (cneg c)),natL (limbs (cnum c)),natL (limbs (cden c))]]) (V.one (Leaf.own 3 (n + 1))) rfl fn93 rfl rfl (nonzero_spec out (by omega) v c (by omega)) (nz_le _ _)) ?_)))
   refine zl 12 rfl (Tc_viewB 2 (ls':=[El.row tmE (nz out (v,c)),Leaf.val (.bool (cneg f.c)),natL (limbs (cnum f.c)),natL (limbs (cden f.c))]) rfl rfl (RowAt.ofE tmE (nz out (v,c)) rfl (by decide)) ⟨.inr ⟨rfl,rfl⟩,.inl rfl,.inl rfl,.inl rfl,trivial⟩ ?_)
   exact r1_ hq_ rfl (by rw [← hI.fin_f (by omega)])
  ·have hd:done = true:=by simpa using hd
   subst hd
   refine zc 11 rfl (Tc_viewB 2 (ls':=[El.row tmE out,Leaf.val (.bool (cneg f.c)),natL (limbs (cnum f.c)),natL (limbs (cden f.c))]) rfl rfl (RowAt.ofE tmE out rfl (by decide)) ⟨.inr ⟨rfl,rfl⟩,.inl rfl,.inl rfl,.inl rfl,trivial⟩ ?_)
   exact r1_ hq_ rfl (by rw [← hI.fin_t (by omega)])
end Go.Proofs.YtjdbopkbfkgpdaaGreatDoor
set_option linter.unusedSimpArgs false
set_option linter.unusedVariables false
namespace Go.Proofs.YtjdbopkbfkgpdaaGreatDoor
open Go Go.RowKit Rc
set_option maxRecDepth 10000 in
theorem radd7 (f g:Af) {B C:Nat} (cf:CanT f.ts) (cg:CanT g.ts) (hf:∀ t∈f.ts,Br t.2 B) (hg:∀ t∈g.ts,Br t.2 C) [Br f.c B] [Br g.c C] (hBC:B + C≤100000000000) (hlf:f.ts.length≤400) (hlg:g.ts.length≤400) (hv:∀ t∈g.ts,t.1 < 1000000):Ctr Tryz.prog 111 [afV f,afV g] (R.one (afV ⟨sumT f.ts g.ts,f.c + g.c⟩)):=by
 refine bd_ Tryz.func111 Tryz.ntmps111 rfl (fun w0 A0=>?_)
 refine zc 8 rfl (dr_ 1 [(8,3),(9,3)] [3] (dz 6 rfl (kc_ fn57 rfl (rqadd (qOf (f.c)) (f.c) (qOf_q _) (Br.use (by omega)) (qOf (g.c)) (g.c) (qOf_q _) (Br.use (by omega))) (dz 3 rfl (DK_nil (za 8 rfl (fr_ [0] rfl ?_)))))))
 refine lpR_ (fun m Γ H=>∃ (i:Nat) (out:List Tm),g.ts.length - i = m∧Γ = [(3,some (D.ptr 1 0)),(4,some (D.ptr 2 0)),(5,some (D.ptr 3 0)),(6,some (D.val (.int .i64 ((i:Nat):Int))))]∧H = [none,hb_ 36 (afL g),hb_ 36 [El.row tmE ([]),Leaf.val (.bool false),natL ([]),natL ([])],hb_ 36 [El.row tmE out,Leaf.val (.bool (cneg ((f.c) + (g.c)))),natL (limbs (cnum ((f.c) + (g.c)))),natL (limbs (cden ((f.c) + (g.c))))]]∧i≤g.ts.length∧out = sumT f.ts (g.ts.take i)) ⟨0,f.ts,rfl,rfl,rfl,Nat.zero_le _,rfl⟩ rfl ?_
 rintro m Γ H ⟨i,out,rfl,rfl,rfl,hi0,hout⟩
 refine zc 6 rfl (tq_ rfl (jln rfl) ?_)
 by_cases hi:i < g.ts.length
 ·refine tq_ rfl (ltT rfl) (zl 7 rfl ?_)
  obtain ⟨x,hx⟩:∃ x,g.ts[i]? = some x:=⟨_,List.getElem?_eq_getElem hi⟩
  haveI hbx:=hg x (List.mem_of_getElem? hx)
  have hvx:=hv x (List.mem_of_getElem? hx)
  have hlo:out.length≤800:=by rw [hout];exact Nat.le_trans (sumT_len _ _) (by simp;omega)
  have hco:CanT out:=by rw [hout];exact sumT_can cf
  have hbo:∀ t∈out,Br t.2 (B + C + 1):=by rw [hout];exact sumT_bd cf (canT_take cg) hf (fun t ht=>hg t (List.mem_of_mem_take ht))
  refine dr_ 0 [(14,3)] [3] (kp_ [] rfl (Jq_load_agg rfl rfl rfl (by decide) ty36 (by decide) (Nat.le_of_ble_eq_true rfl) rfl) (dz 3 rfl (kq_ rfl (jix i hx rfl) (kq_ rfl (jfr rfl) (kq_ rfl (jli rfl) (dz 3 rfl (kq_ rfl (jix i hx rfl) (kq_ rfl (jfr rfl) (kq_ rfl (jlr rfl) ?_)))))))))
  refine kc_ fn150 rfl (rplus ⟨out,f.c + g.c⟩ x.1 x.2 hco hbo (by omega) (by show out.length≤1000;omega) (by omega)) (dz 1 rfl (DK_nil (za 4 rfl (tq_ rfl (jad (i + 1) rfl) (zl 2 rfl ?_)))))
  exact nx_ ⟨i + 1,_,rfl,rfl,rfl,hi,by rw [hout,sumT_take hx]⟩ rfl
 ·refine tq_ rfl (ltF rfl) (zl 9 rfl ?_)
  have hie:i = g.ts.length:=by omega
  rw [hie,List.take_length] at hout
  have hlo:out.length≤800:=by rw [hout];exact Nat.le_trans (sumT_len _ _) (by omega)
  refine dr_ 0 [(7,2)] [2] (ke_ rfl (Je_build0F rfl un30 ty68) (dz 2 rfl ?_))
  obtain ⟨ti3,hi3,hz3,hs3,hb3⟩:=in68
  refine ke_ rfl (Je_append0F tmE out rfl rfl rfl (by decide) un30 un30 hi3 hz3 hs3 rfl (by simp only [maxLen];omega) (by rw [hb3];omega)) (dz 4 rfl (DK_nil (za 1 rfl ?_)))
  exact r1_ hq_ rfl (by subst hout;rfl)
end Go.Proofs.YtjdbopkbfkgpdaaGreatDoor
set_option linter.unusedSimpArgs false
set_option linter.unusedVariables false
namespace Go.Proofs.YtjdbopkbfkgpdaaGreatDoor
open Go Go.RowKit Rc
theorem rscale_w (f:Af) (c:Rat) {B n:Nat} [ff:Fm f.ts B n] {D C:Nat} [fc:Br f.c D] [Br c C] (h:B + D + C≤300000000000) (hn:n≤1000):Ctr Tryz.prog 48 [afV f,V.agg (qL (c))] (R.one (afV ⟨scT f.ts c,f.c * c⟩)):=by
 haveI:=fc.mono (show D≤B + D by omega)
 exact rscale f c (B:=B + D) (C:=C) (fun t ht=>(ff.bd t ht).mono (by omega)) (by omega) (Nat.le_trans ff.len hn)
theorem radd7_w (f g:Af) {B n:Nat} [ff:Fm f.ts B n] {C m:Nat} [fg:Fm g.ts C m] {D E:Nat} [fc:Br f.c D] [gc:Br g.c E] (h:B + D + C + E≤100000000000) (hn:n≤400) (hm:m≤400):Ctr Tryz.prog 111 [afV f,afV g] (R.one (afV ⟨sumT f.ts g.ts,f.c + g.c⟩)):=by
 haveI:=fc.mono (show D≤B + D by omega)
 haveI:=gc.mono (show E≤C + E by omega)
 exact radd7 f g (B:=B + D) (C:=C + E) ff.can fg.can (fun t ht=>(ff.bd t ht).mono (by omega)) (fun t ht=>(fg.bd t ht).mono (by omega)) (by omega) (Nat.le_trans ff.len hn) (Nat.le_trans fg.len hm) fg.var
set_option maxRecDepth 10000 in
theorem rsub7 (f g:Af) {B n:Nat} [ff:Fm f.ts B n] {C m:Nat} [fg:Fm g.ts C m] {D E:Nat} [fc:Br f.c D] [gc:Br g.c E] (h:B + D + C + E≤90000000000) (hn:n≤400) (hm:m≤400):Ctr Tryz.prog 73 [afV f,afV g] (R.one (afV ⟨sumT f.ts (scT g.ts ((-1:Int):Rat)),f.c + g.c * ((-1:Int):Rat)⟩)):=by
 refine bd_ Tryz.func73 Tryz.ntmps73 rfl (fun w0 A0=>?_)
 haveI:Br ((-1:Int):Rat) 2:=Br.int2 (by decide) (by decide)
 refine zc 8 rfl (dr_ 0 [(5,2)] [2] (dz 2 rfl (kc_ fn33 rfl (rqof (-1) (by decide) (by decide)) (kc_ fn48 rfl (rscale_w ⟨g.ts,g.c⟩ (((-1):Int):Rat) (by omega) (by omega)) (kc_ fn111 rfl (radd7_w ⟨f.ts,f.c⟩ ⟨scT g.ts (((-1):Int):Rat),g.c * (((-1):Int):Rat)⟩ (by omega) (by omega) (by omega)) (dz 1 rfl (DK_nil (za 1 rfl ?_))))))))
 exact r1_ hq_ rfl rfl
end Go.Proofs.YtjdbopkbfkgpdaaGreatDoor
set_option linter.unusedSimpArgs false
set_option linter.unusedVariables false
namespace Rc
open Go Go.RowKit
def nx (l:List Nat) (k n:Nat):Nat:=match l[k]? with | some x=>x % n | none=>0
def nk (l:List Nat) (k:Nat):Nat:=if k < l.length then k + 1 else k
theorem nx_none {l:List Nat} {k n:Nat} (h:l.length≤k):nx l k n = 0:=by unfold nx;rw [List.getElem?_eq_none h]
theorem nx_some {l:List Nat} {k n x:Nat} (h:l[k]? = some x):nx l k n = x % n:=by unfold nx;rw [h]
theorem nk_none {l:List Nat} {k:Nat} (h:l.length≤k):nk l k = k:=if_neg (by omega)
theorem nk_some {l:List Nat} {k:Nat} (h:k < l.length):nk l k = k + 1:=if_pos h
theorem nk_le {l:List Nat} {k:Nat} (h:k≤l.length):nk l k≤l.length:=by unfold nk;split <;> omega
theorem nx_lt {l:List Nat} {k n:Nat} (h:0 < n):nx l k n < n:=by
 unfold nx
 split
 ·exact Nat.mod_lt _ h
 ·exact h
def nd (j:Nat):Nat:=if j < 2 then 1 else if j = 2 then 2 else 4
theorem nd_get {j:Nat} (h:j < 4):([Leaf.val (.int .i64 1),Leaf.val (.int .i64 1),Leaf.val (.int .i64 2),Leaf.val (.int .i64 4)]:List Leaf)[j]? = some (Leaf.val (.int .i64 ((nd j:Nat):Int))):=by
 match j,h with
 | 0,_=>rfl
 | 1,_=>rfl
 | 2,_=>rfl
 | 3,_=>rfl
theorem nd_pos (j:Nat):1≤nd j∧nd j≤4:=by
 unfold nd
 split
 ·omega
 ·split <;> omega
def numq (l:List Nat) (k:Nat):Rat:=(((((nx l k 9:Nat):Int) - 4:Int)):Rat) / ((((nd (nx l (nk l k) 4):Nat):Int)):Rat)
theorem numq_bd (l:List Nat) (k:Nat):Br (numq l k) 6:=by
 unfold numq
 have h9:nx l k 9 < 9:=nx_lt (by decide)
 have hd:=nd_pos (nx l (nk l k) 4)
 haveI:=Br.int2 (z:=((nx l k 9:Nat):Int) - 4) (by omega) (by omega)
 haveI:=Br.int2 (z:=((nd (nx l (nk l k) 4):Nat):Int)) (by omega) (by omega)
 exact Br.div.mono (by omega)
def fstep (l:List Nat) (s:Af × Nat) (v:Nat):Af × Nat:=
 if 0 < nx l s.2 3 then (⟨sumT s.1.ts (scT [(v,((1:Int):Rat))] (numq l (nk l s.2))),s.1.c + 0 * numq l (nk l s.2)⟩,nk l (nk l (nk l s.2))) else (s.1,nk l s.2)
def formq (l:List Nat) (k n:Nat):Af × Nat:=(List.range n).foldl (fstep l) (⟨[],numq l k⟩,nk l (nk l k))
theorem formq_succ (l:List Nat) (k n:Nat):formq l k (n + 1) = fstep l (formq l k n) n:=by
 unfold formq
 rw [List.range_succ,List.foldl_append]
 rfl
theorem formq_ok (l:List Nat) (k:Nat) (hk:k≤l.length):∀ n,n≤1000000→Fm (formq l k n).1.ts (20 * n) n∧Br (formq l k n).1.c (20 * n + 6)∧(formq l k n).2≤l.length
 | 0,_=>⟨Fm.nil,numq_bd l k,nk_le (nk_le hk)⟩
 | n + 1,hn=>by
  obtain ⟨h1,h2,h3⟩:=formq_ok l k hk n (by omega)
  rw [formq_succ]
  unfold fstep
  split
  ·haveI:=numq_bd l (nk l (formq l k n).2)
   haveI:Br ((1:Int):Rat) 2:=Br.int2 (by decide) (by decide)
   haveI:=Fm.one (v:=n) (c:=((1:Int):Rat)) (by omega) (by decide)
   refine ⟨(Fm.sum (f:=(formq l k n).1.ts)).mono (by omega) (by omega),?_,nk_le (nk_le (nk_le h3))⟩
   exact (Br.add (r:=(formq l k n).1.c)).mono (by omega)
  ·exact ⟨h1.mono (by omega) (by omega),h2.mono (by omega),nk_le h3⟩
end Rc
set_option linter.unusedSimpArgs false
set_option linter.unusedVariables false
namespace Go.Proofs.YtjdbopkbfkgpdaaGreatDoor
open Go Go.RowKit Rc
set_option maxRecDepth 10000 in
theorem next_spec (l:List Nat) (k n:Nat) (hn:0 < n) (hn2:n≤1000) (hl:l.length≤1000000) (hk:k≤l.length) (hb:∀ x∈l,x < 256):CtrP Tryz.prog 76 146 [El.row u8E l,Leaf.val (.int .i64 ((k:Nat):Int))] [El.row u8E l,Leaf.val (.int .i64 ((nk l k:Nat):Int))] [V.one (Leaf.val (.int .i64 ((n:Int))))] (R.one (V.one (Leaf.val (.int .i64 ((nx l k n:Int)))))):=by
 refine CtrP.of_body Tryz.func76 rfl Tryz.ntmps76 (Nat.le_of_ble_eq_true rfl) (fun w0 A0 bk hX=>?_)
 refine qc_ (zc 7 rfl (dr_ 0 [] [] (dz 8 rfl (kq_ rfl (jln rfl) ?_))))
 by_cases hlk:l.length≤k
 ·refine kq_ rfl (geT rfl) (DK_nil (za 7 rfl ?_))
  exact Tc_retP (fun _ _ h=>h) rfl rfl (by rw [nx_none hlk] <;> rfl) rfl (by rw [nk_none hlk]) hX
 ·refine kq_ rfl (geF rfl) (DK_nil (za 5 rfl ?_))
  obtain ⟨x,hx⟩:∃ x,l[k]? = some x:=⟨_,List.getElem?_eq_getElem (by omega)⟩
  have hx2:=hb x (List.mem_of_getElem? hx)
  refine zc 5 rfl (tq_ rfl (jad (k + 1) rfl) (zl 6 rfl (dr_ 0 [] [] (dz 8 rfl (kq_ rfl (jsb k rfl) (kq_ rfl (jix k hx rfl) (kq_ rfl (jli rfl) (kq_ rfl (jci x rfl) (dz 1 rfl ?_)))))))))
  refine kq_ rfl (Jq_rem rfl rfl rfl (by omega) (r:=((x % n:Nat):Int)) (tmodN _ _)) (dz 1 rfl (DK_nil (za 1 rfl ?_)))
  exact Tc_retP (fun _ _ h=>h) rfl rfl (by rw [nx_some hx]) rfl (by rw [nk_some (by omega)] <;> rfl) hX
end Go.Proofs.YtjdbopkbfkgpdaaGreatDoor
set_option linter.unusedSimpArgs false
set_option linter.unusedVariables false
namespace Go.Proofs.YtjdbopkbfkgpdaaGreatDoor
open Go Go.RowKit Rc
set_option maxRecDepth 10000 in
theorem number_spec (l:List Nat) (k:Nat) (hl:l.length≤1000000) (hk:k≤l.length) (hb:∀ x∈l,x < 256):CtrP Tryz.prog 77 146 [El.row u8E l,Leaf.val (.int .i64 ((k:Nat):Int))] [El.row u8E l,Leaf.val (.int .i64 ((nk l (nk l k):Nat):Int))] [] (R.one (V.agg (qL (numq l k)))):=by
 refine CtrP.of_body Tryz.func77 rfl Tryz.ntmps77 (Nat.le_of_ble_eq_true rfl) (fun w0 A0 bk hX=>?_)
 refine qc_ ?_
 have h9:nx l k 9 < 9:=nx_lt (by decide)
 have hd1:=nd_pos (nx l (nk l k) 4)
 refine zc 8 rfl (te_ rfl (Je_call_ptr rfl fn76 rfl rfl rfl rfl (next_spec l k 9 (by first | decide | omega) (by first | decide | omega) hl (by first | assumption | exact nk_le (by assumption)) hb)) (tq_ rfl (Jq_sub rfl rfl rfl (r:=((nx l k 9:Nat):Int) - 4) (w64 (by omega) (by omega) (by omega))) (tq_ rfl (Jq_buildArr rfl tz165 rfl un165 ty3 rfl) (zl 1 rfl ?_))))
 refine te_ rfl (Je_call_ptr rfl fn76 rfl rfl rfl rfl (next_spec l (nk l k) 4 (by first | decide | omega) (by first | decide | omega) hl (by first | assumption | exact nk_le (by assumption)) hb)) (tq_ rfl (Jq_indexA (nx l (nk l k) 4) rfl rfl rfl un165 ty3 (nx_lt (by decide)) (nd_get (nx_lt (by decide)))) ?_)
 refine tc_ fn56 rfl (rqfrac (((nx l k 9:Nat):Int) - 4) ((nd (nx l (nk l k) 4):Nat):Int) (by omega) (by omega) (by omega) (by omega) (by omega)) (zl 14 rfl ?_)
 exact Tc_retP (fun _ _ h=>h) rfl (⟨_,_,rfl,rfl,.inl ⟨ty34,Nat.le_of_ble_eq_true rfl,rfl⟩⟩) rfl rfl rfl hX
end Go.Proofs.YtjdbopkbfkgpdaaGreatDoor
set_option linter.unusedSimpArgs false
set_option linter.unusedVariables false
namespace Go.Proofs.YtjdbopkbfkgpdaaGreatDoor
open Go Go.RowKit Rc
set_option maxRecDepth 10000 in
theorem form_spec (l:List Nat) (k n:Nat) (hn:n≤100) (hl:l.length≤1000000) (hk:k≤l.length) (hb:∀ x∈l,x < 256):CtrP Tryz.prog 71 146 [El.row u8E l,Leaf.val (.int .i64 ((k:Nat):Int))] [El.row u8E l,Leaf.val (.int .i64 (((formq l k n).2:Nat):Int))] [V.one (Leaf.val (.int .i64 ((n:Int))))] (R.one (afV (formq l k n).1)):=by
 refine CtrP.of_body Tryz.func71 rfl Tryz.ntmps71 (Nat.le_of_ble_eq_true rfl) (fun w0 A0 bk hX=>?_)
 refine qc_ (zc 8 rfl (te_ rfl (Je_call_ptr rfl fn77 rfl rfl rfl rfl (number_spec l k hl (by first | assumption | exact nk_le (by assumption)) hb)) (zl 12 rfl ?_)))
 refine lpR_ (fun m Γ H=>∃ (i:Nat) (out:Af) (q:Nat),n - i = m∧Γ = [(0,some (D.ptr 0 0)),(1,some (D.val (.int .i64 ((n:Nat):Int)))),(4,some (D.ptr 1 0)),(5,some (D.ptr 2 0)),(6,some (D.val (.int .i64 ((i:Nat):Int))))]∧H = [hbq 146 [El.row u8E l,Leaf.val (.int .i64 ((q:Nat):Int))] bk,hb_ 36 [El.row tmE ([]),Leaf.val (.bool false),natL ([]),natL ([])],hb_ 36 (afL out)]∧i≤n∧(out,q) = formq l k i) ⟨0,⟨[],numq l k⟩,_,rfl,rfl,rfl,Nat.zero_le _,rfl⟩ rfl ?_
 rintro m Γ H ⟨i,out,q,rfl,rfl,rfl,hi0,hs⟩
 refine zc 5 rfl ?_
 by_cases hi:i < n
 ·refine tq_ rfl (ltT rfl) (zl 8 rfl ?_)
  have hok:=formq_ok l k hk i (by omega)
  rw [← hs] at hok
  obtain ⟨hfm,hfc,hq⟩:=hok
  haveI:Fm out.ts (20 * i) i:=hfm
  haveI:Br out.c (20 * i + 6):=hfc
  have hk:q≤l.length:=hq
  haveI:=numq_bd l (nk l q)
  haveI:Br ((1:Int):Rat) 2:=Br.int2 (by decide) (by decide)
  haveI:=Fm.one (v:=i) (c:=((1:Int):Rat)) (by omega) (by decide)
  refine zc 2 rfl (te_ rfl (Je_call_ptr rfl fn76 rfl rfl rfl rfl (next_spec l q 3 (by first | decide | omega) (by first | decide | omega) hl (by first | assumption | exact nk_le (by assumption)) hb)) ?_)
  by_cases hx:0 < nx l q 3
  ·refine tq_ rfl (gtT rfl) (zl 3 rfl (dr_ 0 [(4,0),(7,2)] [0,2] (kp_ [0] rfl (Jq_load_agg rfl rfl rfl (by decide) ty36 (by decide) (Nat.le_of_ble_eq_true rfl) rfl) (dz 1 rfl (kc_ fn112 rfl (rvar i (by omega)) (dz 1 rfl (ki_ 0 rfl (Jd_call_ptr rfl fn77 rfl rfl rfl rfl (number_spec l (nk l q) hl (by first | assumption | exact nk_le (by assumption)) hb)) ?_)))))))
   refine kc_ fn48 rfl (rscale_w ⟨[(i,((1:Int):Rat))],0⟩ (numq l (nk l q)) (by omega) (by omega)) (kc_ fn111 rfl (radd7_w ⟨out.ts,out.c⟩ ⟨scT ([(i,((1:Int):Rat))]) (numq l (nk l q)),0 * (numq l (nk l q))⟩ (by omega) (by omega) (by omega)) (dz 1 rfl (DK_nil (za 4 rfl (tq_ rfl (jad (i + 1) rfl) (zl 2 rfl ?_))))))
   exact nx_ ⟨i + 1,⟨_,_⟩,_,rfl,rfl,rfl,by omega,by rw [formq_succ,← hs];exact (if_pos hx).symm⟩ rfl
  ·refine tq_ rfl (gtF rfl) (zl 8 rfl (tq_ rfl (jad (i + 1) rfl) (zl 2 rfl ?_)))
   exact nx_ ⟨i + 1,_,_,rfl,rfl,rfl,by omega,by rw [formq_succ,← hs];exact (if_neg hx).symm⟩ rfl
 ·refine tq_ rfl (ltF rfl) (zl 9 rfl ?_)
  have hie:i = n:=by omega
  subst hie
  refine zc 5 rfl ?_
  exact Tc_retP (fun _ _ h=>h) rfl (⟨_,_,rfl,rfl,.inl ⟨ty36,Nat.le_of_ble_eq_true rfl,rfl⟩⟩) (by rw [← hs] <;> rfl) rfl (by rw [← hs]) hX
end Go.Proofs.YtjdbopkbfkgpdaaGreatDoor
set_option linter.unusedSimpArgs false
set_option linter.unusedVariables false
namespace Rc
open Go Go.RowKit
structure Gr where
 inp:Nat
 us:List Af
 os:List Af
structure Rg where
 lo:List Rat
 hi:List Rat
 rows:List Af
structure Qu where
 g:Gr
 r:Rg
 goal:Af
structure Dc where
 kind:Nat
 idx:Nat
 pt:Rat
structure Rw where
 kind:Int
 idx:Int
 lo:Int
 hi:Int
theorem Rw.ext' {a b:Rw} (h1:a.kind = b.kind) (h2:a.idx = b.idx) (h3:a.lo = b.lo) (h4:a.hi = b.hi):a = b:=by
 cases a;cases b;simp at *;exact ⟨h1,h2,h3,h4⟩
instance : DecidableEq Rw := fun a b =>
 if h:a.kind = b.kind∧a.idx = b.idx∧a.lo = b.lo∧a.hi = b.hi then .isTrue (Rw.ext' h.1 h.2.1 h.2.2.1 h.2.2.2)
 else .isFalse (fun e=>h (by subst e;exact ⟨rfl,rfl,rfl,rfl⟩))
structure Mu where
 r:Rw
 c:Qr
structure Lm where
 unit:Int
 up:Bool
 v:Qr
 pf:List Mu
structure Sc where
 q:Qu
 path:List Dc
 lems:List Lm
def ratE:El Rat:=⟨fun x=>qL x,3,fun _=>rfl,fun _=>rfl⟩
def muE:El Mu:=⟨fun m=>[Leaf.val (.int .i64 m.r.kind),Leaf.val (.int .i64 m.r.idx),Leaf.val (.int .i64 m.r.lo),Leaf.val (.int .i64 m.r.hi),Leaf.val (.bool m.c.neg),natL m.c.n,natL m.c.d],7,fun _=>rfl,fun _=>rfl⟩
def lmE:El Lm:=⟨fun m=>[Leaf.val (.int .i64 m.unit),Leaf.val (.bool m.up),Leaf.val (.bool m.v.neg),natL m.v.n,natL m.v.d,muE.row m.pf],6,fun _=>rfl,fun _=>rfl⟩
def dcE:El Dc:=⟨fun d=>[Leaf.val (.int .i64 (d.kind:Int)),Leaf.val (.int .i64 (d.idx:Int)),Leaf.val (.bool (cneg d.pt)),natL (limbs (cnum d.pt)),natL (limbs (cden d.pt))],5,fun _=>rfl,fun _=>rfl⟩
@[reducible] def grV (g:Gr):V:=V.agg [Leaf.val (.int .i64 (g.inp:Int)),afE.row g.us,afE.row g.os]
@[reducible] def rgV (r:Rg):V:=V.agg [ratE.row r.lo,ratE.row r.hi,afE.row r.rows]
@[reducible] def quV (q:Qu):V:=V.agg [Leaf.val (.int .i64 (q.g.inp:Int)),afE.row q.g.us,afE.row q.g.os,ratE.row q.r.lo,ratE.row q.r.hi,afE.row q.r.rows,tmE.row q.goal.ts,Leaf.val (.bool (cneg q.goal.c)),natL (limbs (cnum q.goal.c)),natL (limbs (cden q.goal.c))]
@[reducible] def scV (s:Sc):V:=V.agg [Leaf.val (.int .i64 (s.q.g.inp:Int)),afE.row s.q.g.us,afE.row s.q.g.os,ratE.row s.q.r.lo,ratE.row s.q.r.hi,afE.row s.q.r.rows,tmE.row s.q.goal.ts,Leaf.val (.bool (cneg s.q.goal.c)),natL (limbs (cnum s.q.goal.c)),natL (limbs (cden s.q.goal.c)),dcE.row s.path,lmE.row s.lems]
@[reducible] def quL (q:Qu):List Leaf:=[Leaf.val (.int .i64 (q.g.inp:Int)),afE.row q.g.us,afE.row q.g.os,ratE.row q.r.lo,ratE.row q.r.hi,afE.row q.r.rows,tmE.row q.goal.ts,Leaf.val (.bool (cneg q.goal.c)),natL (limbs (cnum q.goal.c)),natL (limbs (cden q.goal.c))]
@[reducible] def scL (s:Sc):List Leaf:=[Leaf.val (.int .i64 (s.q.g.inp:Int)),afE.row s.q.g.us,afE.row s.q.g.os,ratE.row s.q.r.lo,ratE.row s.q.r.hi,afE.row s.q.r.rows,tmE.row s.q.goal.ts,Leaf.val (.bool (cneg s.q.goal.c)),natL (limbs (cnum s.q.goal.c)),natL (limbs (cden s.q.goal.c)),dcE.row s.path,lmE.row s.lems]
@[reducible] def scZ:List Leaf:=[Leaf.val (.int .i64 0),afE.row [],afE.row [],ratE.row [],ratE.row [],afE.row [],tmE.row [],Leaf.val (.bool false),natL [],natL [],dcE.row [],lmE.row []]
@[reducible] def rwV (r:Rw):V:=V.agg [Leaf.val (.int .i64 r.kind),Leaf.val (.int .i64 r.idx),Leaf.val (.int .i64 r.lo),Leaf.val (.int .i64 r.hi)]
@[reducible] def dcV (d:Dc):V:=V.agg [Leaf.val (.int .i64 (d.kind:Int)),Leaf.val (.int .i64 (d.idx:Int)),Leaf.val (.bool (cneg d.pt)),natL (limbs (cnum d.pt)),natL (limbs (cden d.pt))]
@[reducible] def lmV (m:Lm):V:=V.agg [Leaf.val (.int .i64 m.unit),Leaf.val (.bool m.up),Leaf.val (.bool m.v.neg),natL m.v.n,natL m.v.d,muE.row m.pf]
class Hb (r:Rat) (n:outParam Nat):Prop where
 num:r.num.natAbs < 2 ^ n
 den:r.den≤2 ^ n
theorem Hb.mono {r:Rat} {n m:Nat} (h:Hb r n) (hn:n≤m):Hb r m:=
 ⟨Nat.lt_of_lt_of_le h.num (Nat.pow_le_pow_right (by decide) hn),Nat.le_trans h.den (Nat.pow_le_pow_right (by decide) hn)⟩
theorem pow_limb (n:Nat):2 ^ n≤4294967296 ^ n:=Nat.pow_le_pow_left (by decide) n
theorem Hb.br {r:Rat} {n:Nat} (h:Hb r n):Br r (n + 1):=by
 have h1:=pow_limb n
 have h2:4294967296 ^ n < 4294967296 ^ (n + 1):=Nat.pow_lt_pow_right (by decide) (by omega)
 have h3:=h.num
 have h4:=h.den
 exact Br.of (by omega) (by omega)
theorem Hb.rq {b:Bool} {n d k:Nat} (h1:n < 2 ^ k) (h2:dn d≤2 ^ k):Hb (rq b n d) k:=
 ⟨by have:=cnum_rq b n d;unfold cnum at this;rw [this];exact Nat.lt_of_le_of_lt (Nat.div_le_self _ _) h1,by rw [den_rq];exact Nat.le_trans (Nat.div_le_self _ _) h2⟩
instance Hb.mul {r s:Rat} {i j:Nat} [hr:Hb r i] [hs:Hb s j]:Hb (r * s) (i + j):=by
 rw [← rq_of r,← rq_of s,← rq_mul,dn_of (Nat.ne_of_gt r.den_pos),dn_of (Nat.ne_of_gt s.den_pos)]
 refine Hb.rq ?_ ?_
 ·rw [Nat.pow_add];exact Nat.mul_lt_mul'' hr.num hs.num
 ·rw [dn_of (Nat.mul_ne_zero (Nat.ne_of_gt r.den_pos) (Nat.ne_of_gt s.den_pos)),Nat.pow_add];exact Nat.mul_le_mul hr.den hs.den
theorem natAbs_sgn2 (a b:Bool) (m n:Nat):(sgn a m + sgn b n).natAbs≤m + n:=by cases a <;> cases b <;> simp [sgn] <;> omega
instance Hb.add {r s:Rat} {i j:Nat} [hr:Hb r i] [hs:Hb s j]:Hb (r + s) (i + j + 1):=by
 rw [← rq_of r,← rq_of s,← rq_add _ _ _ _ _ _ _ rfl,dn_of (Nat.ne_of_gt r.den_pos),dn_of (Nat.ne_of_gt s.den_pos)]
 refine Hb.rq ?_ ?_
 ·refine Nat.lt_of_le_of_lt (natAbs_sgn2 _ _ _ _) ?_
  have h1:cnum r * s.den < 2 ^ (i + j):=by
   rw [Nat.pow_add];exact Nat.mul_lt_mul_of_lt_of_le hr.num hs.den (Nat.pow_pos (by decide))
  have h2:cnum s * r.den < 2 ^ (i + j):=by
   rw [Nat.pow_add,Nat.mul_comm (2 ^ i)];exact Nat.mul_lt_mul_of_lt_of_le hs.num hr.den (Nat.pow_pos (by decide))
  rw [Nat.pow_succ];omega
 ·rw [dn_of (Nat.mul_ne_zero (Nat.ne_of_gt r.den_pos) (Nat.ne_of_gt s.den_pos))]
  refine Nat.le_trans (?_:_≤2 ^ (i + j)) (Nat.pow_le_pow_right (by decide) (by omega))
  rw [Nat.pow_add];exact Nat.mul_le_mul hr.den hs.den
instance Hb.neg {r:Rat} {i:Nat} [hr:Hb r i]:Hb (-r) i:=⟨by rw [show (-r).num = -r.num from rfl,Int.natAbs_neg];exact hr.num,hr.den⟩
instance Hb.sub {r s:Rat} {i j:Nat} [hr:Hb r i] [hs:Hb s j]:Hb (r - s) (i + j + 1):=by
 rw [Rat.sub_eq_add_neg];exact Hb.add
instance Hb.abs {r:Rat} {i:Nat} [hr:Hb r i]:Hb (Rc.rq false (cnum r) (cden r)) i:=
 Hb.rq hr.num (by rw [dn_cden];exact hr.den)
instance Br.abs {r:Rat} {i:Nat} [hr:Br r i]:Br (Rc.rq false (cnum r) (cden r)) (i + 1):=by
 have h1:=hr.num
 have h2:=hr.den
 have h3:4294967296 ^ i < 4294967296 ^ (i + 1):=Nat.pow_lt_pow_right (by decide) (by omega)
 refine Br.rq (by omega) ?_
 unfold cden;split <;> omega
theorem Hb.zero:Hb 0 0:=⟨by decide,by decide⟩
theorem Hb.int {z:Int} {n:Nat} (h:z.natAbs < 2 ^ n):Hb (z:Rat) n:=⟨by rw [Rat.num_intCast];exact h,by rw [Rat.den_intCast];exact Nat.one_le_two_pow⟩
theorem rq_intz (z:Int):rq (decide (z < 0)) z.natAbs 1 = (z:Rat):=by
 have h:=rq_div (decide (z < 0)) false z.natAbs 1 (by omega)
 rw [sgn_natAbs] at h
 have h1:(z:Rat) / ((1:Int):Rat) = z:=by grind
 rw [← h1]
 simpa [sgn] using h
theorem abs_nonneg (r:Rat):0≤rq false (cnum r) (cden r):=by
 have h:=rq_neg_iff false (cnum r) (cden r)
 have h2:¬ sgn false (cnum r) < 0:=by simp [sgn]
 exact Rat.not_lt.1 (fun e=>h2 (h.1 e))
theorem abs_eq (r:Rat):rq false (cnum r) (cden r) = if r < 0 then -r else r:=by
 have h:=rq_canon r
 split
 ·rename_i hr
  have hn:cneg r = true:=by unfold cneg;exact decide_eq_true (Int.not_le.1 (fun e=>Rat.not_le.2 hr (Rat.num_nonneg.1 e)))
  rw [hn] at h
  rw [show (false:Bool) = !true from rfl,rq_neg,h]
 ·rename_i hr
  have hn:cneg r = false:=by unfold cneg;exact decide_eq_false (Int.not_lt.2 (Rat.num_nonneg.2 (Rat.not_lt.1 hr)))
  rw [hn] at h;exact h
instance numq_hb (l:List Nat) (k:Nat):Hb (numq l k) 3:=by
 unfold numq
 have h9:nx l k 9 < 9:=nx_lt (by decide)
 have hd:=nd_pos (nx l (nk l k) 4)
 have e1:(((((nx l k 9:Nat):Int) - 4:Int)):Rat) / ((((nd (nx l (nk l k) 4):Nat):Int)):Rat) = rq (decide (((nx l k 9:Nat):Int) - 4 < 0)) (((nx l k 9:Nat):Int) - 4).natAbs (nd (nx l (nk l k) 4)):=by
  have h:=rq_div (decide (((nx l k 9:Nat):Int) - 4 < 0)) false (((nx l k 9:Nat):Int) - 4).natAbs (nd (nx l (nk l k) 4)) (by omega)
  rw [sgn_natAbs] at h
  simpa [sgn] using h.symm
 rw [e1]
 exact Hb.rq (by omega) (by rw [dn_of (by omega)];omega)
structure FOk (b n:Nat) (f:Af):Prop where
 can:CanT f.ts
 bd:∀ t∈f.ts,Hb t.2 b
 cb:Hb f.c b
 var:∀ t∈f.ts,t.1 < n
theorem FOk.mono {b c n m:Nat} {f:Af} (h:FOk b n f) (h1:b≤c) (h2:n≤m):FOk c m f:=
 ⟨h.can,fun t ht=>(h.bd t ht).mono h1,h.cb.mono h1,fun t ht=>Nat.lt_of_lt_of_le (h.var t ht) h2⟩
theorem canT_len:∀ {ts:List Tm} {a n:Nat},CanT ts→(∀ t∈ts,a≤t.1∧t.1 < n)→ts.length≤n - a
 | [],a,n,_,_=>Nat.zero_le _
 | (w,d) :: ts,a,n,h,hv=>by
  obtain ⟨h1,h2,h3⟩:=h
  have h4:=hv (w,d) (by simp)
  have:=canT_len (a:=w + 1) (n:=n) h3 (fun t ht=>⟨h2 t ht,(hv t (by simp [ht])).2⟩)
  simp only [List.length_cons]
  simp at h4
  omega
theorem FOk.len {b n:Nat} {f:Af} (h:FOk b n f):f.ts.length≤n:=by
 have:=canT_len (a:=0) h.can (fun t ht=>⟨Nat.zero_le _,h.var t ht⟩)
 omega
theorem FOk.fm {b n:Nat} {f:Af} (h:FOk b n f) (hn:n≤1000000):Fm f.ts (b + 1) n:=
 ⟨h.can,fun t ht=>(h.bd t ht).br,h.len,fun t ht=>Nat.lt_of_lt_of_le (h.var t ht) hn⟩
theorem FOk.br {b n:Nat} {f:Af} (h:FOk b n f):Br f.c (b + 1):=h.cb.br
theorem addT_end {ts:List Tm} {v:Nat} {c:Rat} (h:∀ t∈ts,t.1 < v):addT ts v c = ts ++ (if c = 0 then [] else [(v,c)]):=by
 have:=addT_lt (a:=ts) (b:=[]) (v:=v) (c:=c) h
 rw [List.append_nil] at this
 exact this
theorem sum1 {ts:List Tm} {v:Nat} {c:Rat} (h:∀ t∈ts,t.1 < v):sumT ts (scT [(v,((1:Int):Rat))] c) = ts ++ (if c = 0 then [] else [(v,c)]):=by
 have e:scT [(v,((1:Int):Rat))] c = if c = 0 then [] else [(v,c)]:=by
  show nz [] (v,((1:Int):Rat) * c) = _
  have h1:((1:Int):Rat) * c = c:=by simp [Rat.one_mul]
  rw [h1]
  by_cases h0:c = 0
  ·rw [nz_pos h0,if_pos h0]
  ·rw [nz_neg h0,if_neg h0];rfl
 rw [e]
 by_cases h0:c = 0
 ·rw [if_pos h0,List.append_nil];rfl
 ·rw [if_neg h0]
  show addT ts v c = _
  rw [addT_end h,if_neg h0]
theorem canT_snoc:∀ {ts:List Tm} {v:Nat} {c:Rat},CanT ts→(∀ t∈ts,t.1 < v)→c≠0→CanT (ts ++ [(v,c)])
 | [],v,c,_,_,h=>⟨h,fun t ht=>by simp at ht,trivial⟩
 | (w,d) :: ts,v,c,h,hv,hc=>by
  refine ⟨h.1,fun t ht=>?_,canT_snoc h.2.2 (fun t ht=>hv t (by simp [ht])) hc⟩
  rcases List.mem_append.1 ht with ht | ht
  ·exact h.2.1 t ht
  ·simp at ht;subst ht;exact hv (w,d) (by simp)
theorem formq_fok (l:List Nat) (k:Nat):∀ n,FOk 3 n (formq l k n).1
 | 0=>⟨trivial,fun t ht=>by simp [formq] at ht,numq_hb l k,fun t ht=>by simp [formq] at ht⟩
 | n + 1=>by
  have h:=formq_fok l k n
  rw [formq_succ]
  unfold fstep
  split
  ·refine ⟨?_,?_,?_,?_⟩ <;> simp only [] <;> try rw [sum1 h.var]
   ·split
    ·rw [List.append_nil];exact h.can
    ·rename_i h0;exact canT_snoc h.can h.var h0
   ·intro t ht
    rcases List.mem_append.1 ht with ht | ht
    ·exact h.bd t ht
    ·split at ht
     ·simp at ht
     ·simp at ht;subst ht;exact numq_hb _ _
   ·rw [Rat.zero_mul,Rat.add_zero];exact h.cb
   ·intro t ht
    rcases List.mem_append.1 ht with ht | ht
    ·have:=h.var t ht;omega
    ·split at ht
     ·simp at ht
     ·simp at ht;subst ht;simp
  ·exact h.mono (Nat.le_refl _) (by omega)
theorem formq_le {l:List Nat} {k n:Nat} (hk:k≤l.length) (hn:n≤1000000):(formq l k n).2≤l.length:=(formq_ok l k hk n hn).2.2
def formsq (l:List Nat) (f:Nat→Nat) (k n:Nat):List Af × Nat:=(List.range n).foldl (fun s j=>(s.1 ++ [(formq l s.2 (f j)).1],(formq l s.2 (f j)).2)) ([],k)
theorem formsq_succ (l:List Nat) (f:Nat→Nat) (k n:Nat):formsq l f k (n + 1) = ((formsq l f k n).1 ++ [(formq l (formsq l f k n).2 (f n)).1],(formq l (formsq l f k n).2 (f n)).2):=by
 unfold formsq;rw [List.range_succ,List.foldl_append];rfl
theorem formsq_len (l:List Nat) (f:Nat→Nat) (k:Nat):∀ n,(formsq l f k n).1.length = n
 | 0=>rfl
 | n + 1=>by rw [formsq_succ];simp [formsq_len l f k n]
theorem formsq_le {l:List Nat} {f:Nat→Nat} {k:Nat} (hk:k≤l.length) (hf:∀ j,f j≤1000000 ∨ True) (hf2:∀ j,j < 100→f j≤1000000):∀ n,n≤100→(formsq l f k n).2≤l.length
 | 0,_=>hk
 | n + 1,hn=>by rw [formsq_succ];exact formq_le (formsq_le hk hf hf2 n (by omega)) (hf2 n (by omega))
theorem formsq_get (l:List Nat) (f:Nat→Nat) (k:Nat):∀ (n j:Nat) (x:Af),(formsq l f k n).1[j]? = some x→FOk 3 (f j) x
 | 0,j,x,h=>by simp [formsq] at h
 | n + 1,j,x,h=>by
  rw [formsq_succ] at h
  by_cases hj:j < (formsq l f k n).1.length
  ·rw [List.getElem?_append_left hj] at h;exact formsq_get l f k n j x h
  ·rw [List.getElem?_append_right (by omega),formsq_len] at h
   have h1:j - n = 0:=by have:=(List.getElem?_eq_some_iff.1 h).1;simp at this;omega
   rw [formsq_len] at hj
   have h2:j = n:=by omega
   rw [h1] at h
   simp at h
   rw [← h,h2];exact formq_fok _ _ _
theorem mem_get {α:Type} {l:List α} {x:α} (h:x∈l):∃ j:Nat,l[j]? = some x:=List.getElem?_of_mem h
def graphq (l:List Nat) (k:Nat):Gr × Nat:=
 (⟨1 + nx l k 3,(formsq l (fun j=>1 + nx l k 3 + j) (nk l (nk l (nk l k))) (nx l (nk l k) 5)).1,
  (formsq l (fun _=>1 + nx l k 3 + nx l (nk l k) 5) (formsq l (fun j=>1 + nx l k 3 + j) (nk l (nk l (nk l k))) (nx l (nk l k) 5)).2 (1 + nx l (nk l (nk l k)) 3)).1⟩,
  (formsq l (fun _=>1 + nx l k 3 + nx l (nk l k) 5) (formsq l (fun j=>1 + nx l k 3 + j) (nk l (nk l (nk l k))) (nx l (nk l k) 5)).2 (1 + nx l (nk l (nk l k)) 3)).2)
def bstep (l:List Nat) (s:(List Rat × List Rat) × Nat):(List Rat × List Rat) × Nat:=
 ((s.1.1 ++ [numq l s.2],s.1.2 ++ [numq l s.2 + rq false (cnum (numq l (nk l (nk l s.2)))) (cden (numq l (nk l (nk l s.2))))]),nk l (nk l (nk l (nk l s.2))))
def boxq (l:List Nat) (k n:Nat):(List Rat × List Rat) × Nat:=(List.range n).foldl (fun s _=>bstep l s) (([],[]),k)
theorem boxq_succ (l:List Nat) (k n:Nat):boxq l k (n + 1) = bstep l (boxq l k n):=by
 unfold boxq;rw [List.range_succ,List.foldl_append];rfl
theorem boxq_len (l:List Nat) (k:Nat):∀ n,(boxq l k n).1.1.length = n∧(boxq l k n).1.2.length = n
 | 0=>⟨rfl,rfl⟩
 | n + 1=>by rw [boxq_succ];unfold bstep;simp [boxq_len l k n]
theorem boxq_le {l:List Nat} {k:Nat} (hk:k≤l.length):∀ n,(boxq l k n).2≤l.length
 | 0=>hk
 | n + 1=>by rw [boxq_succ];exact nk_le (nk_le (nk_le (nk_le (boxq_le hk n))))
theorem boxq_get (l:List Nat) (k:Nat):∀ (n j:Nat) (x y:Rat),(boxq l k n).1.1[j]? = some x→(boxq l k n).1.2[j]? = some y→Hb x 3∧Hb y 7∧x≤y
 | 0,j,x,y,h,_=>by simp [boxq] at h
 | n + 1,j,x,y,h,h'=>by
  rw [boxq_succ] at h h'
  unfold bstep at h h'
  simp only [] at h h'
  obtain ⟨e1,e2⟩:=boxq_len l k n
  by_cases hj:j < n
  ·rw [List.getElem?_append_left (by omega)] at h h'
   exact boxq_get l k n j x y h h'
  ·rw [List.getElem?_append_right (by omega)] at h h'
   have h1:j - n = 0:=by have:=(List.getElem?_eq_some_iff.1 h).1;simp at this;omega
   rw [e1,h1] at h
   rw [e2,h1] at h'
   simp at h h'
   subst h;subst h'
   refine ⟨numq_hb _ _,Hb.add.mono (by omega),?_⟩
   have:=abs_nonneg (numq l (nk l (nk l (boxq l k n).2)))
   grind
def regq (l:List Nat) (k inp:Nat):Rg × Nat:=
 (⟨(boxq l k inp).1.1,(boxq l k inp).1.2,(formsq l (fun _=>inp) (nk l (boxq l k inp).2) (nx l (boxq l k inp).2 3)).1⟩,
  (formsq l (fun _=>inp) (nk l (boxq l k inp).2) (nx l (boxq l k inp).2 3)).2)
def queryq (l:List Nat) (k:Nat):Qu × Nat:=
 (⟨(graphq l k).1,(regq l (graphq l k).2 (graphq l k).1.inp).1,(formq l (regq l (graphq l k).2 (graphq l k).1.inp).2 ((graphq l k).1.inp + (graphq l k).1.us.length)).1⟩,
  (formq l (regq l (graphq l k).2 (graphq l k).1.inp).2 ((graphq l k).1.inp + (graphq l k).1.us.length)).2)
structure GOk (g:Gr):Prop where
 i1:1≤g.inp
 i3:g.inp≤3
 u4:g.us.length≤4
 o1:1≤g.os.length
 o3:g.os.length≤3
 us:∀ (j:Nat) (x:Af),g.us[j]? = some x→FOk 3 (g.inp + j) x
 os:∀ x∈g.os,FOk 3 (g.inp + g.us.length) x
structure ROk (n:Nat) (r:Rg):Prop where
 lo:r.lo.length = n
 hi:r.hi.length = n
 r2:r.rows.length≤2
 bd:∀ (j:Nat) (x y:Rat),r.lo[j]? = some x→r.hi[j]? = some y→Hb x 3∧Hb y 7∧x≤y
 rows:∀ x∈r.rows,FOk 3 n x
structure QOk (q:Qu):Prop where
 g:GOk q.g
 r:ROk q.g.inp q.r
 goal:FOk 3 (q.g.inp + q.g.us.length) q.goal
theorem graphq_ok (l:List Nat) (k:Nat):GOk (graphq l k).1:=by
 have h1:nx l k 3 < 3:=nx_lt (by decide)
 have h2:nx l (nk l k) 5 < 5:=nx_lt (by decide)
 have h3:nx l (nk l (nk l k)) 3 < 3:=nx_lt (by decide)
 refine ⟨?_,?_,?_,?_,?_,fun j x h=>formsq_get _ _ _ _ _ _ h,fun x hx=>?_⟩
 ·show 1≤1 + nx l k 3;omega
 ·show 1 + nx l k 3≤3;omega
 ·show (formsq _ _ _ _).1.length≤4;rw [formsq_len];omega
 ·show 1≤(formsq _ _ _ _).1.length;rw [formsq_len];omega
 ·show (formsq _ _ _ _).1.length≤3;rw [formsq_len];omega
 ·obtain ⟨j,hj⟩:=mem_get hx
  have:=formsq_get _ _ _ _ _ _ hj
  show FOk 3 (1 + nx l k 3 + (formsq _ _ _ _).1.length) x
  rw [formsq_len];exact this
theorem graphq_le {l:List Nat} {k:Nat} (hk:k≤l.length):(graphq l k).2≤l.length:=by
 have h1:nx l k 3 < 3:=nx_lt (by decide)
 have h2:nx l (nk l k) 5 < 5:=nx_lt (by decide)
 have h3:nx l (nk l (nk l k)) 3 < 3:=nx_lt (by decide)
 exact formsq_le (formsq_le (nk_le (nk_le (nk_le hk))) (fun _=>.inr trivial) (fun j hj=>by omega) _ (by omega)) (fun _=>.inr trivial) (fun j hj=>by omega) _ (by omega)
theorem regq_ok (l:List Nat) (k n:Nat):ROk n (regq l k n).1:=by
 have h3:nx l (boxq l k n).2 3 < 3:=nx_lt (by decide)
 refine ⟨(boxq_len l k n).1,(boxq_len l k n).2,?_,boxq_get l k n,fun x hx=>?_⟩
 ·show (formsq _ _ _ _).1.length≤2;rw [formsq_len];omega
 ·obtain ⟨j,hj⟩:=mem_get hx
  exact formsq_get _ _ _ _ _ _ hj
theorem regq_le {l:List Nat} {k n:Nat} (hk:k≤l.length) (hn:n≤1000):(regq l k n).2≤l.length:=by
 have h3:nx l (boxq l k n).2 3 < 3:=nx_lt (by decide)
 exact formsq_le (nk_le (boxq_le hk n)) (fun _=>.inr trivial) (fun j hj=>by omega) _ (by omega)
theorem queryq_ok (l:List Nat) (k:Nat):QOk (queryq l k).1:=⟨graphq_ok l k,regq_ok l _ _,formq_fok l _ _⟩
theorem queryq_le {l:List Nat} {k:Nat} (hk:k≤l.length):(queryq l k).2≤l.length:=by
 have h:=graphq_ok l k
 exact formq_le (regq_le (graphq_le hk) (by have:=h.i3;omega)) (by have:=h.i3;have:=h.u4;omega)
end Rc

set_option linter.unusedSimpArgs false
set_option linter.unusedVariables false
namespace Go.Proofs.YtjdbopkbfkgpdaaGreatDoor
open Go Go.RowKit Rc
set_option maxRecDepth 10000 in
theorem graph_spec (l:List Nat) (k:Nat) (hl:l.length≤1000000) (hk:k≤l.length) (hb:∀ x∈l,x < 256):CtrP Tryz.prog 96 146 [El.row u8E l,Leaf.val (.int .i64 ((k:Nat):Int))] [El.row u8E l,Leaf.val (.int .i64 (((graphq l k).2:Nat):Int))] [] (R.one (grV (graphq l k).1)):=by
 refine CtrP.of_body Tryz.func96 rfl Tryz.ntmps96 (Nat.le_of_ble_eq_true rfl) (fun w0 A0 bk hX=>?_)
 refine qc_ ?_
 have h1:nx l k 3 < 3:=nx_lt (by decide)
 have h2:nx l (nk l k) 5 < 5:=nx_lt (by decide)
 have h3:nx l (nk l (nk l k)) 3 < 3:=nx_lt (by decide)
 have hk1:=nk_le hk
 have hk2:=nk_le hk1
 have hk3:=nk_le hk2
 refine zc 2 rfl (te_ rfl (Je_alloc (n:=1) rfl tx26 rfl) (zl 5 rfl (te_ rfl (Je_call_ptr rfl fn76 rfl rfl rfl rfl (next_spec l k 3 (by first | decide | omega) (by first | decide | omega) hl (by first | assumption | exact nk_le (by assumption)) hb)) (tq_ rfl (jad (1 + nx l k 3) rfl) (tq_ rfl (Jq_build rfl tx26 rfl pl26 rfl) (te_ rfl (Je_alloc (n:=2) rfl tx26 rfl) (zl 6 rfl ?_)))))))
 refine te_ rfl (Je_call_ptr rfl fn76 rfl rfl rfl rfl (next_spec l (nk l k) 5 (by first | decide | omega) (by first | decide | omega) hl (by first | assumption | exact nk_le (by assumption)) hb)) (zl 1 rfl ?_)
 refine te_ rfl (Je_call_ptr rfl fn76 rfl rfl rfl rfl (next_spec l (nk l (nk l k)) 3 (by first | decide | omega) (by first | decide | omega) hl (by first | assumption | exact nk_le (by assumption)) hb)) (tq_ rfl (jad (1 + nx l (nk l (nk l k)) 3) rfl) (zl 6 rfl ?_))
 refine Tc_growB 2 36 4 (ls':=[Leaf.val (.int .i64 ((1 + nx l k 3:Nat):Int)),Leaf.own 3 0,Leaf.val (.slice none 0 0)]) rfl rfl rfl ⟨.inl rfl,.inr ⟨rfl,rfl⟩,.inl rfl,trivial⟩ (zc 5 rfl ?_)
 refine lpR_ (fun m Γ H=>∃ (i:Nat) (n:Nat) (out:List Af) (q:Nat),(nx l (nk l k) 5) - i = m∧Γ = [(0,some (D.ptr 0 0)),(2,some (D.ptr 1 0)),(3,some (D.ptr 2 0)),(4,some (D.val (.int .i64 ((nx l (nk l k) 5:Nat):Int)))),(5,some (D.val (.int .i64 ((1 + nx l (nk l (nk l k)) 3:Nat):Int)))),(6,some (D.val (.int .i64 ((i:Nat):Int))))]∧H = [hbq 146 [El.row u8E l,Leaf.val (.int .i64 ((q:Nat):Int))] bk,hb_ 26 [Leaf.val (.int .i64 0),Leaf.val (.slice none 0 0),Leaf.val (.slice none 0 0)],hb_ 26 [Leaf.val (.int .i64 (((1 + nx l k 3):Nat):Int)),Leaf.own 3 n,Leaf.val (.slice none 0 0)],hgr 36 4 afE out n]∧i≤(nx l (nk l k) 5)∧(out,q) = formsq l (fun j=>1 + nx l k 3 + j) (nk l (nk l (nk l k))) i) ⟨0,0,[],_,rfl,rfl,rfl,Nat.zero_le _,rfl⟩ rfl ?_
 rintro m Γ H ⟨i,n,out,q,rfl,rfl,rfl,hi0,hs⟩
 refine zc 5 rfl ?_
 by_cases hi:i < (nx l (nk l k) 5)
 ·refine tq_ rfl (ltT rfl) (zl 7 rfl ?_)
  have hol:=congrArg (fun p=>p.1.length) hs
  simp only [formsq_len] at hol
  have hq:q≤l.length:=by have:=formsq_le (l:=l) (f:=(fun j=>1 + nx l k 3 + j)) (k:=(nk l (nk l (nk l k)))) (nk_le (nk_le (nk_le hk))) (fun _=>.inr trivial) (fun j hj=>by omega) i (by omega);rw [← hs] at this;exact this
  refine dr_ 0 [(7,0),(9,3),(11,2)] [0,3,2] (dz 1 rfl (kp_ [0,3] rfl (jld rfl) (dz 2 rfl (kp_ [0,3] rfl (jld rfl) (dz 1 rfl (kq_ rfl (jad (1 + nx l k 3 + i) rfl) (ki_ 0 rfl (Jd_call_ptr rfl fn71 rfl rfl rfl rfl (form_spec l q (1 + nx l k 3 + i) (by omega) hl (by assumption) hb)) ?_)))))))
  refine ke_ rfl (fun _=>Je_buildSlice rfl un24 ty36 tz36 rfl (by decide) (by decide) rfl (by decide) rfl) (ki_ 3 rfl (dap (e:=afE) (⟨(formq l q (1 + nx l k 3 + i)).1.ts,(formq l q (1 + nx l k 3 + i)).1.c⟩) rfl rfl) (dz 2 rfl (DK_nil (za 4 rfl (tq_ rfl (jad (i + 1) rfl) (zl 2 rfl ?_))))))
  exact nx_ ⟨i + 1,_,_,_,rfl,rfl,rfl,hi,by rw [formsq_succ,← hs]⟩ rfl
 ·refine tq_ rfl (ltF rfl) (zl 10 rfl ?_)
  have hie:i = (nx l (nk l k) 5):=by omega
  subst hie
  refine Tc_growB 2 36 4 (ls':=[Leaf.val (.int .i64 (((1 + nx l k 3):Nat):Int)),Leaf.own 3 n,Leaf.own 4 0]) rfl rfl rfl ⟨.inl rfl,.inl rfl,.inr ⟨rfl,rfl⟩,trivial⟩ (zc 5 rfl ?_)
  refine lpR_ (fun m Γ H=>∃ (i:Nat) (n2:Nat) (out2:List Af) (q2:Nat),(1 + nx l (nk l (nk l k)) 3) - i = m∧Γ = [(0,some (D.ptr 0 0)),(2,some (D.ptr 1 0)),(3,some (D.ptr 2 0)),(4,some (D.val (.int .i64 ((nx l (nk l k) 5:Nat):Int)))),(5,some (D.val (.int .i64 ((1 + nx l (nk l (nk l k)) 3:Nat):Int)))),(7,some (D.val (.int .i64 ((i:Nat):Int))))]∧H = [hbq 146 [El.row u8E l,Leaf.val (.int .i64 ((q2:Nat):Int))] bk,hb_ 26 [Leaf.val (.int .i64 0),Leaf.val (.slice none 0 0),Leaf.val (.slice none 0 0)],hb_ 26 [Leaf.val (.int .i64 (((1 + nx l k 3):Nat):Int)),Leaf.own 3 n,Leaf.own 4 n2],hgr 36 4 afE out n,hgr 36 4 afE out2 n2]∧i≤(1 + nx l (nk l (nk l k)) 3)∧(out2,q2) = formsq l (fun _=>1 + nx l k 3 + (nx l (nk l k) 5)) (formsq l (fun j=>1 + nx l k 3 + j) (nk l (nk l (nk l k))) (nx l (nk l k) 5)).2 i) ⟨0,0,[],_,rfl,rfl,rfl,Nat.zero_le _,(by rw [← hs];rfl)⟩ rfl ?_
  rintro m Γ H ⟨i,n2,out2,q2,rfl,rfl,rfl,hj0,hs2⟩
  refine zc 5 rfl ?_
  by_cases hj:i < (1 + nx l (nk l (nk l k)) 3)
  ·refine tq_ rfl (ltT rfl) (zl 7 rfl ?_)
   have hol2:=congrArg (fun p=>p.1.length) hs2
   simp only [formsq_len] at hol2
   have hq2:q2≤l.length:=by have:=formsq_le (l:=l) (f:=(fun _=>1 + nx l k 3 + (nx l (nk l k) 5))) (k:=(formsq l (fun j=>1 + nx l k 3 + j) (nk l (nk l (nk l k))) (nx l (nk l k) 5)).2) (formsq_le (nk_le (nk_le (nk_le hk))) (fun _=>.inr trivial) (fun j hj=>by omega) _ (by omega)) (fun _=>.inr trivial) (fun j hj=>by omega) i (by omega);rw [← hs2] at this;exact this
   refine dr_ 0 [(7,0),(9,4),(11,2)] [0,4,2] (dz 1 rfl (kp_ [0,4] rfl (jld rfl) (dz 2 rfl (kp_ [0,4] rfl (jld rfl) (dz 1 rfl (kq_ rfl (jad ((1 + nx l k 3) + (nx l (nk l k) 5)) rfl) (ki_ 0 rfl (Jd_call_ptr rfl fn71 rfl rfl rfl rfl (form_spec l q2 ((1 + nx l k 3) + (nx l (nk l k) 5)) (by omega) hl (by assumption) hb)) ?_)))))))
   refine ke_ rfl (fun _=>Je_buildSlice rfl un24 ty36 tz36 rfl (by decide) (by decide) rfl (by decide) rfl) (ki_ 4 rfl (dap (e:=afE) (⟨(formq l q2 ((1 + nx l k 3) + (nx l (nk l k) 5))).1.ts,(formq l q2 ((1 + nx l k 3) + (nx l (nk l k) 5))).1.c⟩) rfl rfl) (dz 2 rfl (DK_nil (za 4 rfl (tq_ rfl (jad (i + 1) rfl) (zl 2 rfl ?_))))))
   exact nx_ ⟨i + 1,_,_,_,rfl,rfl,rfl,hj,by rw [formsq_succ,← hs2]⟩ rfl
  ·refine tq_ rfl (ltF rfl) (zl 9 rfl ?_)
   have hie:i = (1 + nx l (nk l (nk l k)) 3):=by omega
   subst hie
   refine zc 5 rfl (Tc_viewB 1 (ls':=[Leaf.val (.int .i64 (((1 + nx l k 3):Nat):Int)),El.row afE out,Leaf.own 4 n2]) rfl rfl (RowAt.ofE afE out rfl (by decide)) ⟨.inl rfl,.inr ⟨rfl,rfl⟩,.inl rfl,trivial⟩ ?_)
   refine Tc_viewB 1 (ls':=[Leaf.val (.int .i64 (((1 + nx l k 3):Nat):Int)),El.row afE out,El.row afE out2]) rfl rfl (RowAt.ofE afE out2 rfl (by decide)) ⟨.inl rfl,.inl rfl,.inr ⟨rfl,rfl⟩,trivial⟩ ?_
   exact Tc_retP (fun _ _ h=>h) rfl (⟨_,_,rfl,rfl,.inl ⟨ty26,Nat.le_of_ble_eq_true rfl,rfl⟩⟩) (by unfold graphq;rw [← hs2,← hs]) rfl (by unfold graphq;rw [← hs2]) hX
end Go.Proofs.YtjdbopkbfkgpdaaGreatDoor
set_option linter.unusedSimpArgs false
set_option linter.unusedVariables false
namespace Go.Proofs.YtjdbopkbfkgpdaaGreatDoor
open Go Go.RowKit Rc
set_option maxRecDepth 10000 in
theorem small_spec (l:List Nat) (k inp:Nat) (hn:inp≤100) (hl:l.length≤1000000) (hk:k≤l.length) (hb:∀ x∈l,x < 256):CtrP Tryz.prog 97 146 [El.row u8E l,Leaf.val (.int .i64 ((k:Nat):Int))] [El.row u8E l,Leaf.val (.int .i64 (((regq l k inp).2:Nat):Int))] [V.one (Leaf.val (.int .i64 ((inp:Int))))] (R.one (rgV (regq l k inp).1)):=by
 refine CtrP.of_body Tryz.func97 rfl Tryz.ntmps97 (Nat.le_of_ble_eq_true rfl) (fun w0 A0 bk hX=>?_)
 refine qc_ (zc 2 rfl (te_ rfl (Je_alloc (n:=1) rfl tx29 rfl) (zl 4 rfl (te_ rfl (Je_alloc (n:=2) rfl tx29 rfl) (zl 4 rfl (Tc_growB 2 34 3 (ls':=[Leaf.own 3 0,Leaf.val (.slice none 0 0),Leaf.val (.slice none 0 0)]) rfl rfl rfl ⟨.inr ⟨rfl,rfl⟩,.inl rfl,.inl rfl,trivial⟩ ?_))))))
 refine Tc_growB 2 34 3 (ls':=[Leaf.own 3 0,Leaf.own 4 0,Leaf.val (.slice none 0 0)]) rfl rfl rfl ⟨.inl rfl,.inr ⟨rfl,rfl⟩,.inl rfl,trivial⟩ (zc 5 rfl ?_)
 refine lpR_ (fun m Γ H=>∃ (i:Nat) (n1 n2:Nat) (lo up:List Rat) (q:Nat),inp - i = m∧Γ = [(0,some (D.ptr 0 0)),(1,some (D.val (.int .i64 ((inp:Nat):Int)))),(4,some (D.ptr 1 0)),(5,some (D.ptr 2 0)),(6,some (D.val (.int .i64 ((i:Nat):Int))))]∧H = [hbq 146 [El.row u8E l,Leaf.val (.int .i64 ((q:Nat):Int))] bk,hb_ 29 [Leaf.val (.slice none 0 0),Leaf.val (.slice none 0 0),Leaf.val (.slice none 0 0)],hb_ 29 [Leaf.own 3 n1,Leaf.own 4 n2,Leaf.val (.slice none 0 0)],hgr 34 3 ratE lo n1,hgr 34 3 ratE up n2]∧i≤inp∧((lo,up),q) = boxq l k i) ⟨0,0,0,[],[],_,rfl,rfl,rfl,Nat.zero_le _,rfl⟩ rfl ?_
 rintro m Γ H ⟨i,n1,n2,lo,up,q,rfl,rfl,rfl,hi0,hs⟩
 refine zc 5 rfl ?_
 by_cases hi:i < inp
 ·refine tq_ rfl (ltT rfl) (zl 8 rfl ?_)
  obtain ⟨e1,e2⟩:=boxq_len l k i
  have hq:=boxq_le hk i
  rw [← hs] at e1 e2 hq
  simp only [] at e1 e2 hq
  have hq1:=nk_le hq
  have hq2:=nk_le hq1
  haveI:=numq_bd l q
  haveI:=numq_bd l (nk l (nk l q))
  refine zc 2 rfl (te_ rfl (Je_call_ptr rfl fn77 rfl rfl rfl rfl (number_spec l q hl (by first | assumption | exact nk_le (by assumption)) hb)) (zl 1 rfl (te_ rfl (Je_call_ptr rfl fn77 rfl rfl rfl rfl (number_spec l (nk l (nk l q)) hl (by first | assumption | exact nk_le (by assumption)) hb)) (zl 12 rfl (dr_ 0 [(4,3),(11,4),(13,2),(15,2)] [3,4,2] (dz 1 rfl ?_))))))
  refine kp_ [3,4] rfl (jld rfl) (dz 1 rfl (ke_ rfl (fun _=>Je_buildSlice rfl un27 ty34 tz34 rfl (by decide) (by decide) rfl (by decide) rfl) (ki_ 3 rfl (dap (numq l q) rfl rfl) (dz 1 rfl (kp_ [3,4] rfl (jld rfl) (dz 2 rfl ?_))))))
  refine kc_ fn57 rfl (rqadd (qOf (numq l q)) (numq l q) (qOf_q _) (Br.use (by omega)) (Qr.mk false (limbs (cnum (numq l (nk l (nk l q))))) (limbs (cden (numq l (nk l (nk l q))))) (small_limbs _) (small_limbs _)) (rq false (cnum (numq l (nk l (nk l q)))) (cden (numq l (nk l (nk l q))))) (qr_eq (val_limbs _) (val_limbs _)) (Fit.mk (Br.use (r:=numq l (nk l (nk l q))) (by omega)).n (Br.use (r:=numq l (nk l (nk l q))) (by omega)).d)) ?_
  refine ke_ rfl (fun _=>Je_buildSlice rfl un27 ty34 tz34 rfl (by decide) (by decide) rfl (by decide) rfl) (ki_ 4 rfl (dap ((numq l q) + (rq false (cnum (numq l (nk l (nk l q)))) (cden (numq l (nk l (nk l q)))))) rfl rfl) (dz 4 rfl (DK_nil (za 4 rfl (tq_ rfl (jad (i + 1) rfl) (zl 2 rfl (At_free 5 (At_free 6 (trim_ 5 rfl ?_)))))))))
  exact nx_ ⟨i + 1,_,_,_,_,_,rfl,rfl,rfl,hi,by rw [boxq_succ,← hs];rfl⟩ rfl
 ·refine tq_ rfl (ltF rfl) (zl 10 rfl ?_)
  have hie:inp = i:=by omega
  subst hie
  have hq:=boxq_le hk inp
  rw [← hs] at hq
  have hq:q≤l.length:=hq
  have hm3:nx l q 3 < 3:=nx_lt (by decide)
  have hqk:=nk_le hq
  refine Tc_growB 2 36 4 (ls':=[Leaf.own 3 n1,Leaf.own 4 n2,Leaf.own 5 0]) rfl rfl rfl ⟨.inl rfl,.inl rfl,.inr ⟨rfl,rfl⟩,trivial⟩ (zc 2 rfl (te_ rfl (Je_call_ptr rfl fn76 rfl rfl rfl rfl (next_spec l q 3 (by first | decide | omega) (by first | decide | omega) hl (by first | assumption | exact nk_le (by assumption)) hb)) (zl 4 rfl ?_)))
  refine lpR_ (fun m Γ H=>∃ (i:Nat) (n3:Nat) (out:List Af) (q2:Nat),(nx l q 3) - i = m∧Γ = [(0,some (D.ptr 0 0)),(1,some (D.val (.int .i64 ((inp:Nat):Int)))),(4,some (D.ptr 1 0)),(5,some (D.ptr 2 0)),(9,some (D.val (.int .i64 ((((nx l q 3) - i):Nat):Int))))]∧H = [hbq 146 [El.row u8E l,Leaf.val (.int .i64 ((q2:Nat):Int))] bk,hb_ 29 [Leaf.val (.slice none 0 0),Leaf.val (.slice none 0 0),Leaf.val (.slice none 0 0)],hb_ 29 [Leaf.own 3 n1,Leaf.own 4 n2,Leaf.own 5 n3],hgr 34 3 ratE lo n1,hgr 34 3 ratE up n2,hgr 36 4 afE out n3]∧i≤(nx l q 3)∧(out,q2) = formsq l (fun _=>inp) (nk l q) i) ⟨0,0,[],_,rfl,rfl,rfl,Nat.zero_le _,rfl⟩ rfl ?_
  rintro m Γ H ⟨i,n3,out,q2,rfl,rfl,rfl,hj0,hs2⟩
  refine zc 4 rfl ?_
  by_cases hj:i < (nx l q 3)
  ·refine tq_ rfl (gtT rfl) (zl 7 rfl ?_)
   have hol:=congrArg (fun p=>p.1.length) hs2
   simp only [formsq_len] at hol
   have hq2:q2≤l.length:=by have:=formsq_le (l:=l) (f:=(fun _=>inp)) (k:=(nk l q)) hqk (fun _=>.inr trivial) (fun j hj=>by omega) i (by omega);rw [← hs2] at this;exact this
   refine dr_ 0 [(4,0),(6,5),(8,2)] [0,5,2] (dz 1 rfl (kp_ [0,5] rfl (jld rfl) (dz 2 rfl (ki_ 0 rfl (Jd_call_ptr rfl fn71 rfl rfl rfl rfl (form_spec l q2 inp (by omega) hl (by assumption) hb)) (ke_ rfl (fun _=>Je_buildSlice rfl un24 ty36 tz36 rfl (by decide) (by decide) rfl (by decide) rfl) (ki_ 5 rfl (dap (e:=afE) (⟨(formq l q2 inp).1.ts,(formq l q2 inp).1.c⟩) rfl rfl) ?_))))))
   refine dz 2 rfl (DK_nil (za 4 rfl (tq_ rfl (jsb ((nx l q 3) - (i + 1)) rfl) (zl 2 rfl ?_))))
   exact nx_ ⟨i + 1,_,_,_,rfl,rfl,rfl,(by omega),by rw [formsq_succ,← hs2]⟩ rfl
  ·refine tq_ rfl (gtF rfl) (zl 9 rfl ?_)
   have hie:i = (nx l q 3):=by omega
   subst hie
   refine zc 5 rfl (Tc_viewB 1 (ls':=[El.row ratE lo,Leaf.own 4 n2,Leaf.own 5 n3]) rfl rfl (RowAt.ofE ratE lo rfl (by decide)) ⟨.inr ⟨rfl,rfl⟩,.inl rfl,.inl rfl,trivial⟩ (Tc_viewB 1 (ls':=[El.row ratE lo,El.row ratE up,Leaf.own 5 n3]) rfl rfl (RowAt.ofE ratE up rfl (by decide)) ⟨.inl rfl,.inr ⟨rfl,rfl⟩,.inl rfl,trivial⟩ ?_))
   refine Tc_viewB 1 (ls':=[El.row ratE lo,El.row ratE up,El.row afE out]) rfl rfl (RowAt.ofE afE out rfl (by decide)) ⟨.inl rfl,.inl rfl,.inr ⟨rfl,rfl⟩,trivial⟩ ?_
   exact Tc_retP (fun _ _ h=>h) rfl (⟨_,_,rfl,rfl,.inl ⟨ty29,Nat.le_of_ble_eq_true rfl,rfl⟩⟩) (by unfold regq;rw [← hs,← hs2]) rfl (by unfold regq;rw [← hs,← hs2]) hX
end Go.Proofs.YtjdbopkbfkgpdaaGreatDoor
set_option linter.unusedSimpArgs false
set_option linter.unusedVariables false
namespace Go.Proofs.YtjdbopkbfkgpdaaGreatDoor
open Go Go.RowKit Rc
set_option maxRecDepth 10000 in
theorem query_spec (l:List Nat) (k:Nat) (hl:l.length≤1000000) (hk:k≤l.length) (hb:∀ x∈l,x < 256):CtrP Tryz.prog 53 146 [El.row u8E l,Leaf.val (.int .i64 ((k:Nat):Int))] [El.row u8E l,Leaf.val (.int .i64 (((queryq l k).2:Nat):Int))] [] (R.one (quV (queryq l k).1)):=by
 refine CtrP.of_body Tryz.func53 rfl Tryz.ntmps53 (Nat.le_of_ble_eq_true rfl) (fun w0 A0 bk hX=>?_)
 refine qc_ ?_
 have hg:=graphq_ok l k
 have h1:=hg.i1;have h2:=hg.i3;have h3:=hg.u4
 have hk1:=graphq_le hk
 have hk2:=regq_le (n:=(graphq l k).1.inp) hk1 (by omega)
 refine zc 8 rfl (te_ rfl (Je_call_ptr rfl fn96 rfl rfl rfl rfl (graph_spec l k hl (by assumption) hb)) (zl 9 rfl (te_ rfl (Je_call_ptr rfl fn97 rfl rfl rfl rfl (small_spec l ((graphq l k).2) ((graphq l k).1.inp) (by omega) hl (by assumption) hb)) (zl 5 rfl (dr_ 0 [(9,0),(11,1)] [0,1] (dz 7 rfl (kq_ rfl (jln rfl) ?_)))))))
 refine kq_ rfl (jad (((graphq l k).1.inp) + (((graphq l k).1.us).length)) rfl) (ki_ 0 rfl (Jd_call_ptr rfl fn71 rfl rfl rfl rfl (form_spec l ((regq l ((graphq l k).2) ((graphq l k).1.inp)).2) (((graphq l k).1.inp) + (((graphq l k).1.us).length)) (by omega) hl (by assumption) hb)) (dz 2 rfl (DK_nil (za 1 rfl ?_))))
 exact Tc_retP (fun _ _ h=>h) rfl (⟨_,_,rfl,rfl,.inl ⟨ty38,Nat.le_of_ble_eq_true rfl,rfl⟩⟩) rfl rfl rfl hX
end Go.Proofs.YtjdbopkbfkgpdaaGreatDoor
set_option linter.unusedSimpArgs false
set_option linter.unusedVariables false
namespace Go.Proofs.YtjdbopkbfkgpdaaGreatDoor
open Go Go.RowKit Rc
end Go.Proofs.YtjdbopkbfkgpdaaGreatDoor
set_option linter.unusedSimpArgs false
set_option linter.unusedVariables false
namespace Go.Proofs.YtjdbopkbfkgpdaaGreatDoor
open Go Go.RowKit Rc
set_option maxRecDepth 10000 in
theorem rvalidall (l:List Af) (vars:Nat) {B n:Nat} (hA:∀ f∈l,Fm f.ts B n∧Br f.c B) (hB:B≤300000000000) (hn:n≤1000) (hl:l.length≤1000) (hv:vars≤1000000):Ctr Tryz.prog 94 [V.one (El.row afE l),V.one (Leaf.val (.int .i64 ((vars:Int))))] (R.one (V.one (Leaf.val (.bool (decide (∀ f∈l,∀ t∈f.ts,t.1 < vars)))))):=by
 refine bd_ Tryz.func94 Tryz.ntmps94 rfl (fun w0 A0=>?_)
 refine zc 12 rfl (lpR_ (fun m Γ H=>∃ (i:Nat),l.length - i = m∧Γ = [(0,some (D.v (V.one (El.row afE l)))),(1,some (D.val (.int .i64 ((vars:Nat):Int)))),(5,some (D.val (.int .i64 ((i:Nat):Int))))]∧H = []∧i≤l.length∧∀ f∈l.take i,∀ t∈f.ts,t.1 < vars) ⟨0,rfl,rfl,rfl,Nat.zero_le _,by simp⟩ rfl ?_)
 rintro m Γ H ⟨i,rfl,rfl,rfl,hi0,hall⟩
 refine zc 5 rfl (tq_ rfl (jln rfl) ?_)
 by_cases hi:i < l.length
 ·refine tq_ rfl (ltT rfl) (zl 8 rfl ?_)
  obtain ⟨x,hx⟩:∃ x,l[i]? = some x:=⟨_,List.getElem?_eq_getElem hi⟩
  obtain ⟨hxm,hxc⟩:=hA x (List.mem_of_getElem? hx)
  refine zc 3 rfl (tq_ rfl (jix i hx rfl) (tq_ rfl (jlr rfl) (zl 1 rfl (tc_ fn28 rfl (rvalid7 x vars hxm.can hxm.bd hB (Nat.le_trans hxm.len hn) hv) (zl 3 rfl ?_)))))
  refine Tc_cond rfl (fun hc18=>?_) (fun hc18=>?_)
  ·refine zc 5 rfl ?_
   exact r1_ hq_ rfl (by rw [badA hx (by simpa using hc18)])
  ·refine zc 5 rfl (tq_ rfl (jad (i + 1) rfl) (zl 2 rfl ?_))
   exact nx_ ⟨i + 1,rfl,rfl,rfl,hi,takeA hx hall (by simpa using hc18)⟩ rfl
 ·refine tq_ rfl (ltF rfl) (zl 13 rfl ?_)
  exact r1_ hq_ rfl (by rw [decide_eq_true (show ∀ f∈l,∀ t∈f.ts,t.1 < vars from by rw [show i = l.length by omega,List.take_length] at hall;exact hall)])
end Go.Proofs.YtjdbopkbfkgpdaaGreatDoor
set_option linter.unusedSimpArgs false
set_option linter.unusedVariables false
namespace Go.Proofs.YtjdbopkbfkgpdaaGreatDoor
open Go Go.RowKit Rc
theorem rvalid_ok (f:Af) {b n:Nat} (h:FOk b n f) (hb:b≤100000) (vars:Nat) (hv:n≤vars) (hv2:vars≤1000):Ctr Tryz.prog 28 [afV f,V.one (Leaf.val (.int .i64 ((vars:Int))))] (R.one (V.one (Leaf.val (.bool true)))):=by
 haveI:=h.br
 have e:=rvalid7 f vars (B:=b + 1) h.can (fun t ht=>(h.bd t ht).br) (by omega) (Nat.le_trans h.len (by omega)) (by omega)
 rwa [decide_eq_true (fun t ht=>Nat.lt_of_lt_of_le (h.var t ht) hv)] at e
theorem rvalidall_ok (l:List Af) {b n:Nat} (h:∀ f∈l,FOk b n f) (hb:b≤100000) (hl:l.length≤1000) (vars:Nat) (hv:n≤vars) (hv2:vars≤1000):Ctr Tryz.prog 94 [V.one (El.row afE l),V.one (Leaf.val (.int .i64 ((vars:Int))))] (R.one (V.one (Leaf.val (.bool true)))):=by
 have e:=rvalidall l vars (B:=b + 1) (n:=n) (fun f hf=>⟨(h f hf).fm (by omega),(h f hf).br⟩) (by omega) (by omega) hl (by omega)
 rwa [decide_eq_true (fun f hf t ht=>Nat.lt_of_lt_of_le ((h f hf).var t ht) hv)] at e
set_option maxRecDepth 10000 in
theorem rqvalidall (l:List Rat) {B:Nat} (h:∀ x∈l,Br x B) (hB:B≤100000) (hl:l.length≤1000):Ctr Tryz.prog 95 [V.one (El.row ratE l)] (R.one (V.one (Leaf.val (.bool true)))):=by
 refine bd_ Tryz.func95 Tryz.ntmps95 rfl (fun w0 A0=>?_)
 refine zc 12 rfl (lpR_ (fun m Γ H=>∃ (i:Nat),l.length - i = m∧Γ = [(0,some (D.v (V.one (El.row ratE l)))),(3,some (D.val (.int .i64 ((i:Nat):Int))))]∧H = []∧i≤l.length) ⟨0,rfl,rfl,rfl,Nat.zero_le _⟩ rfl ?_)
 rintro m Γ H ⟨i,rfl,rfl,rfl,hi0⟩
 refine zc 5 rfl (tq_ rfl (jln rfl) ?_)
 by_cases hi:i < l.length
 ·refine tq_ rfl (ltT rfl) (zl 8 rfl ?_)
  obtain ⟨x,hx⟩:∃ x,l[i]? = some x:=⟨_,List.getElem?_eq_getElem hi⟩
  haveI hbx:=h x (List.mem_of_getElem? hx)
  refine zc 3 rfl (tq_ rfl (jix i hx rfl) (tq_ rfl (jlr rfl) (tc_ fn70 rfl (rqvalid (qOf x) x (qOf_q _) (Br.use (by omega))) (is_ true rfl (isC_of _) (zl 9 rfl (tq_ rfl (jad (i + 1) rfl) (zl 2 rfl ?_)))))))
  exact nx_ ⟨i + 1,rfl,rfl,rfl,hi⟩ rfl
 ·refine tq_ rfl (ltF rfl) (zl 13 rfl ?_)
  exact r1_ hq_ rfl rfl
set_option maxRecDepth 10000 in
theorem gvalid_r (g:Gr) (hg:GOk g):Ctr Tryz.prog 50 [grV g] (R.one (V.one (Leaf.val (.bool true)))):=by
 refine bd_ Tryz.func50 Tryz.ntmps50 rfl (fun w0 A0=>?_)
 have h1:=hg.i1;have h2:=hg.i3;have h3:=hg.u4;have h4:=hg.o1;have h5:=hg.o3
 refine zc 11 rfl (tq_ rfl (ltF rfl) (zl 3 rfl (tq_ rfl (gtF rfl) (zl 4 rfl (tq_ rfl (jln rfl) (tq_ rfl (gtF rfl) (zl 4 rfl (tq_ rfl (jln rfl) (tq_ rfl (ltF rfl) ?_)))))))))
 refine zl 4 rfl (tq_ rfl (jln rfl) (tq_ rfl (gtF rfl) (zl 13 rfl (lpR_ (fun m Γ H=>∃ (i:Nat),g.us.length - i = m∧Γ = [(1,some (D.ptr 0 0)),(3,some (D.val (.int .i64 ((i:Nat):Int))))]∧H = [hb_ 26 [Leaf.val (.int .i64 ((g.inp:Nat):Int)),El.row afE g.us,El.row afE g.os]]∧i≤g.us.length) ⟨0,rfl,rfl,rfl,Nat.zero_le _⟩ rfl ?_))))
 rintro m Γ H ⟨i,rfl,rfl,rfl,hi0⟩
 refine zc 6 rfl (tq_ rfl (jln rfl) ?_)
 by_cases hi:i < g.us.length
 ·refine tq_ rfl (ltT rfl) (zl 8 rfl ?_)
  obtain ⟨x,hx⟩:∃ x,g.us[i]? = some x:=⟨_,List.getElem?_eq_getElem hi⟩
  have hxo:=hg.us i x hx
  refine dr_ 0 [] [] (dz 3 rfl (kq_ rfl (jix i hx rfl) (kq_ rfl (jlr rfl) (dz 3 rfl (kq_ rfl (jad (g.inp + i) rfl) (kc_ fn28 rfl (rvalid_ok x hxo (by omega) (g.inp + i) (Nat.le_refl _) (by omega)) (dz 1 rfl (DK_nil (za 7 rfl ?_)))))))))
  refine tq_ rfl (jad (i + 1) rfl) (zl 2 rfl ?_)
  exact nx_ ⟨i + 1,rfl,rfl,rfl,hi⟩ rfl
 ·refine tq_ rfl (ltF rfl) (zl 16 rfl (tq_ rfl (jln rfl) (tq_ rfl (jad (g.inp + g.us.length) rfl) (tc_ fn94 rfl (rvalidall_ok g.os hg.os (by omega) (by omega) (g.inp + g.us.length) (Nat.le_refl _) (by omega)) (zl 3 rfl ?_)))))
  exact r1_ hq_ rfl rfl
set_option maxRecDepth 10000 in
theorem vars_r (g:Gr) (hg:GOk g):Ctr Tryz.prog 52 [grV g] (R.one (V.one (Leaf.val (.int .i64 (((g.inp + g.us.length:Nat):Int)))))):=by
 refine bd_ Tryz.func52 Tryz.ntmps52 rfl (fun w0 A0=>?_)
 have h1:=hg.i1;have h2:=hg.i3;have h3:=hg.u4;have h4:=hg.o1;have h5:=hg.o3
 refine zc 10 rfl (tc_ fn50 rfl (gvalid_r g (by assumption)) (zl 12 rfl (tq_ rfl (jln rfl) (tq_ rfl (jad (g.inp + g.us.length) rfl) (zl 3 rfl ?_)))))
 exact r1_ hq_ rfl rfl
set_option maxRecDepth 10000 in
theorem rgvalid_r (r:Rg) (n:Nat) (hr:ROk n r) (hn1:1≤n) (hn3:n≤3):Ctr Tryz.prog 51 [rgV r,V.one (Leaf.val (.int .i64 ((n:Int))))] (R.one (V.one (Leaf.val (.bool true)))):=by
 refine bd_ Tryz.func51 Tryz.ntmps51 rfl (fun w0 A0=>?_)
 have h1:=hr.lo;have h2:=hr.hi;have h3:=hr.r2
 refine zc 10 rfl (tq_ rfl (ltF rfl) (zl 2 rfl (tq_ rfl (gtF rfl) (zl 4 rfl (tq_ rfl (jln rfl) (zl 1 rfl (tq_ rfl (neF rfl) (zl 4 rfl (tq_ rfl (jln rfl) ?_)))))))))
 refine zl 1 rfl (tq_ rfl (neF rfl) (zl 4 rfl (tq_ rfl (jln rfl) (tq_ rfl (gtF rfl) (zl 11 rfl ?_)))))
 refine tc_ fn95 rfl (rqvalidall r.lo (B:=4) (fun x hx=>by obtain ⟨j,hj⟩:=mem_get hx;obtain ⟨y,hy⟩:∃ y,r.hi[j]? = some y:=⟨_,List.getElem?_eq_getElem (by have:=(List.getElem?_eq_some_iff.1 hj).1;omega)⟩;exact (hr.bd j _ _ hj hy).1.br) (by omega) (by omega)) ?_
 refine zl 4 rfl ?_
 refine tc_ fn95 rfl (rqvalidall r.hi (B:=8) (fun x hx=>by obtain ⟨j,hj⟩:=mem_get hx;obtain ⟨y,hy⟩:∃ y,r.lo[j]? = some y:=⟨_,List.getElem?_eq_getElem (by have:=(List.getElem?_eq_some_iff.1 hj).1;omega)⟩;exact (hr.bd j _ _ hy hj).2.1.br) (by omega) (by omega)) ?_
 refine zl 6 rfl (tc_ fn94 rfl (rvalidall_ok r.rows hr.rows (by omega) (by omega) n (Nat.le_refl _) (by omega)) (zl 14 rfl ?_))
 refine lpR_ (fun m Γ H=>∃ (i:Nat),n - i = m∧Γ = [(1,some (D.val (.int .i64 ((n:Nat):Int)))),(2,some (D.ptr 0 0)),(5,some (D.val (.int .i64 ((i:Nat):Int))))]∧H = [hb_ 29 [El.row ratE r.lo,El.row ratE r.hi,El.row afE r.rows]]∧i≤n) ⟨0,rfl,rfl,rfl,Nat.zero_le _⟩ rfl ?_
 rintro m Γ H ⟨i,rfl,rfl,rfl,hi0⟩
 refine zc 5 rfl ?_
 by_cases hi:i < n
 ·refine tq_ rfl (ltT rfl) (zl 8 rfl ?_)
  obtain ⟨x,hx⟩:∃ x,r.lo[i]? = some x:=⟨_,List.getElem?_eq_getElem (by omega)⟩
  obtain ⟨y,hy⟩:∃ y,r.hi[i]? = some y:=⟨_,List.getElem?_eq_getElem (by omega)⟩
  obtain ⟨hb1,hb2,hxy⟩:=hr.bd i x y hx hy
  haveI:=hb1.br;haveI:=hb2.br
  refine dr_ 0 [] [] (dz 3 rfl (kq_ rfl (jix i hx rfl) (kq_ rfl (jlr rfl) (dz 3 rfl (kq_ rfl (jix i hy rfl) (kq_ rfl (jlr rfl) (kc_ fn22 rfl (rqcmp (qOf (x)) (x) (qOf_q _) (Br.use (by omega)) (qOf (y)) (y) (qOf_q _) (Br.use (by omega))) (kq_ rfl (gtF rfl (by have:=cmpq_le.2 hxy;omega)) (DK_nil ?_)))))))))
  refine za 7 rfl (tq_ rfl (jad (i + 1) rfl) (zl 2 rfl ?_))
  exact nx_ ⟨i + 1,rfl,rfl,rfl,hi⟩ rfl
 ·refine tq_ rfl (ltF rfl) (zl 13 rfl ?_)
  exact r1_ hq_ rfl rfl
set_option maxRecDepth 10000 in
theorem qvalid_r (q:Qu) (hq:QOk q):Ctr Tryz.prog 14 [quV q] (R.one (V.one (Leaf.val (.bool true)))):=by
 refine bd_ Tryz.func14 Tryz.ntmps14 rfl (fun w0 A0=>?_)
 have hg:=hq.g;have hr:=hq.r
 have h1:=hg.i1;have h2:=hg.i3;have h3:=hg.u4;have h4:=hg.o1;have h5:=hg.o3
 refine zc 7 rfl (dr_ 0 [] [] (dz 2 rfl (kc_ fn50 rfl (gvalid_r q.g (by assumption)) (dz 6 rfl (kc_ fn51 rfl (rgvalid_r q.r q.g.inp (by assumption) (by omega) (by omega)) (dz 6 rfl (kc_ fn52 rfl (vars_r q.g (by assumption)) (kc_ fn28 rfl (rvalid_ok q.goal hq.goal (by omega) (q.g.inp + q.g.us.length) (Nat.le_refl _) (by omega)) (dz 2 rfl ?_)))))))))
 refine DK_nil (za 1 rfl ?_)
 exact r1_ hq_ rfl rfl
end Go.Proofs.YtjdbopkbfkgpdaaGreatDoor
set_option linter.unusedSimpArgs false
set_option linter.unusedVariables false
namespace Go.Proofs.YtjdbopkbfkgpdaaGreatDoor
open Go Go.RowKit Rc
set_option maxRecDepth 10000 in
theorem iof_z (z:Int) (h1:-9223372036854775808≤z) (h2:z≤9223372036854775807):Ctr Tryz.prog 85 [V.one (Leaf.val (.int .i64 z))] (R.one (zV (zOf z))):=by
 refine bd_ Tryz.func85 Tryz.ntmps85 rfl (fun w0 A0=>?_)
 refine zc 9 rfl ?_
 by_cases hz0:z < 0
 ·refine tq_ rfl (ltT rfl) (zl 6 rfl (tq_ rfl (jc6 (18446744073709551616 - z.natAbs) rfl) (tq_ rfl (Jq_neg rfl rfl (r:=((z.natAbs:Nat):Int)) (wu64 (by omega))) (tc_ fn130 rfl (of_spec z.natAbs (by omega)) (zl 4 rfl ?_)))))
  exact r1_ hq_ rfl (by show R.one (V.agg [Leaf.val (.bool true),natL (limbs z.natAbs)]) = R.one (V.agg [Leaf.val (.bool (decide (z < 0))),natL (limbs z.natAbs)]);rw [decide_eq_true hz0])
 ·refine tq_ rfl (ltF rfl) (zl 8 rfl (tq_ rfl (jc6 z.natAbs rfl) (tc_ fn130 rfl (of_spec z.natAbs (by omega)) (zl 4 rfl ?_))))
  exact r1_ hq_ rfl (by show R.one (V.agg [Leaf.val (.bool false),natL (limbs z.natAbs)]) = R.one (V.agg [Leaf.val (.bool (decide (z < 0))),natL (limbs z.natAbs)]);rw [decide_eq_false hz0])
set_option maxRecDepth 10000 in
theorem qwhole (z:Int) {B:Nat} [Bz z B] (hB:B≤1000):Ctr Tryz.prog 84 [zV (zOf z)] (R.one (qV (qOf (z:Rat)))):=by
 refine bd_ Tryz.func84 Tryz.ntmps84 rfl (fun w0 A0=>?_)
 refine zc 7 rfl (dr_ 0 [(6,1)] [1] (dz 4 rfl (kc_ fn129 rfl (qone) (kc_ fn128 rfl (qquot (decide (z < 0)) (limbs (Int.natAbs (z))) [1] (small_limbs _) (Small.cons (by decide) Small.nil) (Bz.use (z:=z) (by omega)) (by simp) (Int.natAbs (z)) (1) (val_limbs _) rfl (by decide)) (dz 1 rfl (DK_nil (za 1 rfl ?_)))))))
 exact r1_ hq_ rfl (by rw [rq_intz] <;> rfl)
set_option maxRecDepth 10000 in
theorem qof_spec (z:Int) (h1:-9223372036854775808≤z) (h2:z≤9223372036854775807):Ctr Tryz.prog 41 [V.one (Leaf.val (.int .i64 z))] (R.one (qV (qOf (z:Rat)))):=by
 refine bd_ Tryz.func41 Tryz.ntmps41 rfl (fun w0 A0=>?_)
 haveI:Bz z 2:=⟨Bn.of_lt (by omega) (by omega)⟩
 refine zc 8 rfl (tc_ fn85 rfl (iof_z z (by omega) (by omega)) (tc_ fn84 rfl (qwhole z (by omega)) (zl 3 rfl ?_)))
 exact r1_ hq_ rfl rfl
set_option maxRecDepth 10000 in
theorem lvalid (f:Af) {b n:Nat} (h:FOk b n f) (hb:b≤100000) (vars:Nat) (hv:n≤vars) (hv2:vars≤1000):Ctr Tryz.prog 82 [afV f,V.one (Leaf.val (.int .i64 ((vars:Int))))] (R.one (V.one (Leaf.val (.bool true)))):=by
 refine bd_ Tryz.func82 Tryz.ntmps82 rfl (fun w0 A0=>?_)
 haveI:=h.br
 have hln:=h.len
 refine zc 11 rfl (tq_ rfl (jln rfl) (zl 4 rfl ?_))
 refine lpR_ (fun m Γ H=>∃ (i:Nat),f.ts.length - i = m∧Γ = [(1,some (D.val (.int .i64 ((vars:Nat):Int)))),(2,some (D.ptr 0 0)),(8,some (D.v (V.one (El.row tmE f.ts)))),(9,some (D.val (.int .i64 ((f.ts.length:Nat):Int)))),(10,some (D.val (.int .i64 ((i:Nat):Int))))]∧H = [hb_ 36 (afL f)]∧i≤f.ts.length) ⟨0,rfl,rfl,rfl,Nat.zero_le _⟩ rfl ?_
 rintro m Γ H ⟨i,rfl,rfl,rfl,hi0⟩
 refine zc 2 rfl ?_
 by_cases hi:i < f.ts.length
 ·refine tq_ rfl (ltT rfl) (zl 9 rfl ?_)
  obtain ⟨x,hx⟩:∃ x,f.ts[i]? = some x:=⟨_,List.getElem?_eq_getElem hi⟩
  have hxm:=List.mem_of_getElem? hx
  haveI hbx:=(h.bd x hxm).br
  obtain ⟨hn0,hgt,hlt⟩:=h.can.get hx
  have hxv:=h.var x hxm
  refine zc 2 rfl (tq_ rfl (jix i hx rfl) (tq_ rfl (jlr rfl) (zl 6 rfl (dr_ 0 [] [] (dz 2 rfl (kq_ rfl (ltF rfl) (dz 4 rfl (kq_ rfl (geF rfl) (dz 3 rfl ?_)))))))))
  by_cases hi1:0 < i
  ·refine kq_ rfl (gtT rfl) (dz 4 rfl ?_)
   obtain ⟨y,hy⟩:∃ y,f.ts[i - 1]? = some y:=⟨_,List.getElem?_eq_getElem (by omega)⟩
   have hyx:=h.can.prev hi1 hx hy
   refine kq_ rfl (jsb (i - 1) rfl) (kq_ rfl (jix (i - 1) hy rfl) (kq_ rfl (jfr rfl) (kq_ rfl (jli rfl) (dz 2 rfl (kq_ rfl (geF rfl) (dz 5 rfl (kc_ fn90 rfl (qsign (qOf (x.2)) (x.2) (qOf_q _) (Br.use (by omega))) (kq_ rfl (eqF rfl (sg_ne hn0)) (dz 4 rfl ?_)))))))))
   refine kc_ fn122 rfl (qvalid (qOf (x.2)) (x.2) (qOf_q _) (Br.use (by omega))) (kis_ true rfl (isC_of _) (dz 2 rfl (DK_nil (za 6 rfl (tq_ rfl (jad (i + 1) rfl) (zl 2 rfl (At_free 1 (trim_ 1 rfl ?_))))))))
   exact nx_ ⟨i + 1,rfl,rfl,rfl,hi⟩ rfl
  ·refine kq_ rfl (gtF rfl) (dz 16 rfl (kc_ fn90 rfl (qsign (qOf (x.2)) (x.2) (qOf_q _) (Br.use (by omega))) (kq_ rfl (eqF rfl (sg_ne hn0)) (dz 4 rfl (kc_ fn122 rfl (qvalid (qOf (x.2)) (x.2) (qOf_q _) (Br.use (by omega))) (kis_ true rfl (isC_of _) (dz 2 rfl (DK_nil (za 6 rfl ?_)))))))))
   refine tq_ rfl (jad (i + 1) rfl) (zl 2 rfl (At_free 1 (trim_ 1 rfl ?_)))
   exact nx_ ⟨i + 1,rfl,rfl,rfl,hi⟩ rfl
 ·refine tq_ rfl (ltF rfl) (zl 13 rfl (tc_ fn122 rfl (qvalid (qOf (f.c)) (f.c) (qOf_q _) (Br.use (by omega))) (is_ true rfl (isC_of _) (zl 3 rfl ?_))))
  exact r1_ hq_ rfl rfl
set_option maxRecDepth 10000 in
theorem idxfunc (l:List Af) (f:Nat) (ls:List Leaf) (hl:l.length≤1000000) (hf:FnOk Tryz.prog f) (hp:∀ x∈l,Ctr Tryz.prog f ([afV x] ++ ones ls) (R.one (V.one (Leaf.val (.bool false))))):Ctr Tryz.prog 156 [V.one (El.row afE l),V.one (Leaf.rep (funcRep f ls))] (R.one (V.one (Leaf.val (.int .i64 (-1))))):=by
 refine bd_ Tryz.func156 Tryz.ntmps156 rfl (fun w0 A0=>?_)
 refine zc 9 rfl (tq_ rfl (jln rfl) (zl 4 rfl (lpR_ (fun m Γ H=>∃ (i:Nat),l.length - i = m∧Γ = [(0,some (D.v (V.one (El.row afE l)))),(1,some (D.rep (funcRep f ls))),(7,some (D.val (.int .i64 ((l.length:Nat):Int)))),(8,some (D.val (.int .i64 ((i:Nat):Int))))]∧H = []∧i≤l.length) ⟨0,rfl,rfl,rfl,Nat.zero_le _⟩ rfl ?_)))
 rintro m Γ H ⟨i,rfl,rfl,rfl,hi0⟩
 refine zc 2 rfl ?_
 by_cases hi:i < l.length
 ·refine tq_ rfl (ltT rfl) (zl 15 rfl ?_)
  obtain ⟨x,hx⟩:∃ x,l[i]? = some x:=⟨_,List.getElem?_eq_getElem hi⟩
  refine zc 4 rfl (tq_ rfl (jix i hx rfl) (tq_ rfl (jlr rfl) (te_ rfl (Je_callVR rfl rfl hf rfl (hp x (List.mem_of_getElem? hx))) (zl 7 rfl (tq_ rfl (jad (i + 1) rfl) (zl 2 rfl ?_))))))
  exact nx_ ⟨i + 1,rfl,rfl,rfl,hi⟩ rfl
 ·refine tq_ rfl (ltF rfl) (zl 14 rfl ?_)
  exact r1_ hq_ rfl rfl
set_option maxRecDepth 10000 in
theorem hasfunc (l:List Af) (f:Nat) (ls:List Leaf) (hl:l.length≤1000000) (hf:FnOk Tryz.prog f) (hp:∀ x∈l,Ctr Tryz.prog f ([afV x] ++ ones ls) (R.one (V.one (Leaf.val (.bool false))))):Ctr Tryz.prog 123 [V.one (El.row afE l),V.one (Leaf.rep (funcRep f ls))] (R.one (V.one (Leaf.val (.bool false)))):=by
 refine bd_ Tryz.func123 Tryz.ntmps123 rfl (fun w0 A0=>?_)
 refine zc 9 rfl (tc_ fn156 rfl (idxfunc l f ls hl hf hp) (zl 4 rfl ?_))
 exact r1_ hq_ rfl rfl
set_option maxRecDepth 10000 in
theorem gvalid1 (f:Af) {b n:Nat} (h:FOk b n f) (hb:b≤100000) (vars:Nat) (hv:n≤vars) (hv2:vars≤1000):Ctr Tryz.prog 154 [afV f,V.one (Leaf.rep (ptrRep [Leaf.val (.int .i64 ((vars:Nat):Int))]))] (R.one (V.one (Leaf.val (.bool false)))):=by
 refine bd_ Tryz.func154 Tryz.ntmps154 rfl (fun w0 A0=>?_)
 refine zc 9 rfl (tq_ rfl (jli rfl) (tc_ fn82 rfl (lvalid f h hb vars hv hv2) (zl 4 rfl ?_)))
 exact r1_ hq_ rfl rfl
set_option maxRecDepth 10000 in
theorem rvalid1 (f:Af) {b n:Nat} (h:FOk b n f) (hb:b≤100000) (vars:Nat) (hv:n≤vars) (hv2:vars≤1000):Ctr Tryz.prog 124 [afV f,V.one (Leaf.rep (ptrRep [Leaf.val (.int .i64 ((vars:Nat):Int))]))] (R.one (V.one (Leaf.val (.bool false)))):=by
 refine bd_ Tryz.func124 Tryz.ntmps124 rfl (fun w0 A0=>?_)
 refine zc 9 rfl (tq_ rfl (jli rfl) (tc_ fn82 rfl (lvalid f h hb vars hv hv2) (zl 4 rfl ?_)))
 exact r1_ hq_ rfl rfl
set_option maxRecDepth 10000 in
theorem gvall (l:List Af) {b n:Nat} (h:∀ f∈l,FOk b n f) (hb:b≤100000) (hl:l.length≤1000) (vars:Nat) (hv:n≤vars) (hv2:vars≤1000):Ctr Tryz.prog 121 [V.one (El.row afE l),V.one (Leaf.val (.int .i64 ((vars:Int))))] (R.one (V.one (Leaf.val (.bool true)))):=by
 refine bd_ Tryz.func121 Tryz.ntmps121 rfl (fun w0 A0=>?_)
 refine zc 9 rfl (Tl_freeze 3 rfl rfl rfl (te_ rfl (Je_makeFuncR [Leaf.rep (ptrRep [Leaf.val (.int .i64 ((vars:Nat):Int))])] rfl rfl) (tc_ fn123 rfl (hasfunc l 154 _ (by omega) fn154 (fun x hx=>gvalid1 x (h x hx) hb vars hv hv2)) (zl 4 rfl ?_))))
 exact r1_ hq_ rfl rfl
set_option maxRecDepth 10000 in
theorem gvalid_p (g:Gr) (hg:GOk g):Ctr Tryz.prog 80 [grV g] (R.one (V.one (Leaf.val (.bool true)))):=by
 refine bd_ Tryz.func80 Tryz.ntmps80 rfl (fun w0 A0=>?_)
 have h1:=hg.i1;have h2:=hg.i3;have h3:=hg.u4;have h4:=hg.o1;have h5:=hg.o3
 refine zc 11 rfl (tq_ rfl (ltF rfl) (zl 3 rfl (tq_ rfl (gtF rfl) (zl 4 rfl (tq_ rfl (jln rfl) (tq_ rfl (gtF rfl) (zl 4 rfl (tq_ rfl (jln rfl) (tq_ rfl (ltF rfl) ?_)))))))))
 refine zl 4 rfl (tq_ rfl (jln rfl) (tq_ rfl (gtF rfl) (zl 11 rfl (tq_ rfl (jln rfl) (zl 4 rfl ?_)))))
 refine lpR_ (fun m Γ H=>∃ (i:Nat),g.us.length - i = m∧Γ = [(1,some (D.ptr 0 0)),(32,some (D.v (V.one (El.row afE g.us)))),(33,some (D.val (.int .i64 ((g.us.length:Nat):Int)))),(34,some (D.val (.int .i64 ((i:Nat):Int))))]∧H = [hb_ 26 [Leaf.val (.int .i64 ((g.inp:Nat):Int)),El.row afE g.us,El.row afE g.os]]∧i≤g.us.length) ⟨0,rfl,rfl,rfl,Nat.zero_le _⟩ rfl ?_
 rintro m Γ H ⟨i,rfl,rfl,rfl,hi0⟩
 refine zc 2 rfl ?_
 by_cases hi:i < g.us.length
 ·refine tq_ rfl (ltT rfl) (zl 9 rfl ?_)
  obtain ⟨x,hx⟩:∃ x,g.us[i]? = some x:=⟨_,List.getElem?_eq_getElem hi⟩
  have hxo:=hg.us i x hx
  refine zc 2 rfl (tq_ rfl (jix i hx rfl) (tq_ rfl (jlr rfl) (zl 11 rfl (tq_ rfl (jad (g.inp + i) rfl) (tc_ fn82 rfl (lvalid x hxo (by omega) (g.inp + i) (Nat.le_refl _) (by omega)) (zl 8 rfl (tq_ rfl (jad (i + 1) rfl) (zl 2 rfl (At_free 1 ?_)))))))))
  refine trim_ 1 rfl ?_
  exact nx_ ⟨i + 1,rfl,rfl,rfl,hi⟩ rfl
 ·refine tq_ rfl (ltF rfl) (zl 17 rfl (tq_ rfl (jln rfl) (tq_ rfl (jad (g.inp + g.us.length) rfl) (tc_ fn121 rfl (gvall g.os hg.os (by omega) (by omega) (g.inp + g.us.length) (Nat.le_refl _) (by omega)) (zl 3 rfl ?_)))))
  exact r1_ hq_ rfl rfl
set_option maxRecDepth 10000 in
theorem rgvalid_p (r:Rg) (n:Nat) (hr:ROk n r) (hn1:1≤n) (hn3:n≤3):Ctr Tryz.prog 81 [rgV r,V.one (Leaf.val (.int .i64 ((n:Int))))] (R.one (V.one (Leaf.val (.bool true)))):=by
 refine bd_ Tryz.func81 Tryz.ntmps81 rfl (fun w0 A0=>?_)
 have h1:=hr.lo;have h2:=hr.hi;have h3:=hr.r2
 refine zc 11 rfl (tq_ rfl (ltF rfl) (zl 2 rfl (tq_ rfl (gtF rfl) (zl 4 rfl (tq_ rfl (jln rfl) (zl 1 rfl (tq_ rfl (neF rfl) (zl 4 rfl (tq_ rfl (jln rfl) ?_)))))))))
 refine zl 1 rfl (tq_ rfl (neF rfl) (zl 4 rfl (tq_ rfl (jln rfl) (tq_ rfl (gtF rfl) (zl 11 rfl (tq_ rfl (jln rfl) (zl 4 rfl ?_)))))))
 refine lpR_ (fun m Γ H=>∃ (i:Nat),n - i = m∧Γ = [(2,some (D.ptr 0 0)),(3,some (D.ptr 1 0)),(34,some (D.v (V.one (El.row ratE r.lo)))),(35,some (D.val (.int .i64 ((r.lo.length:Nat):Int)))),(36,some (D.val (.int .i64 ((i:Nat):Int))))]∧H = [hb_ 29 [El.row ratE r.lo,El.row ratE r.hi,El.row afE r.rows],hb_ 3 [Leaf.val (.int .i64 ((n:Nat):Int))]]∧i≤n) ⟨0,rfl,rfl,rfl,Nat.zero_le _⟩ rfl ?_
 rintro m Γ H ⟨i,rfl,rfl,rfl,hi0⟩
 refine zc 2 rfl ?_
 by_cases hi:i < r.lo.length
 ·refine tq_ rfl (ltT rfl) (zl 9 rfl ?_)
  obtain ⟨x,hx⟩:∃ x,r.lo[i]? = some x:=⟨_,List.getElem?_eq_getElem (by omega)⟩
  obtain ⟨y,hy⟩:∃ y,r.hi[i]? = some y:=⟨_,List.getElem?_eq_getElem (by omega)⟩
  obtain ⟨hb1,hb2,hxy⟩:=hr.bd i x y hx hy
  haveI:=hb1.br;haveI:=hb2.br
  refine zc 2 rfl (tq_ rfl (jix i hx rfl) (tq_ rfl (jlr rfl) (zl 6 rfl (dr_ 0 [] [] (dz 1 rfl (kc_ fn122 rfl (qvalid (qOf (x)) (x) (qOf_q _) (Br.use (by omega))) (kis_ true rfl (isC_of _) (dz 5 rfl (kq_ rfl (jix i hy rfl) ?_)))))))))
  refine kq_ rfl (jlr rfl) (kc_ fn122 rfl (qvalid (qOf (y)) (y) (qOf_q _) (Br.use (by omega))) (kis_ true rfl (isC_of _) (dz 7 rfl (kq_ rfl (jix i hy rfl) (kq_ rfl (jlr rfl) (kc_ fn45 rfl (qcmp (qOf (x)) (x) (qOf_q _) (Br.use (by omega)) (qOf (y)) (y) (qOf_q _) (Br.use (by omega))) (kq_ rfl (gtF rfl (by have:=cmpq_le.2 hxy;omega)) (dz 1 rfl (DK_nil ?_)))))))))
  refine za 6 rfl (tq_ rfl (jad (i + 1) rfl) (zl 2 rfl (At_free 2 (trim_ 2 rfl ?_))))
  exact nx_ ⟨i + 1,rfl,rfl,rfl,(by omega)⟩ rfl
 ·refine tq_ rfl (ltF rfl) (zl 13 rfl (Tl_freeze 3 rfl rfl rfl (te_ rfl (Je_makeFuncR [Leaf.rep (ptrRep [Leaf.val (.int .i64 ((n:Nat):Int))])] rfl rfl) (tc_ fn123 rfl (hasfunc r.rows 124 _ (by omega) fn124 (fun x hx=>rvalid1 x (hr.rows x hx) (by omega) n (Nat.le_refl _) (by omega))) (zl 4 rfl ?_)))))
  exact r1_ hq_ rfl rfl
set_option maxRecDepth 10000 in
theorem qvalid_p (q:Qu) (hq:QOk q):Ctr Tryz.prog 36 [quV q] (R.one (V.one (Leaf.val (.bool true)))):=by
 refine bd_ Tryz.func36 Tryz.ntmps36 rfl (fun w0 A0=>?_)
 have hg:=hq.g;have hr:=hq.r
 have h1:=hg.i1;have h2:=hg.i3;have h3:=hg.u4;have h4:=hg.o1;have h5:=hg.o3
 refine zc 10 rfl (tc_ fn80 rfl (gvalid_p q.g (by assumption)) (zl 6 rfl (tc_ fn81 rfl (rgvalid_p q.r q.g.inp (by assumption) (by omega) (by omega)) (zl 10 rfl (tq_ rfl (jln rfl) (tq_ rfl (jad (q.g.inp + q.g.us.length) rfl) (tc_ fn82 rfl (lvalid q.goal hq.goal (by omega) (q.g.inp + q.g.us.length) (Nat.le_refl _) (by omega)) (zl 4 rfl ?_))))))))
 exact r1_ hq_ rfl rfl
end Go.Proofs.YtjdbopkbfkgpdaaGreatDoor
set_option linter.unusedSimpArgs false
set_option linter.unusedVariables false
namespace Rc
open Go Go.RowKit
class Fq (x:Qr) (k:outParam Nat):Prop where
 fit:Fit k x
theorem Fq.use {x:Qr} {k k':Nat} [h:Fq x k] (hk:k≤k'):Fit k' x:=h.fit.mono hk
instance Fq.of {r:Rat} {k:Nat} [h:Br r k]:Fq (qOf r) k:=⟨h.fit⟩
instance Fq.br {x:Qr} {k:Nat} [h:Fq x k]:Br x.q k:=Br.q h.fit
theorem Fq.mono {x:Qr} {k k':Nat} (h:Fq x k) (hk:k≤k'):Fq x k':=⟨h.fit.mono hk⟩
instance Br.one:Br ((1:Int):Rat) 2:=Br.int2 (by decide) (by decide)
instance Br.mone:Br ((-1:Int):Rat) 2:=Br.int2 (by decide) (by decide)
def lv (l:List Lm) (n:Nat):Rat:=match l[n - 1]? with | some m=>m.v.q | none=>0
theorem lv_get {l:List Lm} {n:Nat} {m:Lm} (h:l[n - 1]? = some m):lv l n = m.v.q:=by unfold lv;rw [h]
def bstp (l:List Lm) (u:Int) (s:Nat × Nat) (n:Nat):Nat × Nat:=
 match l[n]? with
 | none=>s
 | some m=>if m.unit = u then (if m.up = true then (if s.2 = 0 ∨ m.v.q < lv l s.2 then (s.1,n + 1) else s) else (if s.1 = 0 ∨ lv l s.1 < m.v.q then (n + 1,s.2) else s)) else s
def bestn (l:List Lm) (u:Int) (n:Nat):Nat × Nat:=(List.range n).foldl (bstp l u) (0,0)
def best (l:List Lm) (u:Int):Nat × Nat:=bestn l u l.length
theorem bestn_succ (l:List Lm) (u:Int) (n:Nat):bestn l u (n + 1) = bstp l u (bestn l u n) n:=by
 unfold bestn;rw [List.range_succ,List.foldl_append];rfl
section
variable {l:List Lm} {u:Int} {s:Nat × Nat} {n:Nat} {x:Lm} (hx:l[n]? = some x)
include hx
theorem bstp_ne (h:x.unit≠u):bstp l u s n = s:=by unfold bstp;simp only [hx];rw [if_neg h]
theorem bstp_ut (h:x.unit = u) (hu:x.up = true) (hc:s.2 = 0 ∨ x.v.q < lv l s.2):bstp l u s n = (s.1,n + 1):=by unfold bstp;simp only [hx];rw [if_pos h,if_pos hu,if_pos hc]
theorem bstp_uf (h:x.unit = u) (hu:x.up = true) (hc:¬ (s.2 = 0 ∨ x.v.q < lv l s.2)):bstp l u s n = s:=by unfold bstp;simp only [hx];rw [if_pos h,if_pos hu,if_neg hc]
theorem bstp_lt (h:x.unit = u) (hu:x.up = false) (hc:s.1 = 0 ∨ lv l s.1 < x.v.q):bstp l u s n = (n + 1,s.2):=by unfold bstp;simp only [hx];rw [if_pos h,if_neg (by rw [hu];decide),if_pos hc]
theorem bstp_lf (h:x.unit = u) (hu:x.up = false) (hc:¬ (s.1 = 0 ∨ lv l s.1 < x.v.q)):bstp l u s n = s:=by unfold bstp;simp only [hx];rw [if_pos h,if_neg (by rw [hu];decide),if_neg hc]
end
def isLm (l:List Lm) (u:Int) (up:Bool) (n:Nat):Prop:=n = 0 ∨ ∃ m,l[n - 1]? = some m∧0 < n∧m.unit = u∧m.up = up
theorem bestn_ok (l:List Lm) (u:Int):∀ n,(bestn l u n).1≤n∧(bestn l u n).2≤n∧isLm l u false (bestn l u n).1∧isLm l u true (bestn l u n).2
 | 0=>⟨Nat.le_refl _,Nat.le_refl _,.inl rfl,.inl rfl⟩
 | n + 1=>by
  obtain ⟨h1,h2,h3,h4⟩:=bestn_ok l u n
  rw [bestn_succ]
  cases hx:l[n]? with
  | none=>unfold bstp;simp only [hx];exact ⟨by omega,by omega,h3,h4⟩
  | some x=>
   by_cases hu:x.unit = u
   ·cases hup:x.up
    ·by_cases hc:(bestn l u n).1 = 0 ∨ lv l (bestn l u n).1 < x.v.q
     ·rw [bstp_lt hx hu hup hc];exact ⟨Nat.le_refl _,by show (bestn l u n).2≤n + 1;omega,.inr ⟨x,by simpa using hx,by simp,hu,hup⟩,h4⟩
     ·rw [bstp_lf hx hu hup hc];exact ⟨by omega,by omega,h3,h4⟩
    ·by_cases hc:(bestn l u n).2 = 0 ∨ x.v.q < lv l (bestn l u n).2
     ·rw [bstp_ut hx hu hup hc];exact ⟨by show (bestn l u n).1≤n + 1;omega,Nat.le_refl _,h3,.inr ⟨x,by simpa using hx,by simp,hu,hup⟩⟩
     ·rw [bstp_uf hx hu hup hc];exact ⟨by omega,by omega,h3,h4⟩
   ·rw [bstp_ne hx hu];exact ⟨by omega,by omega,h3,h4⟩
theorem best_lo {l:List Lm} {u:Int} (h:(best l u).1≠0):∃ m,l[(best l u).1 - 1]? = some m∧m.unit = u∧m.up = false∧lv l (best l u).1 = m.v.q∧0 < (best l u).1∧(best l u).1≤l.length:=by
 obtain ⟨h1,h2,h3,h4⟩:=bestn_ok l u l.length
 rcases h3 with h3 | ⟨m,q1,q2,q3,q4⟩
 ·exact absurd h3 h
 ·exact ⟨m,q1,q3,q4,lv_get q1,q2,h1⟩
theorem best_hi {l:List Lm} {u:Int} (h:(best l u).2≠0):∃ m,l[(best l u).2 - 1]? = some m∧m.unit = u∧m.up = true∧lv l (best l u).2 = m.v.q∧0 < (best l u).2∧(best l u).2≤l.length:=by
 obtain ⟨h1,h2,h3,h4⟩:=bestn_ok l u l.length
 rcases h4 with h3 | ⟨m,q1,q2,q3,q4⟩
 ·exact absurd h3 h
 ·exact ⟨m,q1,q3,q4,lv_get q1,q2,h2⟩
theorem best_le (l:List Lm) (u:Int):(best l u).1≤l.length∧(best l u).2≤l.length:=⟨(bestn_ok l u l.length).1,(bestn_ok l u l.length).2.1⟩
def lessR (a b:Rw):Bool:=if a.kind≠b.kind then decide (a.kind < b.kind) else if a.idx≠b.idx then decide (a.idx < b.idx) else if a.lo≠b.lo then decide (a.lo < b.lo) else decide (a.hi < b.hi)
theorem lessR_iff {a b:Rw}:lessR a b = true↔a.kind < b.kind ∨ (a.kind = b.kind∧(a.idx < b.idx ∨ (a.idx = b.idx∧(a.lo < b.lo ∨ (a.lo = b.lo∧a.hi < b.hi))))):=by
 unfold lessR
 split
 ·simp;omega
 ·split
  ·simp;omega
  ·split <;> simp <;> omega
theorem lessR_trans {a b c:Rw} (h:lessR a b = true) (h':lessR b c = true):lessR a c = true:=by
 rw [lessR_iff] at *;omega
theorem lessR_irrefl (a:Rw):lessR a a = false:=by
 cases h:lessR a a
 ·rfl
 ·rw [lessR_iff] at h;omega
theorem lessR_total {a b:Rw} (h:lessR a b = false) (hne:a≠b):lessR b a = true:=by
 cases h':lessR b a
 ·exfalso
  have h1:¬ lessR a b = true:=by rw [h];decide
  have h2:¬ lessR b a = true:=by rw [h'];decide
  rw [lessR_iff] at h1 h2
  exact hne (Rw.ext' (by omega) (by omega) (by omega) (by omega))
 ·rfl
theorem eq4_t {a b:Rw} (h:a = b):eq4 a.kind a.idx a.lo a.hi b.kind b.idx b.lo b.hi = true:=by subst h;simp [eq4]
theorem eq4_f {a b:Rw} (h:a≠b):eq4 a.kind a.idx a.lo a.hi b.kind b.idx b.lo b.hi = false:=by
 cases h':eq4 a.kind a.idx a.lo a.hi b.kind b.idx b.lo b.hi
 ·rfl
 ·exfalso
  simp [eq4] at h'
  exact h (Rw.ext' h'.1 h'.2.1 h'.2.2.1 h'.2.2.2)
def insM:List Mu→Rw→Rat→List Mu
 | [],r,c=>[⟨r,qOf c⟩]
 | m :: l,r,c=>if lessR m.r r = true then m :: insM l r c else if m.r = r then ⟨r,qOf (m.c.q + c)⟩ :: l else ⟨r,qOf c⟩ :: m :: l
def plusM (l:List Mu) (r:Rw) (c:Rat):List Mu:=if c = 0 then l else insM l r c
def mergeM (a b:List Mu) (c:Rat):List Mu:=b.foldl (fun a m=>plusM a m.r (m.c.q * c)) a
theorem insM_at:∀ {l:List Mu} {r:Rw} {c:Rat} {k:Nat},(∀ (i:Nat) (m:Mu),i < k→l[i]? = some m→lessR m.r r = true)→k≤l.length→insM l r c = l.take k ++ insM (l.drop k) r c
 | l,r,c,0,_,_=>by simp
 | [],r,c,k + 1,_,h=>by simp at h
 | m :: l,r,c,k + 1,h,hk=>by
  have h0:=h 0 m (by omega) rfl
  have ih:=insM_at (l:=l) (r:=r) (c:=c) (k:=k) (fun i m' hi hm=>h (i + 1) m' (by omega) (by simpa using hm)) (by simpa using hk)
  show (if lessR m.r r = true then m :: insM l r c else _) = _
  rw [if_pos h0,ih]
  rfl
theorem insM_end {l:List Mu} {r:Rw} {c:Rat} (h:∀ (i:Nat) (m:Mu),i < l.length→l[i]? = some m→lessR m.r r = true):insM l r c = l ++ [⟨r,qOf c⟩]:=by
 rw [insM_at h (Nat.le_refl _),List.take_length,List.drop_length];rfl
theorem drop_get' {α:Type} {l:List α} {k:Nat} {x:α} (h:l[k]? = some x):l.drop k = x :: l.drop (k + 1):=drop_get h
theorem insM_eq {l:List Mu} {r:Rw} {c:Rat} {k:Nat} {x:Mu} (h:∀ (i:Nat) (m:Mu),i < k→l[i]? = some m→lessR m.r r = true) (hx:l[k]? = some x) (hr:x.r = r):insM l r c = l.take k ++ [⟨r,qOf (x.c.q + c)⟩] ++ l.drop (k + 1):=by
 rw [insM_at h (Nat.le_of_lt (List.getElem?_eq_some_iff.1 hx).1),drop_get' hx]
 show _ ++ (if lessR x.r r = true then _ else if x.r = r then _ else _) = _
 rw [if_neg (by rw [hr,lessR_irrefl];decide),if_pos hr,List.append_assoc];rfl
theorem insM_ne {l:List Mu} {r:Rw} {c:Rat} {k:Nat} {x:Mu} (h:∀ (i:Nat) (m:Mu),i < k→l[i]? = some m→lessR m.r r = true) (hx:l[k]? = some x) (hl:lessR x.r r = false) (hr:x.r≠r):insM l r c = l.take k ++ [⟨r,qOf c⟩] ++ l.drop k:=by
 rw [insM_at h (Nat.le_of_lt (List.getElem?_eq_some_iff.1 hx).1),drop_get' hx]
 show _ ++ (if lessR x.r r = true then _ else if x.r = r then _ else _) = _
 rw [if_neg (by rw [hl];decide),if_neg hr,List.append_assoc];rfl
theorem insM_len:∀ (l:List Mu) (r:Rw) (c:Rat),(insM l r c).length≤l.length + 1
 | [],_,_=>by simp [insM]
 | m :: l,r,c=>by
  have:=insM_len l r c
  unfold insM
  split
  ·simp;omega
  ·split <;> simp
theorem plusM_len (l:List Mu) (r:Rw) (c:Rat):(plusM l r c).length≤l.length + 1:=by
 unfold plusM;split
 ·omega
 ·exact insM_len l r c
theorem mergeM_len:∀ (b a:List Mu) (c:Rat),(mergeM a b c).length≤a.length + b.length
 | [],a,c=>by simp [mergeM]
 | m :: b,a,c=>by
  have h1:=plusM_len a m.r (m.c.q * c)
  have h2:=mergeM_len b (plusM a m.r (m.c.q * c)) c
  have:mergeM a (m :: b) c = mergeM (plusM a m.r (m.c.q * c)) b c:=rfl
  rw [this];simp;omega
theorem mergeM_snoc (a b:List Mu) (m:Mu) (c:Rat):mergeM a (b ++ [m]) c = plusM (mergeM a b c) m.r (m.c.q * c):=by unfold mergeM;rw [List.foldl_append];rfl
theorem mergeM_take {a b:List Mu} {i:Nat} {m:Mu} {c:Rat} (h:b[i]? = some m):mergeM a (b.take (i + 1)) c = plusM (mergeM a (b.take i) c) m.r (m.c.q * c):=by rw [take_snoc h,mergeM_snoc]
def MB (B:Nat) (l:List Mu):Prop:=∀ m∈l,Fq m.c B
theorem MB.mono {B C:Nat} {l:List Mu} (h:MB B l) (hBC:B≤C):MB C l:=fun m hm=>(h m hm).mono hBC
theorem insM_bd {B C:Nat} {r:Rw} {c:Rat} [hc:Br c C]:∀ {l:List Mu},MB B l→MB (B + C + 1) (insM l r c)
 | [],_=>fun m hm=>by
  simp [insM] at hm;subst hm
  exact (Fq.of (r:=c)).mono (by omega)
 | x :: l,h=>by
  have hx:=h x (by simp)
  intro m hm
  unfold insM at hm
  split at hm
  ·rcases List.mem_cons.1 hm with rfl | hm
   ·exact hx.mono (by omega)
   ·exact insM_bd (l:=l) (fun m hm=>h m (by simp [hm])) m hm
  ·split at hm
   ·rcases List.mem_cons.1 hm with rfl | hm
    ·exact Fq.of (r:=x.c.q + c)
    ·exact (h m (by simp [hm])).mono (by omega)
   ·rcases List.mem_cons.1 hm with rfl | hm
    ·exact (Fq.of (r:=c)).mono (by omega)
    ·exact (h m hm).mono (by omega)
theorem plusM_bd {B C:Nat} {l:List Mu} {r:Rw} {c:Rat} [hc:Br c C] (h:MB B l):MB (B + C + 1) (plusM l r c):=by
 unfold plusM;split
 ·exact h.mono (by omega)
 ·exact insM_bd h
theorem mergeM_bd {B C D:Nat} {c:Rat} [hc:Br c D]:∀ {b a:List Mu},MB B a→MB C b→MB (B + b.length * (C + D + 2)) (mergeM a b c)
 | [],a,h,_=>h.mono (by omega)
 | m :: b,a,h,hb=>by
  haveI:=hb m (by simp)
  have h1:=plusM_bd (r:=m.r) (c:=m.c.q * c) h
  have h2:=mergeM_bd (b:=b) h1 (fun m hm=>hb m (by simp [hm])) (c:=c)
  have e:mergeM a (m :: b) c = mergeM (plusM a m.r (m.c.q * c)) b c:=rfl
  rw [e]
  refine h2.mono ?_
  simp only [List.length_cons,Nat.add_mul]
  omega
def CanM:List Mu→Prop
 | []=>True
 | m :: l=>(m.c = qOf m.c.q∧0 < m.c.q)∧(∀ x∈l,lessR m.r x.r = true)∧CanM l
theorem insM_mem {r:Rw} {c:Rat}:∀ {l:List Mu} {x:Mu},x∈insM l r c→x.r = r ∨ x∈l
 | [],x,h=>by simp [insM] at h;subst h;exact .inl rfl
 | m :: l,x,h=>by
  unfold insM at h
  split at h
  ·rcases List.mem_cons.1 h with rfl | h
   ·exact .inr (by simp)
   ·rcases insM_mem h with h | h
    ·exact .inl h
    ·exact .inr (by simp [h])
  ·split at h
   ·rcases List.mem_cons.1 h with rfl | h
    ·exact .inl rfl
    ·exact .inr (by simp [h])
   ·rcases List.mem_cons.1 h with rfl | h
    ·exact .inl rfl
    ·exact .inr h
theorem insM_can {r:Rw} {c:Rat} (hc:0 < c):∀ {l:List Mu},CanM l→CanM (insM l r c)
 | [],_=>⟨⟨by rw [qOf_q],by rw [qOf_q];exact hc⟩,fun x hx=>by simp at hx,trivial⟩
 | m :: l,h=>by
  obtain ⟨h1,h2,h3⟩:=h
  unfold insM
  split
  ·rename_i hlt
   refine ⟨h1,fun x hx=>?_,insM_can hc h3⟩
   rcases insM_mem hx with e | hx
   ·rw [e];exact hlt
   ·exact h2 x hx
  ·rename_i hlt
   split
   ·rename_i he
    refine ⟨⟨by rw [qOf_q],?_⟩,fun x hx=>?_,h3⟩
    ·rw [qOf_q];have:=h1.2;grind
    ·rw [← he];exact h2 x hx
   ·rename_i hne
    have hl:=lessR_total (by simpa using hlt) hne
    refine ⟨⟨by rw [qOf_q],by rw [qOf_q];exact hc⟩,fun x hx=>?_,h1,h2,h3⟩
    rcases List.mem_cons.1 hx with rfl | hx
    ·exact hl
    ·exact lessR_trans hl (h2 x hx)
theorem plusM_can {r:Rw} {c:Rat} (hc:0≤c) {l:List Mu} (h:CanM l):CanM (plusM l r c):=by
 unfold plusM;split
 ·exact h
 ·rename_i h0;exact insM_can (by grind) h
theorem CanM.pos:∀ {l:List Mu},CanM l→∀ m∈l,0 < m.c.q∧m.c = qOf m.c.q
 | x :: l,h,m,hm=>by
  rcases List.mem_cons.1 hm with rfl | hm
  ·exact ⟨h.1.2,h.1.1⟩
  ·exact CanM.pos h.2.2 m hm
theorem CanM.lt {l:List Mu} (h:CanM l):∀ {i j:Nat} {x y:Mu},i < j→l[i]? = some y→l[j]? = some x→lessR y.r x.r = true:=by
 induction l with
 | nil=>intro i j x y _ hy;simp at hy
 | cons m l ih=>
  intro i j x y hij hy hx
  obtain ⟨j,rfl⟩:∃ j',j = j' + 1:=⟨j - 1,by omega⟩
  rw [List.getElem?_cons_succ] at hx
  cases i with
  | zero=>simp at hy;subst hy;exact h.2.1 x (List.mem_of_getElem? hx)
  | succ i=>rw [List.getElem?_cons_succ] at hy;exact ih h.2.2 (by omega) hy hx
theorem CanM.prev {l:List Mu} {i:Nat} {x y:Mu} (h:CanM l) (hi:0 < i) (hx:l[i]? = some x) (hy:l[i - 1]? = some y):lessR y.r x.r = true:=h.lt (by omega) hy hx
theorem mergeM_can {c:Rat} (hc:0≤c):∀ {b a:List Mu},CanM a→(∀ m∈b,0 < m.c.q)→CanM (mergeM a b c)
 | [],a,h,_=>h
 | m :: b,a,h,hb=>mergeM_can (b:=b) hc (plusM_can (Rat.mul_nonneg (Rat.le_of_lt (hb m (by simp))) hc) h) (fun m hm=>hb m (by simp [hm]))
theorem rq_one1:rq false 1 1 = 1:=by decide +kernel
theorem rq_quo (a b:Bool) (m n d e:Nat) (hn:n≠0):rq (a != b) (m * dn e) (dn d * n) = rq a m d / rq b n e:=by
 have h1:=rq_mul a b m (dn e) d n
 have h2:=rq_mul b b n (dn e) e n
 rw [dn_of hn] at h1 h2
 rw [h1]
 have h3:rq (b != b) (n * dn e) (dn e * n) = 1:=by
  rw [← rq_one1,rq_eq,dn_of (Nat.mul_ne_zero (dn_ne e) hn)]
  simp [sgn,dn,Nat.mul_comm]
 rw [h3] at h2
 have h4:rq b n e≠0:=fun h=>by rw [h] at h2;grind
 rw [Rat.div_def]
 congr 1
 have h5:rq b n e * (rq b n e)⁻¹ = 1:=Rat.mul_inv_cancel _ h4
 generalize rq b n e = p at *
 generalize rq b (dn e) n = q at *
 generalize p⁻¹ = w at *
 grind
theorem sg_le {p:Rat}:sg p≤0↔p≤0:=by unfold sg;grind
theorem sg_ge {p:Rat}:0≤sg p↔0≤p:=by unfold sg;grind
theorem sg_gt {p:Rat}:0 < sg p↔0 < p:=by unfold sg;grind
def atLeast (inp v:Nat):List Mu:=if v < inp then [⟨⟨1,(v:Int),0,0⟩,qOf ((1:Int):Rat)⟩] else [⟨⟨5,((v - inp:Nat):Int),0,0⟩,qOf ((1:Int):Rat)⟩]
def atMost (inp:Nat) (l:List Lm) (v:Nat):Option (List Mu):=
 if v < inp then some [⟨⟨2,(v:Int),0,0⟩,qOf ((1:Int):Rat)⟩]
 else if (best l ((v - inp:Nat):Int)).1 = 0 ∨ (best l ((v - inp:Nat):Int)).2 = 0 then none
 else if lv l (best l ((v - inp:Nat):Int)).2≤0 then some [⟨⟨10,((v - inp:Nat):Int),0,((best l ((v - inp:Nat):Int)).2:Int)⟩,qOf ((1:Int):Rat)⟩]
 else if 0≤lv l (best l ((v - inp:Nat):Int)).1 then some [⟨⟨8,((v - inp:Nat):Int),((best l ((v - inp:Nat):Int)).1:Int),0⟩,qOf ((1:Int):Rat)⟩,⟨⟨12,((v - inp:Nat):Int),0,((best l ((v - inp:Nat):Int)).2:Int)⟩,qOf ((1:Int):Rat)⟩]
 else some [⟨⟨12,((v - inp:Nat):Int),0,((best l ((v - inp:Nat):Int)).2:Int)⟩,qOf (((1:Int):Rat) / (lv l (best l ((v - inp:Nat):Int)).2 - lv l (best l ((v - inp:Nat):Int)).1) * lv l (best l ((v - inp:Nat):Int)).2)⟩,
   ⟨⟨13,((v - inp:Nat):Int),((best l ((v - inp:Nat):Int)).1:Int),((best l ((v - inp:Nat):Int)).2:Int)⟩,qOf (((1:Int):Rat) / (lv l (best l ((v - inp:Nat):Int)).2 - lv l (best l ((v - inp:Nat):Int)).1))⟩]
end Rc
set_option linter.unusedSimpArgs false
set_option linter.unusedVariables false
namespace Go.Proofs.YtjdbopkbfkgpdaaGreatDoor
open Go Go.RowKit Rc
theorem row_i4:Ints4 Tryz.prog 105 3:=⟨by kernel_rfl,by kernel_rfl,ty3,by kernel_rfl,by kernel_rfl⟩
set_option maxRecDepth 10000 in
theorem best_p (s:Sc) {B:Nat} (hB:∀ m∈s.lems,Fq m.v B) (hB2:B≤100000000000) (hl:s.lems.length≤1000000) (u:Int):Ctr Tryz.prog 42 [scV s,V.one (Leaf.val (.int .i64 (u)))] (R.tup [V.one (Leaf.val (.int .i64 (((best s.lems u).1:Nat):Int))),V.one (Leaf.val (.int .i64 (((best s.lems u).2:Nat):Int)))]):=by
 refine bd_ Tryz.func42 Tryz.ntmps42 rfl (fun w0 A0=>?_)
 refine zc 18 rfl (tq_ rfl (jln rfl) (zl 4 rfl ?_))
 refine lpR_ (fun m Γ H=>∃ (i:Nat) (lo hi:Nat),s.lems.length - i = m∧Γ = [(1,some (D.val (.int .i64 u))),(2,some (D.ptr 0 0)),(6,some (D.val (.int .i64 ((lo:Nat):Int)))),(7,some (D.val (.int .i64 ((hi:Nat):Int)))),(11,some (D.v (V.one (El.row lmE s.lems)))),(12,some (D.val (.int .i64 ((s.lems.length:Nat):Int)))),(13,some (D.val (.int .i64 ((i:Nat):Int))))]∧H = [hb_ 42 (scL s)]∧i≤s.lems.length∧(lo,hi) = bestn s.lems u i) ⟨0,0,0,rfl,rfl,rfl,Nat.zero_le _,rfl⟩ rfl ?_
 rintro m Γ H ⟨i,lo,hi,rfl,rfl,rfl,hi0,hs⟩
 refine zc 2 rfl ?_
 by_cases hi_:i < s.lems.length
 ·refine tq_ rfl (ltT rfl) (zl 9 rfl ?_)
  obtain ⟨x,hx⟩:∃ x,s.lems[i]? = some x:=⟨_,List.getElem?_eq_getElem (by omega)⟩
  haveI hxb:=hB x (List.mem_of_getElem? hx)
  have hbn:=bestn_ok s.lems u i
  rw [← hs] at hbn
  obtain ⟨hlo,hhi,_,_⟩:=hbn
  refine zc 2 rfl (tq_ rfl (jix i hx rfl) (tq_ rfl (jlr rfl) (zl 11 rfl ?_)))
  by_cases hne:x.unit≠u
  ·refine tq_ rfl (neT rfl) (zl 8 rfl (tq_ rfl (jad (i + 1) rfl) (zl 2 rfl (At_free 1 (trim_ 1 rfl ?_)))))
   exact nx_ ⟨i + 1,_,_,rfl,rfl,rfl,(by omega),by rw [bestn_succ,← hs];exact (bstp_ne hx hne).symm⟩ rfl
  ·refine tq_ rfl (neF rfl) (zl 6 rfl ?_)
   have hu:x.unit = u:=Classical.not_not.1 hne
   refine zc 5 rfl ?_
   refine Tc_cond rfl (fun hup=>?_) (fun hup=>?_)
   ·refine zc 1 rfl (dr_ 0 [] [] (dz 1 rfl ?_))
    by_cases hv:hi = 0
    ·refine kq_ rfl (eqT rfl) (dz 13 rfl (DK_nil (za 4 rfl (tq_ rfl (jad (i + 1) rfl) (zl 5 rfl (tq_ rfl (jad (i + 1) rfl) (zl 2 rfl (At_free 1 (trim_ 1 rfl ?_)))))))))
     exact nx_ ⟨i + 1,_,_,rfl,rfl,rfl,(by omega),by rw [bestn_succ,← hs];exact (bstp_ut (s:=(lo,hi)) hx hu hup (.inl hv)).symm⟩ rfl
    ·refine kq_ rfl (eqF rfl) (dz 6 rfl ?_)
     obtain ⟨y,hy⟩:∃ y,s.lems[hi - 1]? = some y:=⟨_,List.getElem?_eq_getElem (by omega)⟩
     haveI hyb:=hB y (List.mem_of_getElem? hy)
     have hly:=lv_get hy
     refine kq_ rfl (jsb (hi - 1) rfl) (kq_ rfl (jix (hi - 1) hy rfl) (kq_ rfl (jft rfl) (kq_ rfl (jlr rfl) (kc_ fn45 rfl (qcmp x.v (x.v.q) rfl (Fq.use (x:=x.v) (by omega)) y.v (y.v.q) rfl (Fq.use (x:=y.v) (by omega))) ?_))))
     by_cases hc:x.v.q < lv s.lems hi
     ·refine kq_ rfl (ltT rfl (by rw [cmpq_lt,← hly];exact hc)) (dz 1 rfl (DK_nil (za 4 rfl (tq_ rfl (jad (i + 1) rfl) (zl 5 rfl (tq_ rfl (jad (i + 1) rfl) (zl 2 rfl (At_free 1 (trim_ 1 rfl ?_)))))))))
      exact nx_ ⟨i + 1,_,_,rfl,rfl,rfl,(by omega),by rw [bestn_succ,← hs];exact (bstp_ut (s:=(lo,hi)) hx hu hup (.inr hc)).symm⟩ rfl
     ·refine kq_ rfl (ltF rfl (by rw [cmpq_lt,← hly];exact hc)) (dz 1 rfl (DK_nil (za 6 rfl (tq_ rfl (jad (i + 1) rfl) (zl 2 rfl (At_free 1 (trim_ 1 rfl ?_)))))))
      exact nx_ ⟨i + 1,_,_,rfl,rfl,rfl,(by omega),by rw [bestn_succ,← hs];exact (bstp_uf (s:=(lo,hi)) hx hu hup (fun h=>h.elim hv hc)).symm⟩ rfl
   ·refine zc 1 rfl (dr_ 0 [] [] (dz 1 rfl ?_))
    by_cases hv:lo = 0
    ·refine kq_ rfl (eqT rfl) (dz 13 rfl (DK_nil (za 4 rfl (tq_ rfl (jad (i + 1) rfl) (zl 5 rfl (tq_ rfl (jad (i + 1) rfl) (zl 2 rfl (At_free 1 (trim_ 1 rfl ?_)))))))))
     exact nx_ ⟨i + 1,_,_,rfl,rfl,rfl,(by omega),by rw [bestn_succ,← hs];exact (bstp_lt (s:=(lo,hi)) hx hu hup (.inl hv)).symm⟩ rfl
    ·refine kq_ rfl (eqF rfl) (dz 6 rfl ?_)
     obtain ⟨y,hy⟩:∃ y,s.lems[lo - 1]? = some y:=⟨_,List.getElem?_eq_getElem (by omega)⟩
     haveI hyb:=hB y (List.mem_of_getElem? hy)
     have hly:=lv_get hy
     refine kq_ rfl (jsb (lo - 1) rfl) (kq_ rfl (jix (lo - 1) hy rfl) (kq_ rfl (jft rfl) (kq_ rfl (jlr rfl) (kc_ fn45 rfl (qcmp x.v (x.v.q) rfl (Fq.use (x:=x.v) (by omega)) y.v (y.v.q) rfl (Fq.use (x:=y.v) (by omega))) ?_))))
     by_cases hc:lv s.lems lo < x.v.q
     ·refine kq_ rfl (gtT rfl (by rw [cmpq_gt,← hly];exact hc)) (dz 1 rfl (DK_nil (za 4 rfl (tq_ rfl (jad (i + 1) rfl) (zl 5 rfl (tq_ rfl (jad (i + 1) rfl) (zl 2 rfl (At_free 1 (trim_ 1 rfl ?_)))))))))
      exact nx_ ⟨i + 1,_,_,rfl,rfl,rfl,(by omega),by rw [bestn_succ,← hs];exact (bstp_lt (s:=(lo,hi)) hx hu hup (.inr hc)).symm⟩ rfl
     ·refine kq_ rfl (gtF rfl (by rw [cmpq_gt,← hly];exact hc)) (dz 1 rfl (DK_nil (za 6 rfl (tq_ rfl (jad (i + 1) rfl) (zl 2 rfl (At_free 1 (trim_ 1 rfl ?_)))))))
      exact nx_ ⟨i + 1,_,_,rfl,rfl,rfl,(by omega),by rw [bestn_succ,← hs];exact (bstp_lf (s:=(lo,hi)) hx hu hup (fun h=>h.elim hv hc)).symm⟩ rfl
 ·refine tq_ rfl (ltF rfl) (zl 10 rfl ?_)
  have hie:i = s.lems.length:=by omega
  rw [hie] at hs
  refine zc 7 rfl ?_
  exact r2_ hq_ rfl (by unfold best;rw [← hs])
set_option maxRecDepth 10000 in
theorem best_r (s:Sc) {B:Nat} (hB:∀ m∈s.lems,Fq m.v B) (hB2:B≤100000000000) (hl:s.lems.length≤1000000) (u:Int):Ctr Tryz.prog 27 [scV s,V.one (Leaf.val (.int .i64 (u)))] (R.tup [V.one (Leaf.val (.int .i64 (((best s.lems u).1:Nat):Int))),V.one (Leaf.val (.int .i64 (((best s.lems u).2:Nat):Int)))]):=by
 refine bd_ Tryz.func27 Tryz.ntmps27 rfl (fun w0 A0=>?_)
 refine zc 20 rfl ?_
 refine lpR_ (fun m Γ H=>∃ (i:Nat) (lo hi:Nat),s.lems.length - i = m∧Γ = [(1,some (D.val (.int .i64 u))),(2,some (D.ptr 0 0)),(6,some (D.val (.int .i64 ((lo:Nat):Int)))),(7,some (D.val (.int .i64 ((hi:Nat):Int)))),(8,some (D.val (.int .i64 (((i + 1):Nat):Int))))]∧H = [hb_ 42 (scL s)]∧i≤s.lems.length∧(lo,hi) = bestn s.lems u i) ⟨0,0,0,rfl,rfl,rfl,Nat.zero_le _,rfl⟩ rfl ?_
 rintro m Γ H ⟨i,lo,hi,rfl,rfl,rfl,hi0,hs⟩
 refine zc 6 rfl (tq_ rfl (jln rfl) ?_)
 by_cases hi_:i < s.lems.length
 ·refine tq_ rfl (leT rfl) (zl 8 rfl ?_)
  obtain ⟨x,hx⟩:∃ x,s.lems[i]? = some x:=⟨_,List.getElem?_eq_getElem (by omega)⟩
  haveI hxb:=hB x (List.mem_of_getElem? hx)
  have hbn:=bestn_ok s.lems u i
  rw [← hs] at hbn
  obtain ⟨hlo,hhi,_,_⟩:=hbn
  refine zc 4 rfl (tq_ rfl (jsb i rfl) (tq_ rfl (jix i hx rfl) (tq_ rfl (jlr rfl) (zl 10 rfl ?_))))
  by_cases hne:x.unit≠u
  ·refine tq_ rfl (neT rfl) (zl 9 rfl (tq_ rfl (jad ((i + 1) + 1) rfl) (zl 2 rfl (At_free 1 (trim_ 1 rfl ?_)))))
   exact nx_ ⟨i + 1,_,_,rfl,rfl,rfl,(by omega),by rw [bestn_succ,← hs];exact (bstp_ne hx hne).symm⟩ rfl
  ·refine tq_ rfl (neF rfl) (zl 7 rfl ?_)
   have hu:x.unit = u:=Classical.not_not.1 hne
   refine dr_ 0 [] [] (dz 3 rfl ?_)
   refine ktw_ rfl (fun hup=>?_) (fun hup=>?_)
   ·refine dz 16 rfl (DK_nil (za 5 rfl (dr_ 0 [] [] (dz 2 rfl (kis_ false rfl (hup) (dz 3 rfl ?_))))))
    by_cases hv:lo = 0
    ·refine kq_ rfl (eqT rfl) (dz 14 rfl (DK_nil (za 10 rfl (tq_ rfl (jad ((i + 1) + 1) rfl) (zl 2 rfl (At_free 1 (trim_ 1 rfl ?_)))))))
     exact nx_ ⟨i + 1,_,_,rfl,rfl,rfl,(by omega),by rw [bestn_succ,← hs];exact (bstp_lt (s:=(lo,hi)) hx hu hup (.inl hv)).symm⟩ rfl
    ·refine kq_ rfl (eqF rfl) (dz 6 rfl ?_)
     obtain ⟨y,hy⟩:∃ y,s.lems[lo - 1]? = some y:=⟨_,List.getElem?_eq_getElem (by omega)⟩
     haveI hyb:=hB y (List.mem_of_getElem? hy)
     have hly:=lv_get hy
     refine kq_ rfl (jsb (lo - 1) rfl) (kq_ rfl (jix (lo - 1) hy rfl) (kq_ rfl (jft rfl) (kq_ rfl (jlr rfl) (kc_ fn22 rfl (rqcmp x.v (x.v.q) rfl (Fq.use (x:=x.v) (by omega)) y.v (y.v.q) rfl (Fq.use (x:=y.v) (by omega))) ?_))))
     by_cases hc:lv s.lems lo < x.v.q
     ·refine kq_ rfl (gtT rfl (by rw [cmpq_gt,← hly];exact hc)) (dz 2 rfl (DK_nil (za 10 rfl (tq_ rfl (jad ((i + 1) + 1) rfl) (zl 2 rfl (At_free 1 (trim_ 1 rfl ?_)))))))
      exact nx_ ⟨i + 1,_,_,rfl,rfl,rfl,(by omega),by rw [bestn_succ,← hs];exact (bstp_lt (s:=(lo,hi)) hx hu hup (.inr hc)).symm⟩ rfl
     ·refine kq_ rfl (gtF rfl (by rw [cmpq_gt,← hly];exact hc)) (dz 2 rfl (DK_nil (za 7 rfl (tq_ rfl (jad ((i + 1) + 1) rfl) (zl 2 rfl (At_free 1 (trim_ 1 rfl ?_)))))))
      exact nx_ ⟨i + 1,_,_,rfl,rfl,rfl,(by omega),by rw [bestn_succ,← hs];exact (bstp_lf (s:=(lo,hi)) hx hu hup (fun h=>h.elim hv hc)).symm⟩ rfl
   ·refine dz 1 rfl ?_
    by_cases hv:hi = 0
    ·refine kq_ rfl (eqT rfl) (dz 14 rfl (DK_nil (za 8 rfl (dr_ 0 [] [] (dz 2 rfl (kis_ true rfl (hup) (dz 18 rfl (DK_nil (za 7 rfl ?_)))))))))
     refine tq_ rfl (jad ((i + 1) + 1) rfl) (zl 2 rfl (At_free 1 (trim_ 1 rfl ?_)))
     exact nx_ ⟨i + 1,_,_,rfl,rfl,rfl,(by omega),by rw [bestn_succ,← hs];exact (bstp_ut (s:=(lo,hi)) hx hu hup (.inl hv)).symm⟩ rfl
    ·refine kq_ rfl (eqF rfl) (dz 6 rfl ?_)
     obtain ⟨y,hy⟩:∃ y,s.lems[hi - 1]? = some y:=⟨_,List.getElem?_eq_getElem (by omega)⟩
     haveI hyb:=hB y (List.mem_of_getElem? hy)
     have hly:=lv_get hy
     refine kq_ rfl (jsb (hi - 1) rfl) (kq_ rfl (jix (hi - 1) hy rfl) (kq_ rfl (jft rfl) (kq_ rfl (jlr rfl) (kc_ fn22 rfl (rqcmp x.v (x.v.q) rfl (Fq.use (x:=x.v) (by omega)) y.v (y.v.q) rfl (Fq.use (x:=y.v) (by omega))) ?_))))
     by_cases hc:x.v.q < lv s.lems hi
     ·refine kq_ rfl (ltT rfl (by rw [cmpq_lt,← hly];exact hc)) (dz 2 rfl (DK_nil (za 8 rfl (dr_ 0 [] [] (dz 2 rfl (kis_ true rfl (hup) (dz 18 rfl (DK_nil (za 7 rfl ?_)))))))))
      refine tq_ rfl (jad ((i + 1) + 1) rfl) (zl 2 rfl (At_free 1 (trim_ 1 rfl ?_)))
      exact nx_ ⟨i + 1,_,_,rfl,rfl,rfl,(by omega),by rw [bestn_succ,← hs];exact (bstp_ut (s:=(lo,hi)) hx hu hup (.inr hc)).symm⟩ rfl
     ·refine kq_ rfl (ltF rfl (by rw [cmpq_lt,← hly];exact hc)) (dz 2 rfl (DK_nil (za 5 rfl (dr_ 0 [] [] (dz 2 rfl (kis_ true rfl (hup) (dz 18 rfl (DK_nil (za 7 rfl ?_)))))))))
      refine tq_ rfl (jad ((i + 1) + 1) rfl) (zl 2 rfl (At_free 1 (trim_ 1 rfl ?_)))
      exact nx_ ⟨i + 1,_,_,rfl,rfl,rfl,(by omega),by rw [bestn_succ,← hs];exact (bstp_uf (s:=(lo,hi)) hx hu hup (fun h=>h.elim hv hc)).symm⟩ rfl
 ·refine tq_ rfl (leF rfl) (zl 9 rfl ?_)
  have hie:i = s.lems.length:=by omega
  rw [hie] at hs
  refine zc 7 rfl ?_
  exact r2_ hq_ rfl (by unfold best;rw [← hs])
end Go.Proofs.YtjdbopkbfkgpdaaGreatDoor
set_option linter.unusedSimpArgs false
set_option linter.unusedVariables false
namespace Go.Proofs.YtjdbopkbfkgpdaaGreatDoor
open Go Go.RowKit Rc
set_option maxRecDepth 10000 in
theorem less_r (a b:Rw):Ctr Tryz.prog 114 [rwV a,rwV b] (R.one (V.one (Leaf.val (.bool (lessR a b))))):=by
 refine bd_ Tryz.func114 Tryz.ntmps114 rfl (fun w0 A0=>?_)
 refine zc 15 rfl ?_
 by_cases h1:a.kind≠b.kind
 ·refine tq_ rfl (neT rfl) (zl 14 rfl ?_)
  exact r1_ hq_ rfl (by unfold lessR;rw [if_pos h1])
 ·refine tq_ rfl (neF rfl) (zl 10 rfl ?_)
  by_cases h2:a.idx≠b.idx
  ·refine tq_ rfl (neT rfl) (zl 14 rfl ?_)
   exact r1_ hq_ rfl (by unfold lessR;rw [if_neg h1,if_pos h2])
  ·refine tq_ rfl (neF rfl) (zl 10 rfl ?_)
   by_cases h3:a.lo≠b.lo
   ·refine tq_ rfl (neT rfl) (zl 14 rfl ?_)
    exact r1_ hq_ rfl (by unfold lessR;rw [if_neg h1,if_neg h2,if_pos h3])
   ·refine tq_ rfl (neF rfl) (zl 17 rfl ?_)
    exact r1_ hq_ rfl (by unfold lessR;rw [if_neg h1,if_neg h2,if_neg h3])
set_option maxRecDepth 10000 in
theorem plus_r (l:List Mu) (r:Rw) (c:Rat) {B C:Nat} (hB:MB B l) [Br c C] (hBC:B + C≤300000000000) (hl:l.length≤100000):Ctr Tryz.prog 74 [V.one (El.row muE l),rwV r,V.agg (qL (c))] (R.one (V.one (El.row muE (plusM l r c)))):=by
 refine bd_ Tryz.func74 Tryz.ntmps74 rfl (fun w0 A0=>?_)
 refine zc 11 rfl (tc_ fn63 rfl (rqsign (qOf (c)) (c) (qOf_q _) (Br.use (by omega))) ?_)
 by_cases hc0:c = 0
 ·refine tq_ rfl (eqT rfl (by rw [hc0];rfl)) (zl 9 rfl ?_)
  exact r1_ hq_ rfl (by unfold plusM;rw [if_pos hc0])
 ·refine tq_ rfl (eqF rfl (sg_ne hc0)) (zl 12 rfl ?_)
  refine lpR_ (fun m Γ H=>∃ (k:Nat),l.length - k = m∧Γ = [(0,some (D.v (V.one (El.row muE l)))),(4,some (D.ptr 0 0)),(5,some (D.ptr 1 0)),(7,some (D.val (.int .i64 ((k:Nat):Int))))]∧H = [hb_ 105 [Leaf.val (.int .i64 r.kind),Leaf.val (.int .i64 r.idx),Leaf.val (.int .i64 r.lo),Leaf.val (.int .i64 r.hi)],hb_ 34 (qL c)]∧k≤l.length∧∀ (i:Nat) (m:Mu),i < k→l[i]? = some m→lessR m.r r = true) ⟨0,rfl,rfl,rfl,Nat.zero_le _,fun i m hi=>by omega⟩ rfl ?_
  rintro m Γ H ⟨k,rfl,rfl,rfl,hk0,hlt⟩
  refine zc 2 rfl (dr_ 0 [] [] (dz 2 rfl (kq_ rfl (jln rfl) ?_)))
  by_cases hk:k < l.length
  ·refine kq_ rfl (ltT rfl) (dz 1 rfl ?_)
   obtain ⟨x,hx⟩:∃ x,l[k]? = some x:=⟨_,List.getElem?_eq_getElem hk⟩
   haveI hxb:=hB x (List.mem_of_getElem? hx)
   refine dz 2 rfl (kq_ rfl (jix k hx rfl) (kq_ rfl (jft rfl) (kq_ rfl (jlr rfl) (dz 1 rfl (kc_ fn114 rfl (less_r x.r r) (dz 1 rfl (DK_nil (za 1 rfl ?_))))))))
   refine Tc_cond rfl (fun hls=>?_) (fun hls=>?_)
   ·refine zc 5 rfl (tq_ rfl (jad (k + 1) rfl) (zl 3 rfl ?_))
    exact nx_ ⟨k + 1,rfl,rfl,rfl,hk,fun i m hi hm=>if e:i = k then (by subst e;rw [hx] at hm;cases hm;exact hls) else hlt i m (by omega) hm⟩ rfl
   ·refine zc 7 rfl (Tl_build0 rfl rfl rfl rfl un62 ty107 rfl (Tl_ownG 28 2 rfl rfl (zl 2 rfl (tq_ rfl (Jq_sliceR_hi muE l (k) rfl rfl rfl un62 ty107 rfl (by omega)) (te_ rfl (jal (e:=muE) (l:=[]) rfl rfl) (zl 5 rfl (dr_ 0 [] [] (dz 2 rfl (kq_ rfl (jln rfl) ?_)))))))))
    refine kq_ rfl (ltT rfl) (dz 3 rfl (kq_ rfl (jix k hx rfl) (kq_ rfl (jft rfl) (kq_ rfl (jlr rfl) (dz 1 rfl ?_)))))
    by_cases heq:x.r = r
    ·refine kq_ rfl (Jq_eql4 rfl rfl rfl row_i4 (d:=true) (eq4_t heq)) (dz 1 rfl (DK_nil (za 3 rfl (dr_ 0 [(11,2)] [2] (dz 4 rfl (kq_ rfl (jix k hx rfl) (kq_ rfl (jfr rfl) (kq_ rfl (jlr rfl) (dz 1 rfl ?_)))))))))
     refine kc_ fn57 rfl (rqadd x.c (x.c.q) rfl (Fq.use (x:=x.c) (by omega)) (qOf (c)) (c) (qOf_q _) (Br.use (by omega))) (dz 1 rfl (ke_ rfl (fun _=>Je_buildSlice rfl un62 ty107 tz107 rfl (by decide) (by decide) rfl (by decide) rfl) (ki_ 2 rfl (dap (e:=muE) (⟨⟨r.kind,r.idx,r.lo,r.hi⟩,(qOf ((x.c.q) + (c)))⟩) rfl rfl) (dz 1 rfl (DK_nil (za 3 rfl (tq_ rfl (jad (k + 1) rfl) ?_)))))))
     refine zl 8 rfl (tq_ rfl (Jq_sliceR_lo muE l (k + 1) rfl rfl rfl un62 ty107 rfl (by omega)) (te_ rfl (jal rfl rfl) (zl 3 rfl ?_)))
     refine Tc_viewS 6 (x':=V.one (El.row muE ([] ++ (l.take (k)) ++ [⟨⟨r.kind,r.idx,r.lo,r.hi⟩,(qOf ((x.c.q) + (c)))⟩] ++ (l.drop (k + 1))))) rfl (RowAt.ofE muE ([] ++ (l.take (k)) ++ [⟨⟨r.kind,r.idx,r.lo,r.hi⟩,(qOf ((x.c.q) + (c)))⟩] ++ (l.drop (k + 1))) rfl (by decide)) (.inr ⟨rfl,rfl⟩) ?_
     exact r1_ hq_ rfl (by unfold plusM;rw [if_neg hc0,insM_eq hlt hx heq] <;> rfl)
    ·refine kq_ rfl (Jq_eql4 rfl rfl rfl row_i4 (d:=false) (eq4_f heq)) (dz 1 rfl (DK_nil (za 2 rfl (dr_ 0 [(6,2)] [2] (dz 3 rfl (kc_ fn65 rfl (rqcanon (qOf (c)) (c) (qOf_q _) (Br.use (by omega))) (dz 1 rfl (ke_ rfl (fun _=>Je_buildSlice rfl un62 ty107 tz107 rfl (by decide) (by decide) rfl (by decide) rfl) ?_))))))))
     refine ki_ 2 rfl (dap (e:=muE) (⟨⟨r.kind,r.idx,r.lo,r.hi⟩,(qOf (c))⟩) rfl rfl) (dz 1 rfl (DK_nil (za 6 rfl (tq_ rfl (Jq_sliceR_lo muE l (k) rfl rfl rfl un62 ty107 rfl (by omega)) (te_ rfl (jal rfl rfl) (zl 3 rfl ?_))))))
     refine Tc_viewS 6 (x':=V.one (El.row muE ([] ++ (l.take (k)) ++ [⟨⟨r.kind,r.idx,r.lo,r.hi⟩,(qOf (c))⟩] ++ (l.drop (k))))) rfl (RowAt.ofE muE ([] ++ (l.take (k)) ++ [⟨⟨r.kind,r.idx,r.lo,r.hi⟩,(qOf (c))⟩] ++ (l.drop (k))) rfl (by decide)) (.inr ⟨rfl,rfl⟩) ?_
     exact r1_ hq_ rfl (by unfold plusM;rw [if_neg hc0,insM_ne hlt hx hls heq] <;> rfl)
  ·refine kq_ rfl (ltF rfl) (dz 9 rfl (DK_nil (za 8 rfl ?_)))
   have hke:k = l.length:=by omega
   refine zc 1 rfl (Tl_build0 rfl rfl rfl rfl un62 ty107 rfl (Tl_ownG 28 2 rfl rfl (zl 2 rfl (tq_ rfl (Jq_sliceR_hi muE l (k) rfl rfl rfl un62 ty107 rfl (by omega)) (te_ rfl (jal (e:=muE) (l:=[]) rfl rfl) (zl 5 rfl (dr_ 0 [] [] (dz 2 rfl (kq_ rfl (jln rfl) ?_)))))))))
   refine kq_ rfl (ltF rfl) (dz 9 rfl (DK_nil (za 2 rfl (dr_ 0 [(6,2)] [2] (dz 3 rfl (kc_ fn65 rfl (rqcanon (qOf (c)) (c) (qOf_q _) (Br.use (by omega))) (dz 1 rfl (ke_ rfl (fun _=>Je_buildSlice rfl un62 ty107 tz107 rfl (by decide) (by decide) rfl (by decide) rfl) (ki_ 2 rfl (dap (e:=muE) (⟨⟨r.kind,r.idx,r.lo,r.hi⟩,(qOf (c))⟩) rfl rfl) ?_)))))))))
   refine dz 1 rfl (DK_nil (za 6 rfl (tq_ rfl (Jq_sliceR_lo muE l (k) rfl rfl rfl un62 ty107 rfl (by omega)) (te_ rfl (jal rfl rfl) (zl 3 rfl ?_)))))
   refine Tc_viewS 6 (x':=V.one (El.row muE ([] ++ (l.take (k)) ++ [⟨⟨r.kind,r.idx,r.lo,r.hi⟩,(qOf (c))⟩] ++ (l.drop (k))))) rfl (RowAt.ofE muE ([] ++ (l.take (k)) ++ [⟨⟨r.kind,r.idx,r.lo,r.hi⟩,(qOf (c))⟩] ++ (l.drop (k))) rfl (by decide)) (.inr ⟨rfl,rfl⟩) ?_
   exact r1_ hq_ rfl (by unfold plusM;rw [if_neg hc0,insM_end (fun i m hi=>hlt i m (by omega)),hke,List.take_length,List.drop_length,List.append_nil] <;> rfl)
end Go.Proofs.YtjdbopkbfkgpdaaGreatDoor
