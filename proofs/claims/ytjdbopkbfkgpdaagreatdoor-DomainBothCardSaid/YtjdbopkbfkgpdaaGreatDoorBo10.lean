/- Parts of the proof, 10: the texts WlT, WlS, Best, Awk, WlU, Fw1, Lw23, Both, WlZ, as far as they are used. -/
import Derived.Test.YtjdbopkbfkgpdaaGreatDoorBo09
set_option linter.unusedSimpArgs false
set_option linter.unusedVariables false
namespace Go.Proofs.YtjdbopkbfkgpdaaGreatDoor
open Go Go.RowKit Rc
set_option maxRecDepth 10000 in
theorem round_p (x:Rat) (up:Bool) (bits:Int) {H:Nat} (hx:Hb x H) (hH:H < 35200) (h0:0≤bits) (h4:bits≤4096):Ctr Tryz.prog 44 [V.agg (qL (x)),V.one (Leaf.val (.bool up)),V.one (Leaf.val (.int .i64 (bits)))] (R.one (V.agg (qL (rndB x up bits)))):=by
 refine bd_ Tryz.func44 Tryz.ntmps44 rfl (fun w0 A0=>?_)
 haveI hbr:Br x 1100:=hx.limb (by omega)
 refine zc 10 rfl ?_
 by_cases hb0:bits = 0
 ·refine tq_ rfl (eqT rfl) (zl 9 rfl ?_)
  exact r1_ hq_ rfl (by unfold rndB;rw [if_pos hb0] <;> rfl)
 ·refine tq_ rfl (eqF rfl) (zl 16 rfl ?_)
  refine Tc_cond rfl (fun hup=>?_) (fun hup=>?_)
  ·refine zc 9 rfl (te_ rfl (Je_callV rfl rfl fn88 rfl (dup (qOf x) x (qOf_q _) (Br.use (by omega)) bits)) (zl 3 rfl (eq_ (D.val (.int .i64 0)) rfl (by unfold rndE;rw [if_neg (by omega)]) (zl 18 rfl (tc_ fn89 rfl (drat (rndD x bits (decide (0 < sg x))) (Bd.use (by omega))) (zl 3 rfl ?_))))))
   exact r1_ hq_ rfl (by unfold rndB;rw [if_neg hb0,if_pos hup] <;> rfl)
  ·refine zc 7 rfl (te_ rfl (Je_callV rfl rfl fn87 rfl (ddown (qOf x) x (qOf_q _) (Br.use (by omega)) bits)) (zl 3 rfl (eq_ (D.val (.int .i64 0)) rfl (by unfold rndE;rw [if_neg (by omega)]) (zl 18 rfl (tc_ fn89 rfl (drat (rndD x bits (decide (sg x < 0))) (Bd.use (by omega))) (zl 3 rfl ?_))))))
   exact r1_ hq_ rfl (by unfold rndB;rw [if_neg hb0,if_neg (by rw [hup];decide)] <;> rfl)
set_option maxRecDepth 10000 in
set_option maxHeartbeats 2000000 in
theorem drun (d:Dom) (hdm:DomOk d) (tD fL:Nat) (cs:List Value) (hone:cs.all Value.oneCell' = true) (hm:methF Tryz.prog tD "Lower" = some fL) (hfL:FnOk Tryz.prog fL) (hL:∀ (s:Sc) (f:Af),SOk s→FOk 3 (s.q.g.inp + s.q.g.us.length) f→Ctr Tryz.prog fL [V.agg (vals cs),scV s,afV f] (R.tup [qV (qOf (d s f).1),V.one (El.row muE (d s f).2.1),V.one (Leaf.val (.bool (d s f).2.2))])) (s:Sc) (hs:SOk s) (h80:s.lems.length≤80) (bits:Int) (h0:0≤bits) (h4:bits≤4096):Ctr Tryz.prog 12 [V.one (Leaf.val (ifV tD cs)),scV s,V.one (Leaf.val (.int .i64 (bits)))] (R.tup [scV (runM d s bits),V.one (Leaf.val (.int .i64 0))]):=by
 refine bd_ Tryz.func12 Tryz.ntmps12 rfl (fun w0 A0=>?_)
 have hq:=hs.q;have hd:=hs.d;have hpl:=hs.pl;have hB:=hs.B;have hll:=hs.ll
 have hg:=hq.g;have hr:=hq.r;have hlo:=hr.lo;have hhi:=hr.hi
 have g1:=hg.i1;have g2:=hg.i3;have g3:=hg.u4;have g4:=hg.o1;have g5:=hg.o3
 refine zc 13 rfl (tq_ rfl (Jq_eql_if rfl rfl rfl (by kernel_rfl)) (zl 3 rfl (tc_ fn36 rfl (qvalid_p s.q hq) (zl 4 rfl (tq_ rfl (ltF rfl) (zl 3 rfl (tq_ rfl (gtF rfl) (zl 7 rfl (nz_ [so 3 (D.ptr 0 0),so 4 (D.ptr 1 0),so 5 (D.ptr 2 0),so 6 (D.ptr 3 0)] [hb_ 83 [Leaf.val (ifV tD cs)],hb_ 42 (scL s),hb_ 3 [Leaf.val (.int .i64 bits)],hb_ 42 scZ] rfl rfl ?_)))))))))
 refine dr_ 1 [(5,4),(7,1),(9,1)] [4,1] (dz 1 rfl (kp_ [4] rfl (jld rfl) (kc_ fn37 rfl (clone_dc s.path (by omega)) (dz 1 rfl (kp_ [4] rfl (jld rfl) (ki_ 4 rfl (Jd_callG (i:=4) rfl fn38 rfl (clone_lm s.lems (by omega)) (by decide) rfl) (dz 4 rfl (DK_nil (za 3 rfl ?_)))))))))
 refine nz_ [so 3 _,so 4 _,so 5 _,so 6 _] [_,hb_ 42 (quL s.q ++ [El.row dcE s.path,Leaf.own 4 0]),_,_,hgr 64 6 lmE s.lems 0] rfl rfl ?_
 refine Tc_pin 0 rfl (fun q1=>?_)
 refine Tc_pin 1 rfl (fun q2=>?_)
 refine Tc_pin 2 rfl (fun q3=>?_)
 refine zc 5 rfl (tq_ rfl (jln rfl) (zl 4 rfl ?_))
 refine lpR_ (fun m Γ H=>∃ (i:Nat) (n:Nat) (out:List Lm),s.q.g.us.length - i = m∧Γ = [(3,some (D.ptr 0 0)),(4,some (D.ptr 1 0)),(5,some (D.ptr 2 0)),(6,some (D.ptr 3 0)),(39,some (D.v (V.one (El.row afE s.q.g.us)))),(40,some (D.val (.int .i64 ((s.q.g.us.length:Nat):Int)))),(41,some (D.val (.int .i64 ((i:Nat):Int))))]∧H = [hbq 83 [Leaf.val (ifV tD cs)] q1,hbq 42 (quL s.q ++ [El.row dcE s.path,Leaf.own 4 n]) q2,hbq 3 [Leaf.val (.int .i64 bits)] q3,hb_ 42 scZ,hgr 64 6 lmE out n]∧i≤s.q.g.us.length∧out = Rc.runN d s bits i) ⟨0,0,s.lems,rfl,rfl,rfl,Nat.zero_le _,rfl⟩ rfl ?_
 rintro m Γ H ⟨i,n,out,rfl,rfl,rfl,hi0,hout⟩
 refine zc 2 rfl ?_
 by_cases hi:i < s.q.g.us.length
 ·refine tq_ rfl (ltT rfl) (zl 9 rfl ?_)
  obtain ⟨p,hp⟩:∃ p,s.q.g.us[i]? = some p:=⟨_,List.getElem?_eq_getElem hi⟩
  have hso:=runN_sok hdm hs h80 (bits:=bits) (n:=i) (by omega)
  have hln:=(runN_ok hdm hs h80 bits i (by omega)).2
  rw [← hout] at hso hln
  have hpf:=hq.g.us i p hp
  have hpf2:FOk 3 (s.q.g.inp + s.q.g.us.length) p:=hpf.mono (Nat.le_refl _) (by omega)
  have hnf:=hpf.neg
  have hnf2:=hpf2.neg
  have hpl_:=hpf2.fl
  haveI:=hpl_.fm (by omega);haveI:=hpl_.cb
  have hK:=KB_le (j:=i) (by omega)
  have hrA:=runA_ok hdm hs (bits:=bits) hso hp
  refine nz_ [so 3 (D.ptr 0 0),so 4 (D.ptr 1 0),so 5 (D.ptr 2 0),so 6 (D.ptr 3 0),so 39 (D.v (V.one (El.row afE s.q.g.us))),so 40 (D.val (.int .i64 ((s.q.g.us.length:Nat):Int))),so 41 (D.val (.int .i64 ((i:Nat):Int)))] [hbq 83 [Leaf.val (ifV tD cs)] q1,hbq 42 (quL s.q ++ [El.row dcE s.path,Leaf.own 4 n]) q2,hbq 3 [Leaf.val (.int .i64 bits)] q3,hb_ 42 scZ,hgr 64 6 lmE out n] rfl rfl ?_
  refine zc 2 rfl (tq_ rfl (jix i hp rfl) (tq_ rfl (jlr rfl) (zl 7 rfl ?_)))
  refine Tc_pin 5 rfl (fun q6=>?_)
  refine Tc_pin 6 rfl (fun q7=>?_)
  refine zc 1 rfl ?_
  refine te_ rfl (Je_makeFunc (vs:=[.pointer (some ⟨q7,0,none⟩),.pointer (some ⟨q1,0,none⟩),.pointer (some ⟨q2,0,none⟩),.pointer (some ⟨q6,0,none⟩),.pointer (some ⟨q3,0,none⟩)]) rfl ⟨⟨_,rfl,.inr ⟨_,_,_,rfl,rfl,rfl,rfl,rfl⟩⟩,⟨_,rfl,.inr ⟨_,_,_,rfl,rfl,rfl,rfl,rfl⟩⟩,⟨_,rfl,.inr ⟨_,_,_,rfl,rfl,rfl,rfl,rfl⟩⟩,⟨_,rfl,.inr ⟨_,_,_,rfl,rfl,rfl,rfl,rfl⟩⟩,⟨_,rfl,.inr ⟨_,_,_,rfl,rfl,rfl,rfl,rfl⟩⟩,trivial⟩) ?_
  refine zl 4 rfl (nz_ [so 3 _,so 4 _,so 5 _,so 6 _,so 10 (D.val (.func (.func 39) #[] #[.pointer (some ⟨q7,0,none⟩),.pointer (some ⟨q1,0,none⟩),.pointer (some ⟨q2,0,none⟩),.pointer (some ⟨q6,0,none⟩),.pointer (some ⟨q3,0,none⟩)])),so 39 _,so 40 _,so 41 _] [_,_,_,_,_,hbq 3 [Leaf.val (.int .i64 ((i:Nat):Int))] q6,hbq 36 (afL p) q7] rfl rfl (zc 2 rfl ?_))
  refine Tl_inlineF (dc:=[D.ptr 6 0,D.ptr 0 0,D.ptr 1 0,D.ptr 5 0,D.ptr 2 0]) rfl rfl rfl ⟨.inr ⟨_,_,_,rfl,rfl,rfl,rfl,rfl⟩,.inr ⟨_,_,_,rfl,rfl,rfl,rfl,rfl⟩,.inr ⟨_,_,_,rfl,rfl,rfl,rfl,rfl⟩,.inr ⟨_,_,_,rfl,rfl,rfl,rfl,rfl⟩,.inr ⟨_,_,_,rfl,rfl,rfl,rfl,rfl⟩,trivial⟩ Tryz.func39 rfl rfl Tryz.ntmps39 (Nat.le_of_ble_eq_true rfl) rfl (fun a8 d8 s8=>?_)
  refine qc_ (zc 19 rfl (tq_ rfl (jvl 11 rfl rfl) (zl 1 rfl (te_ rfl (Je_invoke rfl rfl hm hfL rfl (hL (withL s out) p hso hpf2) hone) (zl 17 rfl ?_)))))
  refine Tc_cond rfl (fun hb1n=>?_) (fun hb1n=>?_)
  ·refine Tc_retI0 [(3,some (D.ptr 0 0)),(4,some (D.ptr 1 0)),(5,some (D.ptr 2 0)),(6,some (D.ptr 3 0)),(10,some (D.val (.func (.func 39) #[] #[.pointer (some ⟨q7,0,none⟩),.pointer (some ⟨q1,0,none⟩),.pointer (some ⟨q2,0,none⟩),.pointer (some ⟨q6,0,none⟩),.pointer (some ⟨q3,0,none⟩)]))),(39,some (D.v (V.one (El.row afE s.q.g.us)))),(40,some (D.val (.int .i64 ((s.q.g.us.length:Nat):Int)))),(41,some (D.val (.int .i64 ((i:Nat):Int))))] (fun _ _ h=>h) d8 s8 rfl rfl ⟨rfl,rfl,rfl,rfl,rfl,rfl,rfl,rfl,trivial⟩ ?_
   refine zl 2 rfl ?_
   have hA:runA d s bits out i p = out:=by unfold runA;rw [sideN_f1 (by have h:(d (withL s out) p).2.2 = false:=(by simpa using hb1n);exact h),List.append_nil]
   have hso1:SOk (withL s out):=by rw [← hA];exact LOk.withL hs hrA.1 (by have:=hrA.2;have hl2:out.length≤s.lems.length + 2 * i:=hln;omega)
   refine zc 2 rfl ?_
   refine Tl_inlineF (dc:=[D.ptr 6 0,D.ptr 0 0,D.ptr 1 0,D.ptr 5 0,D.ptr 2 0]) rfl rfl rfl ⟨.inr ⟨_,_,_,rfl,rfl,rfl,rfl,rfl⟩,.inr ⟨_,_,_,rfl,rfl,rfl,rfl,rfl⟩,.inr ⟨_,_,_,rfl,rfl,rfl,rfl,rfl⟩,.inr ⟨_,_,_,rfl,rfl,rfl,rfl,rfl⟩,.inr ⟨_,_,_,rfl,rfl,rfl,rfl,rfl⟩,trivial⟩ Tryz.func39 rfl rfl Tryz.ntmps39 (Nat.le_of_ble_eq_true rfl) rfl (fun a9 d9 s9=>?_)
   refine qc_ (zc 14 rfl (dr_ 0 [(3,9)] [9] (dz 1 rfl (kc_ fn41 rfl (qof_spec (-1) (by decide) (by decide)) (kc_ fn40 rfl (scale_p p ((-1:Int):Rat) hpl_ (by omega) (by omega) (by omega)) (dz 1 rfl (DK_nil (za 4 rfl (tq_ rfl (jvl 11 rfl rfl) ?_)))))))))
   refine zl 1 rfl (te_ rfl (Je_invoke rfl rfl hm hfL rfl (hL (withL s out) (negF p) hso1 hnf2) hone) (zl 17 rfl ?_))
   refine Tc_cond rfl (fun hb2n=>?_) (fun hb2n=>?_)
   ·refine Tc_retI0 [(3,some (D.ptr 0 0)),(4,some (D.ptr 1 0)),(5,some (D.ptr 2 0)),(6,some (D.ptr 3 0)),(39,some (D.v (V.one (El.row afE s.q.g.us)))),(40,some (D.val (.int .i64 ((s.q.g.us.length:Nat):Int)))),(41,some (D.val (.int .i64 ((i:Nat):Int))))] (fun _ _ h=>h) d9 s9 rfl rfl ⟨rfl,rfl,rfl,rfl,rfl,rfl,rfl,trivial⟩ (zl 4 rfl (tq_ rfl (jad (i + 1) rfl) ?_))
    refine zl 2 rfl (At_free 5 (At_free 6 (At_free 7 (At_free 8 (At_free 9 (At_free 10 (trim_ 5 rfl ?_)))))))
    exact nx_ ⟨i + 1,_,_,rfl,rfl,rfl,hi,by rw [runN_get hp,← hout,hA,sideN_f1 (by have h:(d (withL s out) (negF p)).2.2 = false:=(by simpa using hb2n);exact h)];simp only [List.append_nil]⟩ rfl
   ·refine zc 3 rfl ?_
    have hb2:(d (withL s out) (negF p)).2.2 = true:=by simpa using hb2n
    haveI h1hb2:Hb (d (withL s out) (negF p)).1 (KB i - 4200):=hdm (withL s out) hso1 i (negF p) (by exact hi) (by exact hnf) (by exact hb2)
    have h2hb2:Hb (-(d (withL s out) (negF p)).1) (KB i - 4200):=Hb.neg
    haveI h3hb2:Br (d (withL s out) (negF p)).1 34402:=h1hb2.limb (by omega)
    haveI:Br (rndB (-(d (withL s out) (negF p)).1) true bits) 38501:=((rndB_hb (up:=true) (bits:=bits) h2hb2 (by omega)).mono (show _≤38500 by omega)).br
    have hso_B_2:∀ m∈out,Fq m.v 34401:=hso1.B
    have hso_L_2:(out).length≤100:=hso1.ll
    refine zc 1 rfl (tq_ rfl (jvl 11 rfl rfl) (zl 1 rfl (tc_ fn42 rfl (best_p (withL s out) hso_B_2 (by omega) (by show (out).length≤_;omega) ((i:Nat):Int)) (zl 8 rfl ?_))))
    refine nf_ [7,8,9] [so 0 (D.bool true),so 3 (D.ptr 1 0),so 4 (D.ptr 5 0),so 5 _,so 8 (D.ptr 10 0),so 9 (D.v (V.one (El.row muE ((d (withL s out) (negF p)).2.1)))),so 11 (D.val (.int .i64 (((best out ((i:Nat):Int)).1:Nat):Int))),so 12 (D.val (.int .i64 (((best out ((i:Nat):Int)).2:Nat):Int))),so 2003 (D.ptr 0 0),so 2004 (D.ptr 1 0),so 2005 (D.ptr 2 0),so 2006 (D.ptr 3 0),so 2039 (D.v (V.one (El.row afE s.q.g.us))),so 2040 (D.val (.int .i64 ((s.q.g.us.length:Nat):Int))),so 2041 (D.val (.int .i64 ((i:Nat):Int)))] [_,_,_,_,_,_,_,none,none,none,hb_ 34 (qL ((d (withL s out) (negF p)).1))] rfl rfl rfl ?_
    refine zc 15 rfl (tc_ fn43 rfl (qneg (qOf ((d (withL s out) (negF p)).1)) ((d (withL s out) (negF p)).1) (qOf_q _) (Br.use (by omega))) (zl 7 rfl ?_))
    refine nz_ [so 0 _,so 3 _,so 4 _,so 5 _,so 8 _,so 9 _,so 13 (D.val (.int .i64 (((best out ((i:Nat):Int)).2:Nat):Int))),so 14 (D.val (.int .i64 (-1))),so 2003 _,so 2004 _,so 2005 _,so 2006 _,so 2039 _,so 2040 _,so 2041 _] [_,_,_,_,_,_,_,none,none,none,hb_ 34 (qL (-((d (withL s out) (negF p)).1)))] rfl rfl (zc 4 rfl ?_)
    refine tc_ fn44 rfl (round_p (-(d (withL s out) (negF p)).1) true bits h2hb2 (by omega) h0 h4) (zl 3 rfl ?_)
    refine mt_ [so 0 (D.bool true),so 3 (D.ptr 1 0),so 4 (D.ptr 5 0),so 8 (D.ptr 10 0),so 9 (D.v (V.one (El.row muE ((d (withL s out) (negF p)).2.1)))),so 59 (D.bool (strong out i true (rndB (-(d (withL s out) (negF p)).1) true bits))),so 2003 (D.ptr 0 0),so 2004 (D.ptr 1 0),so 2005 (D.ptr 2 0),so 2006 (D.ptr 3 0),so 2039 (D.v (V.one (El.row afE s.q.g.us))),so 2040 (D.val (.int .i64 ((s.q.g.us.length:Nat):Int))),so 2041 (D.val (.int .i64 ((i:Nat):Int)))] [hbq 83 [Leaf.val (ifV tD cs)] q1,hbq 42 (quL s.q ++ [El.row dcE s.path,Leaf.own 4 n]) q2,hbq 3 [Leaf.val (.int .i64 bits)] q3,hb_ 42 scZ,hgr 64 6 lmE out n,hbq 3 [Leaf.val (.int .i64 ((i:Nat):Int))] q6,hbq 36 (afL p) q7,none,none,none,hb_ 34 (qL (rndB (-(d (withL s out) (negF p)).1) true bits))] ?_ ?_
    ·refine dr_ 0 [] [] (dz 1 rfl ?_)
     by_cases hk2:(best out ((i:Nat):Int)).2 = 0
     ·refine kq_ rfl (eqT rfl) (dz 13 rfl (kis_ (strong out i true (rndB (-(d (withL s out) (negF p)).1) true bits)) rfl (by exact (strong_ut (.inl hk2)).symm) (DK_nil ?_)))
      exact mx_ rfl
     ·refine kq_ rfl (eqF rfl) (dz 3 rfl ?_)
      obtain ⟨y,hy,_,_,hly,hy0,hyl⟩:=best_hi hk2
      haveI hyB:=hso_B_2 y (List.mem_of_getElem? hy)
      refine kq_ rfl (Jq_view (r:=4) (n:=n) (x:=V.one (Leaf.own 4 n)) (x':=V.one (El.row lmE out)) (Jq_load rfl rfl rfl (by decide) ty40 rfl) (RowAt.ofE lmE out rfl (by decide)) (by decide) (.inr ⟨rfl,rfl⟩)) (dz 1 rfl (kq_ rfl (jsb ((best out ((i:Nat):Int)).2 - 1) rfl) (kq_ rfl (jix ((best out ((i:Nat):Int)).2 - 1) hy rfl) (kq_ rfl (jft rfl) (kq_ rfl (jlr rfl) ?_)))))
      refine kc_ fn45 rfl (qcmp (qOf ((rndB (-(d (withL s out) (negF p)).1) true bits))) ((rndB (-(d (withL s out) (negF p)).1) true bits)) (qOf_q _) (Br.use (by omega)) y.v (y.v.q) rfl (Fq.use (x:=y.v) (by omega))) (dz 1 rfl ?_)
      by_cases hc2:rndB (-(d (withL s out) (negF p)).1) true bits < lv out (best out ((i:Nat):Int)).2
      ·refine kq_ rfl (eqT rfl (by rw [cmpq_lt1,← hly];exact hc2)) (dz 1 rfl (kis_ (strong out i true (rndB (-(d (withL s out) (negF p)).1) true bits)) rfl (by exact (strong_ut (.inr hc2)).symm) (DK_nil ?_)))
       exact mx_ rfl
      ·refine kq_ rfl (eqF rfl (fun e=>hc2 (by rw [hly];exact cmpq_lt1.1 e))) (dz 1 rfl (kis_ (strong out i true (rndB (-(d (withL s out) (negF p)).1) true bits)) rfl (by exact (strong_uf hk2 hc2).symm) (DK_nil ?_)))
       exact mx_ rfl
    ·refine Tc_cond rfl (fun hs2=>?_) (fun hs2=>?_)
     ·refine zc 8 rfl (te_ rfl (Je_buildSlice rfl un40 ty64 tz64 rfl (by decide) (by decide) rfl (by decide) rfl) (te_ rfl (jap (e:=lmE) (⟨((i:Nat):Int),true,(qOf ((rndB (-(d (withL s out) (negF p)).1) true bits))),(d (withL s out) (negF p)).2.1⟩) rfl rfl) (zl 3 rfl ?_)))
      refine At_retI0 [(3,some (D.ptr 0 0)),(4,some (D.ptr 1 0)),(5,some (D.ptr 2 0)),(6,some (D.ptr 3 0)),(39,some (D.v (V.one (El.row afE s.q.g.us)))),(40,some (D.val (.int .i64 ((s.q.g.us.length:Nat):Int)))),(41,some (D.val (.int .i64 ((i:Nat):Int))))] d9 s9 rfl rfl ⟨rfl,rfl,rfl,rfl,rfl,rfl,rfl,trivial⟩ (zl 4 rfl (tq_ rfl (jad (i + 1) rfl) (zl 2 rfl ?_)))
      refine At_free 5 (At_free 6 (At_free 10 (trim_ 5 rfl ?_)))
      exact nx_ ⟨i + 1,_,_,rfl,rfl,rfl,hi,by rw [runN_get hp,← hout,hA,sideN_t (by exact hb2) (by exact hs2)];rfl⟩ rfl
     ·refine zc 1 rfl (At_retI0 [(3,some (D.ptr 0 0)),(4,some (D.ptr 1 0)),(5,some (D.ptr 2 0)),(6,some (D.ptr 3 0)),(39,some (D.v (V.one (El.row afE s.q.g.us)))),(40,some (D.val (.int .i64 ((s.q.g.us.length:Nat):Int)))),(41,some (D.val (.int .i64 ((i:Nat):Int))))] d9 s9 rfl rfl ⟨rfl,rfl,rfl,rfl,rfl,rfl,rfl,trivial⟩ (zl 4 rfl (tq_ rfl (jad (i + 1) rfl) ?_)))
      refine zl 2 rfl (At_free 5 (At_free 6 (At_free 10 (trim_ 5 rfl ?_))))
      exact nx_ ⟨i + 1,_,_,rfl,rfl,rfl,hi,by rw [runN_get hp,← hout,hA,sideN_f2 (by exact hs2)];simp only [List.append_nil]⟩ rfl
  ·refine zc 3 rfl ?_
   have hb1:(d (withL s out) p).2.2 = true:=by simpa using hb1n
   haveI h1hb1:Hb (d (withL s out) p).1 (KB i - 4200):=hdm (withL s out) hso i p (by exact hi) (by exact hpf) (by exact hb1)
   have h2hb1:=h1hb1
   haveI h3hb1:Br (d (withL s out) p).1 34402:=h1hb1.limb (by omega)
   haveI:Br (rndB (d (withL s out) p).1 false bits) 38501:=((rndB_hb (up:=false) (bits:=bits) h2hb1 (by omega)).mono (show _≤38500 by omega)).br
   have hso_B_1:∀ m∈out,Fq m.v 34401:=hso.B
   have hso_L_1:(out).length≤100:=hso.ll
   refine zc 1 rfl (tq_ rfl (jvl 11 rfl rfl) (zl 1 rfl (tc_ fn42 rfl (best_p (withL s out) hso_B_1 (by omega) (by show (out).length≤_;omega) ((i:Nat):Int)) (zl 8 rfl ?_))))
   refine nf_ [7] [so 0 (D.bool false),so 3 (D.ptr 1 0),so 4 (D.ptr 5 0),so 5 _,so 8 (D.ptr 8 0),so 9 (D.v (V.one (El.row muE ((d (withL s out) p).2.1)))),so 11 (D.val (.int .i64 (((best out ((i:Nat):Int)).1:Nat):Int))),so 12 (D.val (.int .i64 (((best out ((i:Nat):Int)).2:Nat):Int))),so 2003 (D.ptr 0 0),so 2004 (D.ptr 1 0),so 2005 (D.ptr 2 0),so 2006 (D.ptr 3 0),so 2010 (D.val (.func (.func 39) #[] #[.pointer (some ⟨q7,0,none⟩),.pointer (some ⟨q1,0,none⟩),.pointer (some ⟨q2,0,none⟩),.pointer (some ⟨q6,0,none⟩),.pointer (some ⟨q3,0,none⟩)])),so 2039 (D.v (V.one (El.row afE s.q.g.us))),so 2040 (D.val (.int .i64 ((s.q.g.us.length:Nat):Int))),so 2041 (D.val (.int .i64 ((i:Nat):Int)))] [_,_,_,_,_,_,_,none,hb_ 34 (qL ((d (withL s out) p).1))] rfl rfl rfl ?_
   refine zc 20 rfl (tc_ fn44 rfl (round_p ((d (withL s out) p).1) false bits h2hb1 (by omega) h0 h4) (zl 3 rfl ?_))
   refine mt_ [so 0 (D.bool false),so 3 (D.ptr 1 0),so 4 (D.ptr 5 0),so 8 (D.ptr 8 0),so 9 (D.v (V.one (El.row muE ((d (withL s out) p).2.1)))),so 59 (D.bool (strong out i false (rndB (d (withL s out) p).1 false bits))),so 2003 (D.ptr 0 0),so 2004 (D.ptr 1 0),so 2005 (D.ptr 2 0),so 2006 (D.ptr 3 0),so 2010 (D.val (.func (.func 39) #[] #[.pointer (some ⟨q7,0,none⟩),.pointer (some ⟨q1,0,none⟩),.pointer (some ⟨q2,0,none⟩),.pointer (some ⟨q6,0,none⟩),.pointer (some ⟨q3,0,none⟩)])),so 2039 (D.v (V.one (El.row afE s.q.g.us))),so 2040 (D.val (.int .i64 ((s.q.g.us.length:Nat):Int))),so 2041 (D.val (.int .i64 ((i:Nat):Int)))] [hbq 83 [Leaf.val (ifV tD cs)] q1,hbq 42 (quL s.q ++ [El.row dcE s.path,Leaf.own 4 n]) q2,hbq 3 [Leaf.val (.int .i64 bits)] q3,hb_ 42 scZ,hgr 64 6 lmE out n,hbq 3 [Leaf.val (.int .i64 ((i:Nat):Int))] q6,hbq 36 (afL p) q7,none,hb_ 34 (qL (rndB (d (withL s out) p).1 false bits))] ?_ ?_
   ·refine nz_ [so 0 _,so 3 _,so 4 _,so 8 _,so 9 _,so 13 (D.val (.int .i64 (((best out ((i:Nat):Int)).1:Nat):Int))),so 14 (D.val (.int .i64 1)),so 2003 _,so 2004 _,so 2005 _,so 2006 _,so 2010 _,so 2039 _,so 2040 _,so 2041 _] [_,_,_,_,_,_,_,none,hb_ 34 (qL (rndB (d (withL s out) p).1 false bits))] rfl rfl (dr_ 0 [] [] (dz 1 rfl ?_))
    by_cases hk1:(best out ((i:Nat):Int)).1 = 0
    ·refine kq_ rfl (eqT rfl) (dz 13 rfl (kis_ (strong out i false (rndB (d (withL s out) p).1 false bits)) rfl (by exact (strong_lt (.inl hk1)).symm) (DK_nil ?_)))
     exact mx_ rfl
    ·refine kq_ rfl (eqF rfl) (dz 3 rfl ?_)
     obtain ⟨y,hy,_,_,hly,hy0,hyl⟩:=best_lo hk1
     haveI hyB:=hso_B_1 y (List.mem_of_getElem? hy)
     refine kq_ rfl (Jq_view (r:=4) (n:=n) (x:=V.one (Leaf.own 4 n)) (x':=V.one (El.row lmE out)) (Jq_load rfl rfl rfl (by decide) ty40 rfl) (RowAt.ofE lmE out rfl (by decide)) (by decide) (.inr ⟨rfl,rfl⟩)) (dz 1 rfl (kq_ rfl (jsb ((best out ((i:Nat):Int)).1 - 1) rfl) (kq_ rfl (jix ((best out ((i:Nat):Int)).1 - 1) hy rfl) (kq_ rfl (jft rfl) (kq_ rfl (jlr rfl) ?_)))))
     refine kc_ fn45 rfl (qcmp (qOf ((rndB (d (withL s out) p).1 false bits))) ((rndB (d (withL s out) p).1 false bits)) (qOf_q _) (Br.use (by omega)) y.v (y.v.q) rfl (Fq.use (x:=y.v) (by omega))) (dz 1 rfl ?_)
     by_cases hc1:lv out (best out ((i:Nat):Int)).1 < rndB (d (withL s out) p).1 false bits
     ·refine kq_ rfl (eqT rfl (by rw [cmpq_gt1,← hly];exact hc1)) (dz 1 rfl (kis_ (strong out i false (rndB (d (withL s out) p).1 false bits)) rfl (by exact (strong_lt (.inr hc1)).symm) (DK_nil ?_)))
      exact mx_ rfl
     ·refine kq_ rfl (eqF rfl (fun e=>hc1 (by rw [hly];exact cmpq_gt1.1 e))) (dz 1 rfl (kis_ (strong out i false (rndB (d (withL s out) p).1 false bits)) rfl (by exact (strong_lf hk1 hc1).symm) (DK_nil ?_)))
      exact mx_ rfl
   ·refine Tc_cond rfl (fun hs1=>?_) (fun hs1=>?_)
    ·refine zc 8 rfl (te_ rfl (Je_buildSlice rfl un40 ty64 tz64 rfl (by decide) (by decide) rfl (by decide) rfl) (te_ rfl (jap (e:=lmE) (⟨((i:Nat):Int),false,(qOf ((rndB (d (withL s out) p).1 false bits))),(d (withL s out) p).2.1⟩) rfl rfl) (zl 3 rfl ?_)))
     refine At_retI0 [(3,some (D.ptr 0 0)),(4,some (D.ptr 1 0)),(5,some (D.ptr 2 0)),(6,some (D.ptr 3 0)),(10,some (D.val (.func (.func 39) #[] #[.pointer (some ⟨q7,0,none⟩),.pointer (some ⟨q1,0,none⟩),.pointer (some ⟨q2,0,none⟩),.pointer (some ⟨q6,0,none⟩),.pointer (some ⟨q3,0,none⟩)]))),(39,some (D.v (V.one (El.row afE s.q.g.us)))),(40,some (D.val (.int .i64 ((s.q.g.us.length:Nat):Int)))),(41,some (D.val (.int .i64 ((i:Nat):Int))))] d8 s8 rfl rfl ⟨rfl,rfl,rfl,rfl,rfl,rfl,rfl,rfl,trivial⟩ ?_
     refine zl 2 rfl ?_
     have hA:runA d s bits out i p = out ++ [(⟨(i:Int),false,qOf (rndB (d (withL s out) p).1 false bits),(d (withL s out) p).2.1⟩:Lm)]:=by unfold runA;rw [sideN_t (by exact hb1) (by exact hs1)];rfl
     have hso1:SOk (withL s (out ++ [(⟨(i:Int),false,qOf (rndB (d (withL s out) p).1 false bits),(d (withL s out) p).2.1⟩:Lm)])):=by rw [← hA];exact LOk.withL hs hrA.1 (by have:=hrA.2;have hl2:out.length≤s.lems.length + 2 * i:=hln;omega)
     refine zc 2 rfl ?_
     refine Tl_inlineF (dc:=[D.ptr 6 0,D.ptr 0 0,D.ptr 1 0,D.ptr 5 0,D.ptr 2 0]) rfl rfl rfl ⟨.inr ⟨_,_,_,rfl,rfl,rfl,rfl,rfl⟩,.inr ⟨_,_,_,rfl,rfl,rfl,rfl,rfl⟩,.inr ⟨_,_,_,rfl,rfl,rfl,rfl,rfl⟩,.inr ⟨_,_,_,rfl,rfl,rfl,rfl,rfl⟩,.inr ⟨_,_,_,rfl,rfl,rfl,rfl,rfl⟩,trivial⟩ Tryz.func39 rfl rfl Tryz.ntmps39 (Nat.le_of_ble_eq_true rfl) rfl (fun a16 d16 s16=>?_)
     refine qc_ (zc 14 rfl (dr_ 0 [(3,9)] [9] (dz 1 rfl (kc_ fn41 rfl (qof_spec (-1) (by decide) (by decide)) (kc_ fn40 rfl (scale_p p ((-1:Int):Rat) hpl_ (by omega) (by omega) (by omega)) (dz 1 rfl (DK_nil (za 4 rfl (tq_ rfl (jvl 11 rfl rfl) ?_)))))))))
     refine zl 1 rfl (te_ rfl (Je_invoke rfl rfl hm hfL rfl (hL (withL s (out ++ [(⟨(i:Int),false,qOf (rndB (d (withL s out) p).1 false bits),(d (withL s out) p).2.1⟩:Lm)])) (negF p) hso1 hnf2) hone) (zl 17 rfl ?_))
     refine Tc_cond rfl (fun hb2n=>?_) (fun hb2n=>?_)
     ·refine Tc_retI0 [(3,some (D.ptr 0 0)),(4,some (D.ptr 1 0)),(5,some (D.ptr 2 0)),(6,some (D.ptr 3 0)),(39,some (D.v (V.one (El.row afE s.q.g.us)))),(40,some (D.val (.int .i64 ((s.q.g.us.length:Nat):Int)))),(41,some (D.val (.int .i64 ((i:Nat):Int))))] (fun _ _ h=>h) d16 s16 rfl rfl ⟨rfl,rfl,rfl,rfl,rfl,rfl,rfl,trivial⟩ (zl 4 rfl (tq_ rfl (jad (i + 1) rfl) ?_))
      refine zl 2 rfl (At_free 5 (At_free 6 (At_free 8 (At_free 9 (At_free 10 (trim_ 5 rfl ?_))))))
      exact nx_ ⟨i + 1,_,_,rfl,rfl,rfl,hi,by rw [runN_get hp,← hout,hA,sideN_f1 (by have h:(d (withL s (out ++ [(⟨(i:Int),false,qOf (rndB (d (withL s out) p).1 false bits),(d (withL s out) p).2.1⟩:Lm)])) (negF p)).2.2 = false:=(by simpa using hb2n);exact h)];simp only [List.append_nil]⟩ rfl
     ·refine zc 3 rfl ?_
      have hb2:(d (withL s (out ++ [(⟨(i:Int),false,qOf (rndB (d (withL s out) p).1 false bits),(d (withL s out) p).2.1⟩:Lm)])) (negF p)).2.2 = true:=by simpa using hb2n
      haveI h1hb2:Hb (d (withL s (out ++ [(⟨(i:Int),false,qOf (rndB (d (withL s out) p).1 false bits),(d (withL s out) p).2.1⟩:Lm)])) (negF p)).1 (KB i - 4200):=hdm (withL s (out ++ [(⟨(i:Int),false,qOf (rndB (d (withL s out) p).1 false bits),(d (withL s out) p).2.1⟩:Lm)])) hso1 i (negF p) (by exact hi) (by exact hnf) (by exact hb2)
      have h2hb2:Hb (-(d (withL s (out ++ [(⟨(i:Int),false,qOf (rndB (d (withL s out) p).1 false bits),(d (withL s out) p).2.1⟩:Lm)])) (negF p)).1) (KB i - 4200):=Hb.neg
      haveI h3hb2:Br (d (withL s (out ++ [(⟨(i:Int),false,qOf (rndB (d (withL s out) p).1 false bits),(d (withL s out) p).2.1⟩:Lm)])) (negF p)).1 34402:=h1hb2.limb (by omega)
      haveI:Br (rndB (-(d (withL s (out ++ [(⟨(i:Int),false,qOf (rndB (d (withL s out) p).1 false bits),(d (withL s out) p).2.1⟩:Lm)])) (negF p)).1) true bits) 38501:=((rndB_hb (up:=true) (bits:=bits) h2hb2 (by omega)).mono (show _≤38500 by omega)).br
      have hso_B_2:∀ m∈out ++ [(⟨(i:Int),false,qOf (rndB (d (withL s out) p).1 false bits),(d (withL s out) p).2.1⟩:Lm)],Fq m.v 34401:=hso1.B
      have hso_L_2:(out ++ [(⟨(i:Int),false,qOf (rndB (d (withL s out) p).1 false bits),(d (withL s out) p).2.1⟩:Lm)]).length≤100:=hso1.ll
      refine zc 1 rfl (tq_ rfl (jvl 11 rfl rfl) (zl 1 rfl (tc_ fn42 rfl (best_p (withL s (out ++ [(⟨(i:Int),false,qOf (rndB (d (withL s out) p).1 false bits),(d (withL s out) p).2.1⟩:Lm)])) hso_B_2 (by omega) (by show (out ++ [(⟨(i:Int),false,qOf (rndB (d (withL s out) p).1 false bits),(d (withL s out) p).2.1⟩:Lm)]).length≤_;omega) ((i:Nat):Int)) (zl 8 rfl ?_))))
      refine nf_ [8,9] [so 0 (D.bool true),so 3 _,so 4 _,so 5 _,so 8 (D.ptr 10 0),so 9 (D.v (V.one (El.row muE ((d (withL s (out ++ [(⟨(i:Int),false,qOf (rndB (d (withL s out) p).1 false bits),(d (withL s out) p).2.1⟩:Lm)])) (negF p)).2.1)))),so 11 (D.val (.int .i64 (((best (out ++ [(⟨(i:Int),false,qOf (rndB (d (withL s out) p).1 false bits),(d (withL s out) p).2.1⟩:Lm)]) ((i:Nat):Int)).1:Nat):Int))),so 12 (D.val (.int .i64 (((best (out ++ [(⟨(i:Int),false,qOf (rndB (d (withL s out) p).1 false bits),(d (withL s out) p).2.1⟩:Lm)]) ((i:Nat):Int)).2:Nat):Int))),so 2003 _,so 2004 _,so 2005 _,so 2006 _,so 2039 _,so 2040 _,so 2041 _] [_,hbq 42 (quL s.q ++ [El.row dcE s.path,Leaf.own 4 (n + 1)]) q2,_,_,hgr 64 6 lmE (out ++ [⟨((i:Nat):Int),false,(qOf ((rndB (d (withL s out) p).1 false bits))),(d (withL s out) p).2.1⟩]) (n + 1),_,_,none,none,none,hb_ 34 (qL ((d (withL s (out ++ [(⟨(i:Int),false,qOf (rndB (d (withL s out) p).1 false bits),(d (withL s out) p).2.1⟩:Lm)])) (negF p)).1))] rfl rfl rfl ?_
      refine zc 15 rfl (tc_ fn43 rfl (qneg (qOf ((d (withL s (out ++ [(⟨(i:Int),false,qOf (rndB (d (withL s out) p).1 false bits),(d (withL s out) p).2.1⟩:Lm)])) (negF p)).1)) ((d (withL s (out ++ [(⟨(i:Int),false,qOf (rndB (d (withL s out) p).1 false bits),(d (withL s out) p).2.1⟩:Lm)])) (negF p)).1) (qOf_q _) (Br.use (by omega))) (zl 7 rfl ?_))
      refine nz_ [so 0 _,so 3 _,so 4 _,so 5 _,so 8 _,so 9 _,so 13 (D.val (.int .i64 (((best (out ++ [(⟨(i:Int),false,qOf (rndB (d (withL s out) p).1 false bits),(d (withL s out) p).2.1⟩:Lm)]) ((i:Nat):Int)).2:Nat):Int))),so 14 (D.val (.int .i64 (-1))),so 2003 _,so 2004 _,so 2005 _,so 2006 _,so 2039 _,so 2040 _,so 2041 _] [_,_,_,_,_,_,_,none,none,none,hb_ 34 (qL (-((d (withL s (out ++ [(⟨(i:Int),false,qOf (rndB (d (withL s out) p).1 false bits),(d (withL s out) p).2.1⟩:Lm)])) (negF p)).1)))] rfl rfl ?_
      refine zc 4 rfl (tc_ fn44 rfl (round_p (-(d (withL s (out ++ [(⟨(i:Int),false,qOf (rndB (d (withL s out) p).1 false bits),(d (withL s out) p).2.1⟩:Lm)])) (negF p)).1) true bits h2hb2 (by omega) h0 h4) (zl 3 rfl ?_))
      refine mt_ [so 0 (D.bool true),so 3 (D.ptr 1 0),so 4 (D.ptr 5 0),so 8 (D.ptr 10 0),so 9 (D.v (V.one (El.row muE ((d (withL s (out ++ [(⟨(i:Int),false,qOf (rndB (d (withL s out) p).1 false bits),(d (withL s out) p).2.1⟩:Lm)])) (negF p)).2.1)))),so 59 (D.bool (strong (out ++ [(⟨(i:Int),false,qOf (rndB (d (withL s out) p).1 false bits),(d (withL s out) p).2.1⟩:Lm)]) i true (rndB (-(d (withL s (out ++ [(⟨(i:Int),false,qOf (rndB (d (withL s out) p).1 false bits),(d (withL s out) p).2.1⟩:Lm)])) (negF p)).1) true bits))),so 2003 (D.ptr 0 0),so 2004 (D.ptr 1 0),so 2005 (D.ptr 2 0),so 2006 (D.ptr 3 0),so 2039 (D.v (V.one (El.row afE s.q.g.us))),so 2040 (D.val (.int .i64 ((s.q.g.us.length:Nat):Int))),so 2041 (D.val (.int .i64 ((i:Nat):Int)))] [hbq 83 [Leaf.val (ifV tD cs)] q1,hbq 42 (quL s.q ++ [El.row dcE s.path,Leaf.own 4 (n + 1)]) q2,hbq 3 [Leaf.val (.int .i64 bits)] q3,hb_ 42 scZ,hgr 64 6 lmE (out ++ [⟨((i:Nat):Int),false,(qOf ((rndB (d (withL s out) p).1 false bits))),(d (withL s out) p).2.1⟩]) (n + 1),hbq 3 [Leaf.val (.int .i64 ((i:Nat):Int))] q6,hbq 36 (afL p) q7,none,none,none,hb_ 34 (qL (rndB (-(d (withL s (out ++ [(⟨(i:Int),false,qOf (rndB (d (withL s out) p).1 false bits),(d (withL s out) p).2.1⟩:Lm)])) (negF p)).1) true bits))] ?_ ?_
      ·refine dr_ 0 [] [] (dz 1 rfl ?_)
       by_cases hk2:(best (out ++ [(⟨(i:Int),false,qOf (rndB (d (withL s out) p).1 false bits),(d (withL s out) p).2.1⟩:Lm)]) ((i:Nat):Int)).2 = 0
       ·refine kq_ rfl (eqT rfl) (dz 13 rfl (kis_ (strong (out ++ [(⟨(i:Int),false,qOf (rndB (d (withL s out) p).1 false bits),(d (withL s out) p).2.1⟩:Lm)]) i true (rndB (-(d (withL s (out ++ [(⟨(i:Int),false,qOf (rndB (d (withL s out) p).1 false bits),(d (withL s out) p).2.1⟩:Lm)])) (negF p)).1) true bits)) rfl (by exact (strong_ut (.inl hk2)).symm) (DK_nil ?_)))
        exact mx_ rfl
       ·refine kq_ rfl (eqF rfl) (dz 3 rfl ?_)
        obtain ⟨y,hy,_,_,hly,hy0,hyl⟩:=best_hi hk2
        haveI hyB:=hso_B_2 y (List.mem_of_getElem? hy)
        refine kq_ rfl (Jq_view (r:=4) (n:=(n + 1)) (x:=V.one (Leaf.own 4 (n + 1))) (x':=V.one (El.row lmE (out ++ [⟨((i:Nat):Int),false,(qOf ((rndB (d (withL s out) p).1 false bits))),(d (withL s out) p).2.1⟩]))) (Jq_load rfl rfl rfl (by decide) ty40 rfl) (RowAt.ofE lmE (out ++ [⟨((i:Nat):Int),false,(qOf ((rndB (d (withL s out) p).1 false bits))),(d (withL s out) p).2.1⟩]) rfl (by decide)) (by decide) (.inr ⟨rfl,rfl⟩)) ?_
        refine dz 1 rfl (kq_ rfl (jsb ((best (out ++ [(⟨(i:Int),false,qOf (rndB (d (withL s out) p).1 false bits),(d (withL s out) p).2.1⟩:Lm)]) ((i:Nat):Int)).2 - 1) rfl) (kq_ rfl (jix ((best (out ++ [(⟨(i:Int),false,qOf (rndB (d (withL s out) p).1 false bits),(d (withL s out) p).2.1⟩:Lm)]) ((i:Nat):Int)).2 - 1) hy rfl) (kq_ rfl (jft rfl) (kq_ rfl (jlr rfl) ?_))))
        refine kc_ fn45 rfl (qcmp (qOf ((rndB (-(d (withL s (out ++ [(⟨(i:Int),false,qOf (rndB (d (withL s out) p).1 false bits),(d (withL s out) p).2.1⟩:Lm)])) (negF p)).1) true bits))) ((rndB (-(d (withL s (out ++ [(⟨(i:Int),false,qOf (rndB (d (withL s out) p).1 false bits),(d (withL s out) p).2.1⟩:Lm)])) (negF p)).1) true bits)) (qOf_q _) (Br.use (by omega)) y.v (y.v.q) rfl (Fq.use (x:=y.v) (by omega))) ?_
        refine dz 1 rfl ?_
        by_cases hc2:rndB (-(d (withL s (out ++ [(⟨(i:Int),false,qOf (rndB (d (withL s out) p).1 false bits),(d (withL s out) p).2.1⟩:Lm)])) (negF p)).1) true bits < lv (out ++ [(⟨(i:Int),false,qOf (rndB (d (withL s out) p).1 false bits),(d (withL s out) p).2.1⟩:Lm)]) (best (out ++ [(⟨(i:Int),false,qOf (rndB (d (withL s out) p).1 false bits),(d (withL s out) p).2.1⟩:Lm)]) ((i:Nat):Int)).2
        ·refine kq_ rfl (eqT rfl (by rw [cmpq_lt1,← hly];exact hc2)) (dz 1 rfl ?_)
         refine kis_ (strong (out ++ [(⟨(i:Int),false,qOf (rndB (d (withL s out) p).1 false bits),(d (withL s out) p).2.1⟩:Lm)]) i true (rndB (-(d (withL s (out ++ [(⟨(i:Int),false,qOf (rndB (d (withL s out) p).1 false bits),(d (withL s out) p).2.1⟩:Lm)])) (negF p)).1) true bits)) rfl (by exact (strong_ut (.inr hc2)).symm) (DK_nil ?_)
         exact mx_ rfl
        ·refine kq_ rfl (eqF rfl (fun e=>hc2 (by rw [hly];exact cmpq_lt1.1 e))) (dz 1 rfl ?_)
         refine kis_ (strong (out ++ [(⟨(i:Int),false,qOf (rndB (d (withL s out) p).1 false bits),(d (withL s out) p).2.1⟩:Lm)]) i true (rndB (-(d (withL s (out ++ [(⟨(i:Int),false,qOf (rndB (d (withL s out) p).1 false bits),(d (withL s out) p).2.1⟩:Lm)])) (negF p)).1) true bits)) rfl (by exact (strong_uf hk2 hc2).symm) (DK_nil ?_)
         exact mx_ rfl
      ·refine Tc_cond rfl (fun hs2=>?_) (fun hs2=>?_)
       ·refine zc 8 rfl (te_ rfl (Je_buildSlice rfl un40 ty64 tz64 rfl (by decide) (by decide) rfl (by decide) rfl) ?_)
        refine te_ rfl (jap (e:=lmE) (⟨((i:Nat):Int),true,(qOf ((rndB (-(d (withL s (out ++ [(⟨(i:Int),false,qOf (rndB (d (withL s out) p).1 false bits),(d (withL s out) p).2.1⟩:Lm)])) (negF p)).1) true bits))),(d (withL s (out ++ [(⟨(i:Int),false,qOf (rndB (d (withL s out) p).1 false bits),(d (withL s out) p).2.1⟩:Lm)])) (negF p)).2.1⟩) rfl rfl) (zl 3 rfl ?_)
        refine At_retI0 [(3,some (D.ptr 0 0)),(4,some (D.ptr 1 0)),(5,some (D.ptr 2 0)),(6,some (D.ptr 3 0)),(39,some (D.v (V.one (El.row afE s.q.g.us)))),(40,some (D.val (.int .i64 ((s.q.g.us.length:Nat):Int)))),(41,some (D.val (.int .i64 ((i:Nat):Int))))] d16 s16 rfl rfl ⟨rfl,rfl,rfl,rfl,rfl,rfl,rfl,trivial⟩ (zl 4 rfl (tq_ rfl (jad (i + 1) rfl) (zl 2 rfl ?_)))
        refine At_free 5 (At_free 6 (At_free 10 (trim_ 5 rfl ?_)))
        exact nx_ ⟨i + 1,_,_,rfl,rfl,rfl,hi,by rw [runN_get hp,← hout,hA,sideN_t (by exact hb2) (by exact hs2)];rfl⟩ rfl
       ·refine zc 1 rfl (At_retI0 [(3,some (D.ptr 0 0)),(4,some (D.ptr 1 0)),(5,some (D.ptr 2 0)),(6,some (D.ptr 3 0)),(39,some (D.v (V.one (El.row afE s.q.g.us)))),(40,some (D.val (.int .i64 ((s.q.g.us.length:Nat):Int)))),(41,some (D.val (.int .i64 ((i:Nat):Int))))] d16 s16 rfl rfl ⟨rfl,rfl,rfl,rfl,rfl,rfl,rfl,trivial⟩ (zl 4 rfl (tq_ rfl (jad (i + 1) rfl) ?_)))
        refine zl 2 rfl (At_free 5 (At_free 6 (At_free 10 (trim_ 5 rfl ?_))))
        exact nx_ ⟨i + 1,_,_,rfl,rfl,rfl,hi,by rw [runN_get hp,← hout,hA,sideN_f2 (by exact hs2)];simp only [List.append_nil]⟩ rfl
    ·refine zc 1 rfl ?_
     refine At_retI0 [(3,some (D.ptr 0 0)),(4,some (D.ptr 1 0)),(5,some (D.ptr 2 0)),(6,some (D.ptr 3 0)),(10,some (D.val (.func (.func 39) #[] #[.pointer (some ⟨q7,0,none⟩),.pointer (some ⟨q1,0,none⟩),.pointer (some ⟨q2,0,none⟩),.pointer (some ⟨q6,0,none⟩),.pointer (some ⟨q3,0,none⟩)]))),(39,some (D.v (V.one (El.row afE s.q.g.us)))),(40,some (D.val (.int .i64 ((s.q.g.us.length:Nat):Int)))),(41,some (D.val (.int .i64 ((i:Nat):Int))))] d8 s8 rfl rfl ⟨rfl,rfl,rfl,rfl,rfl,rfl,rfl,rfl,trivial⟩ ?_
     refine zl 2 rfl ?_
     have hA:runA d s bits out i p = out:=by unfold runA;rw [sideN_f2 (by exact hs1),List.append_nil]
     have hso1:SOk (withL s out):=by rw [← hA];exact LOk.withL hs hrA.1 (by have:=hrA.2;have hl2:out.length≤s.lems.length + 2 * i:=hln;omega)
     refine zc 2 rfl ?_
     refine Tl_inlineF (dc:=[D.ptr 6 0,D.ptr 0 0,D.ptr 1 0,D.ptr 5 0,D.ptr 2 0]) rfl rfl rfl ⟨.inr ⟨_,_,_,rfl,rfl,rfl,rfl,rfl⟩,.inr ⟨_,_,_,rfl,rfl,rfl,rfl,rfl⟩,.inr ⟨_,_,_,rfl,rfl,rfl,rfl,rfl⟩,.inr ⟨_,_,_,rfl,rfl,rfl,rfl,rfl⟩,.inr ⟨_,_,_,rfl,rfl,rfl,rfl,rfl⟩,trivial⟩ Tryz.func39 rfl rfl Tryz.ntmps39 (Nat.le_of_ble_eq_true rfl) rfl (fun a20 d20 s20=>?_)
     refine qc_ (zc 14 rfl (dr_ 0 [(3,9)] [9] (dz 1 rfl (kc_ fn41 rfl (qof_spec (-1) (by decide) (by decide)) (kc_ fn40 rfl (scale_p p ((-1:Int):Rat) hpl_ (by omega) (by omega) (by omega)) (dz 1 rfl (DK_nil (za 4 rfl (tq_ rfl (jvl 11 rfl rfl) ?_)))))))))
     refine zl 1 rfl (te_ rfl (Je_invoke rfl rfl hm hfL rfl (hL (withL s out) (negF p) hso1 hnf2) hone) (zl 17 rfl ?_))
     refine Tc_cond rfl (fun hb2n=>?_) (fun hb2n=>?_)
     ·refine Tc_retI0 [(3,some (D.ptr 0 0)),(4,some (D.ptr 1 0)),(5,some (D.ptr 2 0)),(6,some (D.ptr 3 0)),(39,some (D.v (V.one (El.row afE s.q.g.us)))),(40,some (D.val (.int .i64 ((s.q.g.us.length:Nat):Int)))),(41,some (D.val (.int .i64 ((i:Nat):Int))))] (fun _ _ h=>h) d20 s20 rfl rfl ⟨rfl,rfl,rfl,rfl,rfl,rfl,rfl,trivial⟩ (zl 4 rfl (tq_ rfl (jad (i + 1) rfl) ?_))
      refine zl 2 rfl (At_free 5 (At_free 6 (At_free 8 (At_free 9 (At_free 10 (trim_ 5 rfl ?_))))))
      exact nx_ ⟨i + 1,_,_,rfl,rfl,rfl,hi,by rw [runN_get hp,← hout,hA,sideN_f1 (by have h:(d (withL s out) (negF p)).2.2 = false:=(by simpa using hb2n);exact h)];simp only [List.append_nil]⟩ rfl
     ·refine zc 3 rfl ?_
      have hb2:(d (withL s out) (negF p)).2.2 = true:=by simpa using hb2n
      haveI h1hb2:Hb (d (withL s out) (negF p)).1 (KB i - 4200):=hdm (withL s out) hso1 i (negF p) (by exact hi) (by exact hnf) (by exact hb2)
      have h2hb2:Hb (-(d (withL s out) (negF p)).1) (KB i - 4200):=Hb.neg
      haveI h3hb2:Br (d (withL s out) (negF p)).1 34402:=h1hb2.limb (by omega)
      haveI:Br (rndB (-(d (withL s out) (negF p)).1) true bits) 38501:=((rndB_hb (up:=true) (bits:=bits) h2hb2 (by omega)).mono (show _≤38500 by omega)).br
      have hso_B_2:∀ m∈out,Fq m.v 34401:=hso1.B
      have hso_L_2:(out).length≤100:=hso1.ll
      refine zc 1 rfl (tq_ rfl (jvl 11 rfl rfl) (zl 1 rfl (tc_ fn42 rfl (best_p (withL s out) hso_B_2 (by omega) (by show (out).length≤_;omega) ((i:Nat):Int)) (zl 8 rfl ?_))))
      refine nf_ [8,9] [so 0 (D.bool true),so 3 _,so 4 _,so 5 _,so 8 (D.ptr 10 0),so 9 (D.v (V.one (El.row muE ((d (withL s out) (negF p)).2.1)))),so 11 _,so 12 _,so 2003 _,so 2004 _,so 2005 _,so 2006 _,so 2039 _,so 2040 _,so 2041 _] [_,_,_,_,_,_,_,none,none,none,hb_ 34 (qL ((d (withL s out) (negF p)).1))] rfl rfl rfl (zc 15 rfl ?_)
      refine tc_ fn43 rfl (qneg (qOf ((d (withL s out) (negF p)).1)) ((d (withL s out) (negF p)).1) (qOf_q _) (Br.use (by omega))) (zl 7 rfl ?_)
      refine nz_ [so 0 _,so 3 _,so 4 _,so 5 _,so 8 _,so 9 _,so 13 (D.val (.int .i64 (((best out ((i:Nat):Int)).2:Nat):Int))),so 14 (D.val (.int .i64 (-1))),so 2003 _,so 2004 _,so 2005 _,so 2006 _,so 2039 _,so 2040 _,so 2041 _] [_,_,_,_,_,_,_,none,none,none,hb_ 34 (qL (-((d (withL s out) (negF p)).1)))] rfl rfl (zc 4 rfl ?_)
      refine tc_ fn44 rfl (round_p (-(d (withL s out) (negF p)).1) true bits h2hb2 (by omega) h0 h4) (zl 3 rfl ?_)
      refine mt_ [so 0 (D.bool true),so 3 (D.ptr 1 0),so 4 (D.ptr 5 0),so 8 (D.ptr 10 0),so 9 (D.v (V.one (El.row muE ((d (withL s out) (negF p)).2.1)))),so 59 (D.bool (strong out i true (rndB (-(d (withL s out) (negF p)).1) true bits))),so 2003 (D.ptr 0 0),so 2004 (D.ptr 1 0),so 2005 (D.ptr 2 0),so 2006 (D.ptr 3 0),so 2039 (D.v (V.one (El.row afE s.q.g.us))),so 2040 (D.val (.int .i64 ((s.q.g.us.length:Nat):Int))),so 2041 (D.val (.int .i64 ((i:Nat):Int)))] [hbq 83 [Leaf.val (ifV tD cs)] q1,hbq 42 (quL s.q ++ [El.row dcE s.path,Leaf.own 4 n]) q2,hbq 3 [Leaf.val (.int .i64 bits)] q3,hb_ 42 scZ,hgr 64 6 lmE out n,hbq 3 [Leaf.val (.int .i64 ((i:Nat):Int))] q6,hbq 36 (afL p) q7,none,none,none,hb_ 34 (qL (rndB (-(d (withL s out) (negF p)).1) true bits))] ?_ ?_
      ·refine dr_ 0 [] [] (dz 1 rfl ?_)
       by_cases hk2:(best out ((i:Nat):Int)).2 = 0
       ·refine kq_ rfl (eqT rfl) (dz 13 rfl (kis_ (strong out i true (rndB (-(d (withL s out) (negF p)).1) true bits)) rfl (by exact (strong_ut (.inl hk2)).symm) (DK_nil ?_)))
        exact mx_ rfl
       ·refine kq_ rfl (eqF rfl) (dz 3 rfl ?_)
        obtain ⟨y,hy,_,_,hly,hy0,hyl⟩:=best_hi hk2
        haveI hyB:=hso_B_2 y (List.mem_of_getElem? hy)
        refine kq_ rfl (Jq_view (r:=4) (n:=n) (x:=V.one (Leaf.own 4 n)) (x':=V.one (El.row lmE out)) (Jq_load rfl rfl rfl (by decide) ty40 rfl) (RowAt.ofE lmE out rfl (by decide)) (by decide) (.inr ⟨rfl,rfl⟩)) (dz 1 rfl (kq_ rfl (jsb ((best out ((i:Nat):Int)).2 - 1) rfl) (kq_ rfl (jix ((best out ((i:Nat):Int)).2 - 1) hy rfl) (kq_ rfl (jft rfl) (kq_ rfl (jlr rfl) ?_)))))
        refine kc_ fn45 rfl (qcmp (qOf ((rndB (-(d (withL s out) (negF p)).1) true bits))) ((rndB (-(d (withL s out) (negF p)).1) true bits)) (qOf_q _) (Br.use (by omega)) y.v (y.v.q) rfl (Fq.use (x:=y.v) (by omega))) (dz 1 rfl ?_)
        by_cases hc2:rndB (-(d (withL s out) (negF p)).1) true bits < lv out (best out ((i:Nat):Int)).2
        ·refine kq_ rfl (eqT rfl (by rw [cmpq_lt1,← hly];exact hc2)) (dz 1 rfl (kis_ (strong out i true (rndB (-(d (withL s out) (negF p)).1) true bits)) rfl (by exact (strong_ut (.inr hc2)).symm) (DK_nil ?_)))
         exact mx_ rfl
        ·refine kq_ rfl (eqF rfl (fun e=>hc2 (by rw [hly];exact cmpq_lt1.1 e))) (dz 1 rfl (kis_ (strong out i true (rndB (-(d (withL s out) (negF p)).1) true bits)) rfl (by exact (strong_uf hk2 hc2).symm) (DK_nil ?_)))
         exact mx_ rfl
      ·refine Tc_cond rfl (fun hs2=>?_) (fun hs2=>?_)
       ·refine zc 8 rfl (te_ rfl (Je_buildSlice rfl un40 ty64 tz64 rfl (by decide) (by decide) rfl (by decide) rfl) (te_ rfl (jap (e:=lmE) (⟨((i:Nat):Int),true,(qOf ((rndB (-(d (withL s out) (negF p)).1) true bits))),(d (withL s out) (negF p)).2.1⟩) rfl rfl) (zl 3 rfl ?_)))
        refine At_retI0 [(3,some (D.ptr 0 0)),(4,some (D.ptr 1 0)),(5,some (D.ptr 2 0)),(6,some (D.ptr 3 0)),(39,some (D.v (V.one (El.row afE s.q.g.us)))),(40,some (D.val (.int .i64 ((s.q.g.us.length:Nat):Int)))),(41,some (D.val (.int .i64 ((i:Nat):Int))))] d20 s20 rfl rfl ⟨rfl,rfl,rfl,rfl,rfl,rfl,rfl,trivial⟩ (zl 4 rfl (tq_ rfl (jad (i + 1) rfl) (zl 2 rfl ?_)))
        refine At_free 5 (At_free 6 (At_free 10 (trim_ 5 rfl ?_)))
        exact nx_ ⟨i + 1,_,_,rfl,rfl,rfl,hi,by rw [runN_get hp,← hout,hA,sideN_t (by exact hb2) (by exact hs2)];rfl⟩ rfl
       ·refine zc 1 rfl (At_retI0 [(3,some (D.ptr 0 0)),(4,some (D.ptr 1 0)),(5,some (D.ptr 2 0)),(6,some (D.ptr 3 0)),(39,some (D.v (V.one (El.row afE s.q.g.us)))),(40,some (D.val (.int .i64 ((s.q.g.us.length:Nat):Int)))),(41,some (D.val (.int .i64 ((i:Nat):Int))))] d20 s20 rfl rfl ⟨rfl,rfl,rfl,rfl,rfl,rfl,rfl,trivial⟩ (zl 4 rfl (tq_ rfl (jad (i + 1) rfl) ?_)))
        refine zl 2 rfl (At_free 5 (At_free 6 (At_free 10 (trim_ 5 rfl ?_))))
        exact nx_ ⟨i + 1,_,_,rfl,rfl,rfl,hi,by rw [runN_get hp,← hout,hA,sideN_f2 (by exact hs2)];simp only [List.append_nil]⟩ rfl
 ·refine tq_ rfl (ltF rfl) (zl 10 rfl ?_)
  have hie:i = s.q.g.us.length:=by omega
  rw [hie] at hout
  refine zc 1 rfl (tq_ rfl (jvl 11 rfl rfl) (zl 4 rfl ?_))
  exact r2_ hq_ rfl (by unfold runM;rw [← hout] <;> rfl)
end Go.Proofs.YtjdbopkbfkgpdaaGreatDoor
set_option linter.unusedSimpArgs false
set_option linter.unusedVariables false
namespace Go.Proofs.YtjdbopkbfkgpdaaGreatDoor
open Go Go.RowKit Rc
set_option maxRecDepth 10000 in
theorem samem_r (l:List Mu) (hl:l.length≤1000000):Ctr Tryz.prog 23 [V.one (El.row muE l),V.one (El.row muE l)] (R.one (V.one (Leaf.val (.bool true)))):=by
 refine bd_ Tryz.func23 Tryz.ntmps23 rfl (fun w0 A0=>?_)
 refine zc 9 rfl (tq_ rfl (jln rfl) (zl 1 rfl (tq_ rfl (jln rfl) (tq_ rfl (neF rfl) (zl 12 rfl (lpR_ (fun m Γ H=>∃ (i:Nat),l.length - i = m∧Γ = [(0,some (D.v (V.one (El.row muE l)))),(1,some (D.v (V.one (El.row muE l)))),(5,some (D.val (.int .i64 ((i:Nat):Int))))]∧H = []∧i≤l.length) ⟨0,rfl,rfl,rfl,Nat.zero_le _⟩ rfl ?_))))))
 rintro m Γ H ⟨i,rfl,rfl,rfl,hi0⟩
 refine zc 5 rfl (tq_ rfl (jln rfl) ?_)
 by_cases hi:i < l.length
 ·refine tq_ rfl (ltT rfl) (zl 8 rfl ?_)
  obtain ⟨x,hx⟩:∃ x,l[i]? = some x:=⟨_,List.getElem?_eq_getElem hi⟩
  refine dr_ 0 [] [] (dz 2 rfl (kq_ rfl (jix i hx rfl) (kq_ rfl (jft rfl) (kq_ rfl (jlr rfl) (dz 2 rfl (kq_ rfl (jix i hx rfl) (kq_ rfl (jft rfl) (kq_ rfl (jlr rfl) (kq_ rfl (Jq_neq4 rfl rfl rfl row_i4 (d:=false) (by rw [eq4_t rfl];rfl)) ?_)))))))))
  refine dz 3 rfl (kq_ rfl (jix i hx rfl) (kq_ rfl (jfr rfl) (kq_ rfl (jlr rfl) (dz 2 rfl (kq_ rfl (jix i hx rfl) (kq_ rfl (jfr rfl) (kq_ rfl (jlr rfl) (kc_ fn24 rfl (rqsame x.c x.c) (kis_ true rfl (sameQ_self _) ?_)))))))))
  refine dz 2 rfl (DK_nil (za 7 rfl (tq_ rfl (jad (i + 1) rfl) (zl 2 rfl ?_))))
  exact nx_ ⟨i + 1,rfl,rfl,rfl,hi⟩ rfl
 ·refine tq_ rfl (ltF rfl) (zl 13 rfl ?_)
  exact r1_ hq_ rfl rfl
end Go.Proofs.YtjdbopkbfkgpdaaGreatDoor
set_option linter.unusedSimpArgs false
set_option linter.unusedVariables false
namespace Rc
open Go Go.RowKit
theorem lv_app {l r:List Lm} {n:Nat} (h0:0 < n) (h:n≤l.length):lv (l ++ r) n = lv l n:=by
 unfold lv;rw [List.getElem?_append_left (by omega)]
theorem bestn_app (l r:List Lm) (u:Int):∀ n,n≤l.length→bestn (l ++ r) u n = bestn l u n
 | 0,_=>rfl
 | n + 1,h=>by
  obtain ⟨h1,h2,_,_⟩:=bestn_ok l u n
  rw [bestn_succ,bestn_succ,bestn_app l r u n (by omega)]
  unfold bstp
  rw [List.getElem?_append_left (by omega)]
  have e1:(bestn l u n).1≠0→lv (l ++ r) (bestn l u n).1 = lv l (bestn l u n).1:=fun h=>lv_app (by omega) (by omega)
  have e2:(bestn l u n).2≠0→lv (l ++ r) (bestn l u n).2 = lv l (bestn l u n).2:=fun h=>lv_app (by omega) (by omega)
  cases l[n]? with
  | none=>rfl
  | some m=>
   simp only []
   by_cases h3:(bestn l u n).1 = 0 <;> by_cases h4:(bestn l u n).2 = 0 <;> simp [h3,h4,e1,e2]
theorem bestn_skip {l:List Lm} {u:Int} {k:Nat} (h:∀ (i:Nat) (m:Lm),k≤i→l[i]? = some m→m.unit≠u):∀ n,bestn l u (k + n) = bestn l u k
 | 0=>rfl
 | n + 1=>by
  rw [show k + (n + 1) = (k + n) + 1 by omega,bestn_succ,bestn_skip h n]
  cases hx:l[k + n]? with
  | none=>unfold bstp;simp only [hx]
  | some m=>exact bstp_ne hx (h _ m (by omega) hx)
theorem best_app {l r:List Lm} {u:Int} (h:∀ m∈r,m.unit≠u):best (l ++ r) u = best l u:=by
 unfold best
 rw [List.length_append,bestn_skip (k:=l.length) (fun i m hi hm=>?_),bestn_app _ _ _ _ (Nat.le_refl _)]
 rw [List.getElem?_append_right hi] at hm
 exact h m (List.mem_of_getElem? hm)
theorem bestn_max (l:List Lm) (u:Int):∀ n (i:Nat) (m:Lm),i < n→l[i]? = some m→m.unit = u →
  (m.up = false→(bestn l u n).1≠0∧m.v.q≤lv l (bestn l u n).1)∧(m.up = true→(bestn l u n).2≠0∧lv l (bestn l u n).2≤m.v.q)
 | 0,i,m,hi,_,_=>by omega
 | n + 1,i,m,hi,hm,hu=>by
  rw [bestn_succ]
  cases hx:l[n]? with
  | none=>
   have hin:i < n:=by have:=(List.getElem?_eq_some_iff.1 hm).1;have:=List.getElem?_eq_none_iff.1 hx;omega
   unfold bstp;simp only [hx]
   exact bestn_max l u n i m hin hm hu
  | some x=>
   have hlx:lv l (n + 1) = x.v.q:=lv_get (by simpa using hx)
   by_cases hin:i = n
   ·subst hin
    rw [hm] at hx
    cases hx
    refine ⟨fun hup=>?_,fun hup=>?_⟩
    ·by_cases hc:(bestn l u i).1 = 0 ∨ lv l (bestn l u i).1 < m.v.q
     ·rw [bstp_lt hm hu hup hc];exact ⟨by simp,by rw [hlx];exact Rat.le_refl⟩
     ·rw [bstp_lf hm hu hup hc];exact ⟨fun e=>hc (.inl e),Rat.not_lt.1 (fun e=>hc (.inr e))⟩
    ·by_cases hc:(bestn l u i).2 = 0 ∨ m.v.q < lv l (bestn l u i).2
     ·rw [bstp_ut hm hu hup hc];exact ⟨by simp,by rw [hlx];exact Rat.le_refl⟩
     ·rw [bstp_uf hm hu hup hc];exact ⟨fun e=>hc (.inl e),Rat.not_lt.1 (fun e=>hc (.inr e))⟩
   ·obtain ⟨h1,h2⟩:=bestn_max l u n i m (by omega) hm hu
    by_cases hxu:x.unit = u
    ·cases hxup:x.up
     ·by_cases hc:(bestn l u n).1 = 0 ∨ lv l (bestn l u n).1 < x.v.q
      ·rw [bstp_lt hx hxu hxup hc]
       refine ⟨fun hup=>⟨by simp,?_⟩,h2⟩
       show m.v.q≤lv l (n + 1)
       rw [hlx]
       rcases hc with hc | hc
       ·exact absurd hc (h1 hup).1
       ·exact Rat.le_of_lt (Std.lt_of_le_of_lt (h1 hup).2 hc)
      ·rw [bstp_lf hx hxu hxup hc];exact ⟨h1,h2⟩
     ·by_cases hc:(bestn l u n).2 = 0 ∨ x.v.q < lv l (bestn l u n).2
      ·rw [bstp_ut hx hxu hxup hc]
       refine ⟨h1,fun hup=>⟨by simp,?_⟩⟩
       show lv l (n + 1)≤m.v.q
       rw [hlx]
       rcases hc with hc | hc
       ·exact absurd hc (h2 hup).1
       ·exact Rat.le_of_lt (Std.lt_of_lt_of_le hc (h2 hup).2)
      ·rw [bstp_uf hx hxu hxup hc];exact ⟨h1,h2⟩
    ·rw [bstp_ne hx hxu];exact ⟨h1,h2⟩
theorem best_max {l:List Lm} {u:Int} {m:Lm} (hm:m∈l) (hu:m.unit = u):(m.up = false→(best l u).1≠0∧m.v.q≤lv l (best l u).1)∧(m.up = true→(best l u).2≠0∧lv l (best l u).2≤m.v.q):=by
 obtain ⟨i,hi⟩:=List.getElem?_of_mem hm
 exact bestn_max l u l.length i m (List.getElem?_eq_some_iff.1 hi).1 hi hu
theorem best_more {l r:List Lm} {u:Int}:((best l u).1≠0→(best (l ++ r) u).1≠0∧lv l (best l u).1≤lv (l ++ r) (best (l ++ r) u).1)∧((best l u).2≠0→(best (l ++ r) u).2≠0∧lv (l ++ r) (best (l ++ r) u).2≤lv l (best l u).2):=by
 refine ⟨fun h=>?_,fun h=>?_⟩
 ·obtain ⟨m,h1,h2,h3,h4,_⟩:=best_lo h
  rw [h4]
  exact (best_max (List.mem_append_left _ (List.mem_of_getElem? h1)) h2).1 h3
 ·obtain ⟨m,h1,h2,h3,h4,_⟩:=best_hi h
  rw [h4]
  exact (best_max (List.mem_append_left _ (List.mem_of_getElem? h1)) h2).2 h3
theorem lv_zero_app {l r:List Lm} {u:Int}:((best l u).1≠0→lv (l ++ r) (best l u).1 = lv l (best l u).1)∧((best l u).2≠0→lv (l ++ r) (best l u).2 = lv l (best l u).2):=
 ⟨fun h=>lv_app (by omega) (best_le l u).1,fun h=>lv_app (by omega) (best_le l u).2⟩
def Agn (k:Nat) (l l':List Lm):Prop:=∀ u:Nat,u < k→best l (u:Int) = best l' (u:Int)∧((best l (u:Int)).1≠0→lv l (best l (u:Int)).1 = lv l' (best l (u:Int)).1)∧((best l (u:Int)).2≠0→lv l (best l (u:Int)).2 = lv l' (best l (u:Int)).2)
theorem Agn.app {k:Nat} {l r:List Lm} (h:∀ m∈r,(k:Int)≤m.unit):Agn k (l ++ r) l:=fun u hu=>by
 have e:best (l ++ r) (u:Int) = best l (u:Int):=best_app (fun m hm=>by have:=h m hm;omega)
 refine ⟨e,?_,?_⟩
 ·rw [e];exact lv_zero_app.1
 ·rw [e];exact lv_zero_app.2
theorem atMost_agn {k inp v:Nat} {l l':List Lm} (h:Agn k l l') (hv:v < inp + k):atMost inp l v = atMost inp l' v:=by
 by_cases h1:v < inp
 ·unfold atMost;rw [if_pos h1,if_pos h1]
 ·obtain ⟨e1,e2,e3⟩:=h (v - inp) (by omega)
  unfold atMost
  rw [if_neg h1,if_neg h1,← e1]
  by_cases hz:(best l ((v - inp:Nat):Int)).1 = 0 ∨ (best l ((v - inp:Nat):Int)).2 = 0
  ·rw [if_pos hz,if_pos hz]
  ·rw [if_neg hz,if_neg hz,e2 (fun e=>hz (.inl e)),e3 (fun e=>hz (.inr e))]
theorem abst_agn {k inp:Nat} {l l':List Lm} (h:Agn k l l') {t:Tm} (hv:t.1 < inp + k) (a:List Mu × Bool):abst inp l a t = abst inp l' a t:=by
 unfold abst;rw [atMost_agn h hv]
theorem absn_agn {k inp:Nat} {l l':List Lm} (h:Agn k l l'):∀ (ts:List Tm) (a:List Mu × Bool),(∀ t∈ts,t.1 < inp + k)→ts.foldl (abst inp l) a = ts.foldl (abst inp l') a
 | [],_,_=>rfl
 | t :: ts,a,hv=>by
  rw [List.foldl_cons,List.foldl_cons,abst_agn h (hv t (by simp)),absn_agn h ts _ (fun x hx=>hv x (by simp [hx]))]
theorem ub_agn {k v:Nat} {s s':Sc} (hq:s.q = s'.q) (h:Agn k s.lems s'.lems) (hv:v < s.q.g.inp + k):ub s v = ub s' v:=by
 unfold ub
 rw [← hq]
 by_cases h1:v < s.q.g.inp
 ·rw [if_pos h1,if_pos h1]
 ·obtain ⟨e1,e2,e3⟩:=h (v - s.q.g.inp) (by omega)
  rw [if_neg h1,if_neg h1,← e1]
  by_cases hz:(best s.lems ((v - s.q.g.inp:Nat):Int)).2 = 0
  ·rw [if_pos (.inl hz),if_pos (.inl hz)]
  ·rw [e3 hz]
theorem bndS_agn {k:Nat} {s s':Sc} (hq:s.q = s'.q) (h:Agn k s.lems s'.lems):∀ ts:List Tm,(∀ t∈ts,t.1 < s.q.g.inp + k)→bndS s ts = bndS s' ts
 | [],_=>rfl
 | t :: ts,hv=>by
  simp only [bndS]
  rw [bndS_agn hq h ts (fun x hx=>hv x (by simp [hx]))]
  have:bndT s t = bndT s' t:=by
   unfold bndT lb
   rw [ub_agn hq h (hv t (by simp)),hq]
  rw [this]
theorem abs_agn {k:Nat} {s s':Sc} (hk:k≤s.q.g.us.length) (hqo:QOk s.q) (hq:s.q = s'.q) (h:Agn k s.lems s'.lems) {f:Af} (hv:∀ t∈f.ts,t.1 < s.q.g.inp + k):abQ s f = abQ s' f∧abL s f = abL s' f∧abB s f = abB s' f:=by
 have e:absn s.q.g.inp s.lems f.ts = absn s'.q.g.inp s'.lems f.ts:=by
  rw [← hq];exact absn_agn h f.ts _ hv
 have e1:abL s f = abL s' f:=congrArg Prod.fst e
 have e2:abB s f = abB s' f:=congrArg Prod.snd e
 refine ⟨?_,e1,e2⟩
 cases hb:abB s f
 ·unfold abQ;rw [← e2,hb,if_neg (by decide),if_neg (by decide)]
 ·rw [abQ_eq hqo (fun t ht=>Nat.lt_of_lt_of_le (hv t ht) (by omega)) hb,abQ_eq (hq ▸ hqo) (fun t ht=>by rw [← hq];exact Nat.lt_of_lt_of_le (hv t ht) (by omega)) (e2 ▸ hb),bndS_agn hq h f.ts hv]
section
variable {d:Dom} {s:Sc} {bits:Int}
theorem sideN_mem {j:Nat} {up:Bool} {p:Af} {m:Lm} (h:m∈sideN d s bits j up p):m.unit = (j:Int)∧m.up = up∧m.v = qOf (sideV d s bits up p)∧m.pf = sideL d s up p:=by
 unfold sideN at h
 split at h
 ·rw [List.mem_singleton] at h;subst h;exact ⟨rfl,rfl,rfl,rfl⟩
 ·simp at h
theorem runN_more (d:Dom) (s:Sc) (bits:Int) (k:Nat):∀ n,∃ r,runN d s bits (k + n) = runN d s bits k ++ r∧∀ m∈r,(k:Int)≤m.unit
 | 0=>⟨[],by simp,fun m hm=>by simp at hm⟩
 | n + 1=>by
  obtain ⟨r,h1,h2⟩:=runN_more d s bits k n
  rw [show k + (n + 1) = (k + n) + 1 by omega,runN_succ]
  unfold runStep
  cases hp:s.q.g.us[k + n]? with
  | none=>exact ⟨r,h1,h2⟩
  | some p=>
   refine ⟨r ++ (sideN d (withL s (runN d s bits (k + n))) bits (k + n) false p ++ sideN d (withL s (runA d s bits (runN d s bits (k + n)) (k + n) p)) bits (k + n) true p),?_,fun m hm=>?_⟩
   ·simp only []
    unfold runA
    rw [h1]
    simp only [List.append_assoc]
   ·rcases List.mem_append.1 hm with hm | hm
    ·exact h2 m hm
    ·rcases List.mem_append.1 hm with hm | hm
     ·rw [(sideN_mem hm).1];omega
     ·rw [(sideN_mem hm).1];omega
theorem runN_pre (d:Dom) (s:Sc) (bits:Int) {n k:Nat} (h:n≤k):∃ r,runN d s bits k = runN d s bits n ++ r∧∀ m∈r,(n:Int)≤m.unit:=by
 have:=runN_more d s bits n (k - n)
 rwa [show n + (k - n) = k by omega] at this
end
theorem strong_no {l l':List Lm} {j:Nat} {up:Bool} {x:Rat} (h:strong l j up x = false) (hl:∃ r,l' = l ++ r):strong l' j up x = false:=by
 obtain ⟨r,rfl⟩:=hl
 cases up
 ·by_cases h1:(best l (j:Int)).1 = 0
  ·rw [strong,if_neg (by decide),decide_eq_true h1] at h;simp at h
  ·by_cases h2:lv l (best l (j:Int)).1 < x
   ·rw [strong,if_neg (by decide),decide_eq_true h2] at h;simp at h
   ·obtain ⟨q1,q2⟩:=(best_more (r:=r)).1 h1
    unfold strong
    rw [if_neg (by decide),decide_eq_false q1,decide_eq_false (fun e=>h2 (Std.lt_of_le_of_lt q2 e))];rfl
 ·by_cases h1:(best l (j:Int)).2 = 0
  ·rw [strong,if_pos rfl,decide_eq_true h1] at h;simp at h
  ·by_cases h2:x < lv l (best l (j:Int)).2
   ·rw [strong,if_pos rfl,decide_eq_true h2] at h;simp at h
   ·obtain ⟨q1,q2⟩:=(best_more (r:=r)).2 h1
    unfold strong
    rw [if_pos rfl,decide_eq_false q1,decide_eq_false (fun e=>h2 (Std.lt_of_lt_of_le e q2))];rfl
theorem strong_mem {l:List Lm} {j:Nat} {up:Bool} {x:Rat} {m:Lm} (hm:m∈l) (hu:m.unit = (j:Int)) (hup:m.up = up) (hv:m.v.q = x):strong l j up x = false:=by
 obtain ⟨h1,h2⟩:=best_max hm hu
 cases up
 ·obtain ⟨q1,q2⟩:=h1 hup
  unfold strong
  rw [if_neg (by decide),decide_eq_false q1,decide_eq_false (fun e=>by rw [← hv] at e;exact absurd (Std.lt_of_le_of_lt q2 e) (Rat.lt_irrefl))];rfl
 ·obtain ⟨q1,q2⟩:=h2 hup
  unfold strong
  rw [if_pos rfl,decide_eq_false q1,decide_eq_false (fun e=>by rw [← hv] at e;exact absurd (Std.lt_of_lt_of_le e q2) (Rat.lt_irrefl))];rfl
theorem side_again {s s':Sc} {bits:Int} {j:Nat} {up:Bool} {p:Af} (hq:s.q = s'.q) (hqo:QOk s.q) (hp:s.q.g.us[j]? = some p) (ha:Agn j s'.lems s.lems) (hl:∃ r,s'.lems = s.lems ++ sideN absD s bits j up p ++ r):sideN absD s' bits j up p = []:=by
 have hj:=(List.getElem?_eq_some_iff.1 hp).1
 have hpo:=hqo.g.us j p hp
 have e1:=abs_agn (s:=s') (s':=s) (k:=j) (by rw [← hq];omega) (hq ▸ hqo) hq.symm ha (f:=p) (fun t ht=>by rw [← hq];exact hpo.var t ht)
 have e2:=abs_agn (s:=s') (s':=s) (k:=j) (by rw [← hq];omega) (hq ▸ hqo) hq.symm ha (f:=negF p) (fun t ht=>by rw [← hq];exact hpo.neg.var t ht)
 have eV:sideV absD s' bits up p = sideV absD s bits up p:=by unfold sideV absD;rw [e1.1,e2.1]
 have eB:sideB absD s' up p = sideB absD s up p:=by unfold sideB absD;rw [e1.2.2,e2.2.2]
 obtain ⟨r,hl⟩:=hl
 cases hb:sideB absD s up p
 ·unfold sideN;rw [eB,hb];rfl
 ·cases hs:strong s.lems j up (sideV absD s bits up p)
  ·have:strong s'.lems j up (sideV absD s bits up p) = false:=strong_no hs ⟨sideN absD s bits j up p ++ r,by rw [hl,List.append_assoc]⟩
   unfold sideN;rw [eV,this,Bool.and_false];rfl
  ·have hn:sideN absD s bits j up p = [⟨(j:Int),up,qOf (sideV absD s bits up p),sideL absD s up p⟩]:=by unfold sideN;rw [hb,hs];rfl
   have:strong s'.lems j up (sideV absD s bits up p) = false:=strong_mem (m:=⟨(j:Int),up,qOf (sideV absD s bits up p),sideL absD s up p⟩) (by rw [hl,hn];simp) rfl rfl (qOf_q _)
   unfold sideN;rw [eV,this,Bool.and_false];rfl
theorem run_again {s:Sc} {bits:Int} (hqo:QOk s.q):∀ n,n≤s.q.g.us.length→runN absD (runM absD s bits) bits n = (runM absD s bits).lems
 | 0,_=>rfl
 | n + 1,hn=>by
  obtain ⟨p,hp⟩:∃ p,s.q.g.us[n]? = some p:=⟨_,List.getElem?_eq_getElem (by omega)⟩
  have hp':(runM absD s bits).q.g.us[n]? = some p:=hp
  obtain ⟨r,hr,hru⟩:=runN_pre absD s bits hn
  have hst:=runN_get (d:=absD) (s:=s) (bits:=bits) hp
  have hlems:(runM absD s bits).lems = runN absD s bits n ++ sideN absD (withL s (runN absD s bits n)) bits n false p ++ sideN absD (withL s (runA absD s bits (runN absD s bits n) n p)) bits n true p ++ r:=by
   show runN absD s bits s.q.g.us.length = _
   rw [hr,hst];unfold runA;rfl
  have hge:∀ m∈sideN absD (withL s (runN absD s bits n)) bits n false p ++ sideN absD (withL s (runA absD s bits (runN absD s bits n) n p)) bits n true p ++ r,(n:Int)≤m.unit:=fun m hm=>by
   rcases List.mem_append.1 hm with hm | hm
   ·rcases List.mem_append.1 hm with hm | hm
    ·rw [(sideN_mem hm).1];omega
    ·rw [(sideN_mem hm).1];omega
   ·have:=hru m hm;omega
  have a1:Agn n (runM absD s bits).lems (runN absD s bits n):=by
   rw [hlems,List.append_assoc,List.append_assoc]
   refine Agn.app (fun m hm=>hge m ?_)
   rwa [List.append_assoc]
  have a2:Agn n (runM absD s bits).lems (runA absD s bits (runN absD s bits n) n p):=by
   have e:(runM absD s bits).lems = runA absD s bits (runN absD s bits n) n p ++ (sideN absD (withL s (runA absD s bits (runN absD s bits n) n p)) bits n true p ++ r):=by
    rw [hlems];unfold runA;rw [List.append_assoc]
   rw [e]
   refine Agn.app (fun m hm=>hge m ?_)
   rw [List.append_assoc];exact List.mem_append_right _ hm
  rw [runN_get hp',run_again hqo n (by omega)]
  have h1:sideN absD (withL (runM absD s bits) (runM absD s bits).lems) bits n false p = []:=
   side_again (s:=withL s (runN absD s bits n)) rfl hqo hp a1 ⟨_,by show (runM absD s bits).lems = _;rw [hlems,List.append_assoc _ (sideN absD (withL s (runA absD s bits (runN absD s bits n) n p)) bits n true p) r];rfl⟩
  have hA:runA absD (runM absD s bits) bits (runM absD s bits).lems n p = (runM absD s bits).lems:=by
   unfold runA;rw [h1,List.append_nil]
  rw [hA]
  have h2:sideN absD (withL (runM absD s bits) (runM absD s bits).lems) bits n true p = []:=
   side_again (s:=withL s (runA absD s bits (runN absD s bits n) n p)) rfl hqo hp a2 ⟨r,by show (runM absD s bits).lems = _;rw [hlems];rfl⟩
  rw [h2,List.append_nil]
theorem run_twice {s:Sc} {bits:Int} (hqo:QOk s.q):runM absD (runM absD s bits) bits = runM absD s bits:=by
 show withL (runM absD s bits) (runN absD (runM absD s bits) bits s.q.g.us.length) = _
 rw [run_again hqo _ (Nat.le_refl _)];rfl
end Rc
set_option linter.unusedSimpArgs false
set_option linter.unusedVariables false
namespace Rc
open Go Go.RowKit
def awF:Af:=⟨[(0,((1:Int):Rat))],((-1:Int):Rat)⟩
def awQ:Qu:=⟨⟨1,[awF],[awF]⟩,⟨[0],[((3:Int):Rat)],[]⟩,fZ⟩
def awS:Sc:=⟨awQ,[],[]⟩
theorem rat0:D.agg [Leaf.val (.bool false),nilL,nilL] = D.agg (qL 0):=by
 show _ = D.agg [Leaf.val (.bool (cneg 0)),natL (limbs (cnum 0)),natL (limbs (cden 0))]
 rw [cnum_zero,cden_zero,limbs_zero];rfl
theorem awF_ok (n:Nat) (h:1≤n):FOk 3 n awF:=
 ⟨⟨by decide,fun t ht=>by simp at ht,trivial⟩,fun t ht=>by simp [awF] at ht;subst ht;exact Hb.int (by decide),Hb.int (by decide),fun t ht=>by simp [awF] at ht;subst ht;exact h⟩
theorem awQ_ok:QOk awQ:=by
 refine ⟨⟨by decide,by decide,by decide,by decide,by decide,fun j x hx=>?_,fun x hx=>?_⟩,⟨rfl,rfl,by decide,fun j x y hx hy=>?_,fun x hx=>by simp [awQ] at hx⟩,⟨trivial,fun t ht=>by simp [awQ,fZ] at ht,Hb.z,fun t ht=>by simp [awQ,fZ] at ht⟩⟩
 ·have hx:[awF][j]? = some x:=hx
  have:=List.mem_of_getElem? hx
  rw [List.mem_singleton] at this
  subst this;exact awF_ok _ (by show 1≤1 + j;omega)
 ·have hx:x∈[awF]:=hx
  rw [List.mem_singleton] at hx
  subst hx;exact awF_ok _ (by decide)
 ·have hx:[(0:Rat)][j]? = some x:=hx
  have hy:[((3:Int):Rat)][j]? = some y:=hy
  have h1:=List.mem_of_getElem? hx
  have h2:=List.mem_of_getElem? hy
  rw [List.mem_singleton] at h1 h2
  subst h1;subst h2
  exact ⟨Hb.z,Hb.int (by decide),by decide⟩
theorem awS_ok:SOk awS:=⟨awQ_ok,fun d hd=>by simp [awS] at hd,by decide,fun m hm=>by simp [awS] at hm,by decide⟩
theorem aw_lo:abB awS awF = true∧abQ awS awF = ((-1:Int):Rat):=by
 have hb:abB awS awF = true:=by
  show (abst 1 [] ([],true) (0,((1:Int):Rat))).2 = true
  rw [abst_pos (by show (0:Rat) < ((1:Int):Rat);decide)]
 refine ⟨hb,?_⟩
 rw [abQ_eq awQ_ok (fun t ht=>(awF_ok 1 (by decide)).var t ht |> fun h=>by show t.1 < 1 + 1;omega) hb]
 decide +kernel
theorem aw_hi (l:List Lm):abB (withL awS l) (negF awF) = true∧abQ (withL awS l) (negF awF) = ((-2:Int):Rat):=by
 have e:(negF awF).ts = [(0,((-1:Int):Rat))]:=by decide +kernel
 have e2:(negF awF).c = ((1:Int):Rat):=by decide +kernel
 have hb:abB (withL awS l) (negF awF) = true:=by
  unfold abB absn
  rw [e]
  show (abst 1 l ([],true) (0,((-1:Int):Rat))).2 = true
  rw [abst_some (by decide) (by unfold atMost;rw [if_pos (by decide)];rfl)]
 refine ⟨hb,?_⟩
 rw [abQ_eq awQ_ok (fun t ht=>(awF_ok 1 (by decide)).neg.var t ht |> fun h=>by show t.1 < 1 + 1;omega) hb,e,e2]
 have h1:bndT (withL awS l) (0,((-1:Int):Rat)) = ((3:Int):Rat):=by
  unfold bndT
  rw [if_neg (show ¬ (0:Rat) < ((-1:Int):Rat) by decide)]
  unfold ub
  rw [if_pos (show (0:Nat) < (withL awS l).q.g.inp from Nat.one_pos)]
  rfl
 simp only [bndS]
 rw [h1]
 decide +kernel
def awL:List Lm:=[⟨0,false,qOf ((-1:Int):Rat),abL awS awF⟩]
theorem aw_run:∃ p p':List Mu,(runM absD awS 0).lems = [⟨0,false,qOf ((-1:Int):Rat),p⟩,⟨0,true,qOf ((2:Int):Rat),p'⟩]:=by
 refine ⟨abL awS awF,abL (withL awS awL) (negF awF),?_⟩
 have h1:runN absD awS 0 0 = []:=rfl
 have hA:runA absD awS 0 [] 0 awF = awL:=by
  have hv:sideV absD awS 0 false awF = ((-1:Int):Rat):=by
   unfold sideV;rw [if_neg (by decide)];show rndB (abQ awS awF) false 0 = _;unfold rndB;rw [if_pos rfl,aw_lo.2]
  show [] ++ sideN absD awS 0 0 false awF = _
  rw [sideN_t (d:=absD) (s:=awS) (bits:=0) (j:=0) (up:=false) (p:=awF) aw_lo.1 (by rfl),hv];rfl
 have hB:sideN absD (withL awS awL) 0 0 true awF = [⟨0,true,qOf ((2:Int):Rat),abL (withL awS awL) (negF awF)⟩]:=by
  have hv:sideV absD (withL awS awL) 0 true awF = ((2:Int):Rat):=by
   unfold sideV;rw [if_pos rfl];show rndB (-(abQ (withL awS awL) (negF awF))) true 0 = _;unfold rndB;rw [if_pos rfl,(aw_hi awL).2];decide +kernel
  rw [sideN_t (d:=absD) (s:=withL awS awL) (bits:=0) (j:=0) (up:=true) (p:=awF) (aw_hi awL).1 (by rfl),hv];rfl
 show runN absD awS 0 (0 + 1) = _
 rw [runN_get (p:=awF) rfl,h1,hA,hB];rfl
theorem aw_get:∃ a b:Lm,(runM absD awS 0).lems[0]? = some a∧(runM absD awS 0).lems[1]? = some b∧a.v = qOf ((-1:Int):Rat)∧b.up = true∧b.v = qOf ((2:Int):Rat)∧(runM absD awS 0).lems.length = 2:=by
 obtain ⟨p,p',h⟩:=aw_run
 rw [h]
 exact ⟨_,_,rfl,rfl,rfl,rfl,rfl,rfl⟩
theorem awq_ls:D.agg [Leaf.val (.int .i64 1),afE.row [awF],afE.row [awF],ratE.row [0],ratE.row [((3:Int):Rat)],afE.row [],tmE.row [],Leaf.val (.bool false),nilL,nilL] = (D.v (quV awQ)):=by
 show _ = D.agg [Leaf.val (.int .i64 1),afE.row [awF],afE.row [awF],ratE.row [0],ratE.row [((3:Int):Rat)],afE.row [],tmE.row [],Leaf.val (.bool (cneg 0)),natL (limbs (cnum 0)),natL (limbs (cden 0))]
 rw [cnum_zero,cden_zero,limbs_zero];rfl
end Rc
set_option linter.unusedSimpArgs false
set_option linter.unusedVariables false
namespace Go.Proofs.YtjdbopkbfkgpdaaGreatDoor
open Go Go.RowKit Rc
set_option maxRecDepth 10000 in
theorem simple0 (nm:ByteArray) (s:Sc) (hs:SOk s) (f:Af) (hf:FOk 3 (s.q.g.inp + s.q.g.us.length) f):Ctr Tryz.prog 31 [V.agg [Leaf.val (.string nm),Leaf.val (.int .i64 0)],scV s,afV f] (R.tup [qV (qOf (abQ s f)),V.one (El.row muE (abL s f)),V.one (Leaf.val (.bool (abB s f)))]):=by
 refine bd_ Tryz.func31 Tryz.ntmps31 rfl (fun w0 A0=>?_)
 refine zc 12 rfl (dr_ 0 [] [] (dz 13 rfl (DK_nil (za 8 rfl (tc_ fn46 rfl (lower_r s hs f hf (by omega)) (zl 8 rfl ?_))))))
 exact r3_ hq_ rfl rfl
theorem run_simple (s:Sc) (hs:SOk s) (h80:s.lems.length≤80) (bits:Int) (h0:0≤bits) (h4:bits≤4096):Ctr Tryz.prog 12 [V.one (Leaf.val (ifV 48 [.string ⟨#[]⟩,.int .i64 0])),scV s,V.one (Leaf.val (.int .i64 (bits)))] (R.tup [scV (runM absD s bits),V.one (Leaf.val (.int .i64 0))]):=
 drun absD absD_ok 48 31 [.string ⟨#[]⟩,.int .i64 0] rfl (by kernel_rfl) fn31 (fun s f hs hf=>simple0 _ s hs f hf) s hs h80 bits h0 h4
theorem run_again_simple (s:Sc) (hs:SOk s) (h80:s.lems.length≤60) (bits:Int) (h0:0≤bits) (h4:bits≤4096):Ctr Tryz.prog 12 [V.one (Leaf.val (ifV 48 [.string ⟨#[]⟩,.int .i64 0])),scV (runM absD s bits),V.one (Leaf.val (.int .i64 (bits)))] (R.tup [scV (runM absD s bits),V.one (Leaf.val (.int .i64 0))]):=by
 have h:=runM_ok absD_ok hs (by omega) bits
 have:=run_simple (runM absD s bits) h.1 (by omega) bits h0 h4
 rwa [run_twice hs.q] at this
set_option maxRecDepth 10000 in
set_option maxHeartbeats 2000000 in
theorem awake_t  : Ctr Tryz.prog 10 [] (R.one (V.one (Leaf.val (.bool true)))):=by
 refine bd_ Tryz.func10 Tryz.ntmps10 rfl (fun w0 A0=>?_)
 obtain ⟨a,b,ha,hb,ha1,hb1,hb2,hlen⟩:=aw_get
 refine zc 7 rfl (tc_ fn33 rfl (rqof 1 (by decide) (by decide)) (zl 5 rfl (dr_ 1 [(5,1),(6,1)] [1] (dz 2 rfl (ke_ rfl (fun _=>Je_buildSlice rfl un30 ty68 tz68 rfl (by decide) (by decide) rfl (by decide) rfl) (kc_ fn33 rfl (rqof (-1) (by decide) (by decide)) (dz 3 rfl (DK_nil (za 2 rfl ?_)))))))))
 refine dr_ 1 [(11,2),(12,2)] [2] (dz 1 rfl (ke_ rfl (fun _=>Je_buildSlice rfl un24 ty36 tz36 rfl (by decide) (by decide) rfl (by decide) rfl) (dz 1 rfl (ke_ rfl (fun _=>Je_buildSlice rfl un24 ty36 tz36 rfl (by decide) (by decide) rfl (by decide) rfl) (dz 2 rfl (keq_ (D.agg (qL 0)) rfl (rat0) ?_))))))
 refine ke_ rfl (fun _=>Je_buildSlice rfl un27 ty34 tz34 rfl (by decide) (by decide) rfl (by decide) rfl) (kc_ fn33 rfl (rqof 3 (by decide) (by decide)) (ke_ rfl (fun _=>Je_buildSlice rfl un27 ty34 tz34 rfl (by decide) (by decide) rfl (by decide) rfl) (dz 2 rfl (keq_ (D.v (quV awQ)) rfl (awq_ls) (dz 2 rfl (DK_nil (za 4 rfl ?_)))))))
 refine tq_ rfl (Jq_iface (vs:=[.string ⟨#[]⟩,.int .i64 0]) rfl rfl (by kernel_rfl)) (zl 2 rfl (tc_ fn12 rfl (run_simple awS awS_ok (by decide) 0 (by decide) (by decide)) (zl 11 rfl (tq_ rfl (Jq_iface (vs:=[.string ⟨#[]⟩,.int .i64 0]) rfl rfl (by kernel_rfl)) (zl 1 rfl (tc_ fn12 rfl (run_again_simple awS awS_ok (by decide) 0 (by decide) (by decide)) (zl 9 rfl (dr_ 0 [] [] ?_))))))))
 refine dz 9 rfl (kq_ rfl (jln rfl) (kq_ rfl (eqT rfl) (dz 4 rfl (kq_ rfl (jln rfl) (kq_ rfl (eqT rfl) (dz 4 rfl (kq_ rfl (jix 0 ha rfl) (kq_ rfl (jft rfl) (kq_ rfl (jlr rfl) ?_)))))))))
 refine kc_ fn33 rfl (rqof (-1) (by decide) (by decide)) (kc_ fn24 rfl (rqsame a.v (qOf ((-1:Int):Rat))) (kis_ true rfl (by rw [ha1];exact sameQ_self _) (dz 4 rfl (kq_ rfl (jix 1 hb rfl) (kq_ rfl (jfr rfl) (kq_ rfl (jli rfl) (kis_ true rfl (hb1) (dz 4 rfl (kq_ rfl (jix 1 hb rfl) ?_)))))))))
 refine kq_ rfl (jft rfl) (kq_ rfl (jlr rfl) (kc_ fn33 rfl (rqof 2 (by decide) (by decide)) (kc_ fn24 rfl (rqsame b.v (qOf ((2:Int):Rat))) (kis_ true rfl (by rw [hb2];exact sameQ_self _) (dz 2 rfl (DK_nil (za 1 rfl ?_)))))))
 exact r1_ hq_ rfl rfl
end Go.Proofs.YtjdbopkbfkgpdaaGreatDoor
set_option linter.unusedSimpArgs false
set_option linter.unusedVariables false
namespace Rc
open Go Go.RowKit
section
variable {P:Program} {ops:Array Oper} {X:List Nat} {o:Oper} {Γ:Gam} {H:Hp}
theorem Je_store0 {t:Nat} {x y:Operand} {i off n:Nat} {e:HE} {v:V} {b:Bool} (ho:o.op = .store t x y) (hx:opD Γ x = some (D.ptr i off)) (hy:opD Γ y = some (D.v v)) (hi:H[i]? = some (some e))
  (ht:TyIs P t b n) (hn:v.leaves.length = n) (hrow:e.row = none) (hfit:off + n≤e.ls.length) {ls:List Leaf} (hls:splice e.ls off v.leaves = ls) (hfz:e.fz = 0:=by rfl) :
  Je P ops o Γ H none (H.set i (some { e with ls:=ls })):=by
 intro w0 A0 N Γ2 a w Q K hs hN hSt hK
 obtain ⟨E,hG⟩:=hSt
 obtain ⟨_,h1⟩:=op_at hs hG (x:=x) (by rw [ho];simp [Op.operands]) hx
 obtain ⟨_,h2⟩:=op_at hs hG (x:=y) (by rw [ho];simp [Op.operands]) hy
 have h1:a.eval x = .pointer (some ⟨E.b i,off,none⟩):=h1
 have hc:=V.den_cells (show v.den E.A (a.eval y) w from h2)
 obtain ⟨g1,_⟩:=hG.boxes i e hi
 have hni:=(HE.box g1 hrow).1
 obtain ⟨cs,rest,hcs,hd,hr⟩:=HE.block g1 hni
 have l1:=hd.length
 have l2:=hc.length
 simp only [Array.length_toList] at l2
 have hst:=run_storeCells_at P (E.b i) off e.t (a.eval y).cells.toList 0 (cs ++ rest).toArray w hcs (by simp;omega) hc.one
 have hrow:((cs ++ rest).toArray.toList.take (off + 0) ++ (a.eval y).cells.toList ++ (cs ++ rest).toArray.toList.drop (off + 0 + (a.eval y).cells.toList.length)) = splice cs off (a.eval y).cells.toList ++ rest:=by
  unfold splice
  simp only [Nat.add_zero,List.append_assoc]
  rw [List.take_append_of_le_length (by omega),List.drop_append_of_le_length (by simp;omega)]
 rw [hrow] at hst
 have hG':=hG.setRow hi hni (ls':=ls) (cs':=splice cs off (a.eval y).cells.toList) (rest':=rest) hcs (by simp [splice_length cs off (a.eval y).cells.toList (by simp;omega)]) hr (hls ▸ hd.splice off hc) (.inr (by rw [← hls];exact splice_length _ _ _ (by omega))) (fun j hj=>by rw [hfz] at hj;omega)
 refine wp_skipW (w':=w.setRow (E.b i) (splice cs off (a.eval y).cells.toList ++ rest).toArray) ?_ (hK _ _ ⟨E,hG'.put (fun d hd=>by cases hd) hN⟩)
 have hsz:(a.eval y).cells.size = n:=by omega
 simp [execOp,ho,h1,Instr.storeAt,Instr.sureAddr,storeVar,ht.sizeOf,hsz,hst]
theorem Jq_load0 {x:Operand} {t i off n:Nat} {e:HE} (ho:o.op = .load t x) (hx:opD Γ x = some (D.ptr i off)) (hi:H[i]? = some (some e)) (hXi:i ∉ X) (ht:TyIs P t true n)
  (hrow:e.row = none) (hn:off + n≤e.ls.length) {ls:List Leaf} (hls:(e.ls.drop off).take n = ls):Jq P ops X o Γ H (D.agg ls):=by
 intro w0 A0 N Γ2 H2 E a w hs hX hG
 obtain ⟨h1,h2⟩:=op_at hs hG (x:=x) (by rw [ho];simp [Op.operands]) hx
 have h2:a.eval x = .pointer (some ⟨E.b i,off,none⟩):=h2
 obtain ⟨g1,g2⟩:=hG.boxes i e (hX i e hXi hi)
 refine ⟨trivial,?_⟩
 obtain ⟨cs,rest,hc,hd,_⟩:=HE.block g1 (HE.box g1 hrow).1
 have hlen:=hd.length
 refine ⟨.agg ((cs.drop off).take n).toArray,?_,_,rfl,hls ▸ (hd.drop off).take n⟩
 have hl:=load_cells (P:=P) hc n (by simp;omega) (o:=off)
 have hcs:(((cs ++ rest).drop off).take n) = ((cs.drop off).take n):=by
  rw [List.drop_append_of_le_length (by omega),List.take_append_of_le_length (by simp;omega)]
 rw [hcs] at hl
 simp [execOp,ho,h2,Instr.loadAt,Instr.sureAddr,loadVar,ht.isAgg,ht.sizeOf,hl]
theorem Jq_str_ne {t u:Nat} {x y:Operand} {a b:ByteArray} {d:Bool} (ho:o.op = .binOp .neq t x y u) (hx:opD Γ x = some (D.val (.string a))) (hy:opD Γ y = some (D.val (.string b))) (hd:(a.toList != b.toList) = d):Jq P ops X o Γ H (D.bool d):=by
 intro w0 A0 N Γ2 H2 E a' w hs hX hG
 have e1:=op_val hs hG (x:=x) (by rw [ho];simp [Op.operands]) hx
 have e2:=op_val hs hG (x:=y) (by rw [ho];simp [Op.operands]) hy
 refine ⟨trivial,.bool d,?_,rfl,rfl⟩
 subst hd
 simp [execOp,ho,e1,e2,eqGuard,binOp,Op.stringOp,bne]
def vlE:El Value:=⟨fun v=>[Leaf.val v],1,fun _=>rfl,fun _=>rfl⟩
end
end Rc
set_option linter.unusedSimpArgs false
set_option linter.unusedVariables false
namespace Rc
open Go Go.RowKit
def sl (s:Sc) (up:Bool) (p:Af):List Mu:=if up = true then abL s (negF p) else abL s p
end Rc
set_option linter.unusedSimpArgs false
set_option linter.unusedVariables false
namespace Rc
open Go Go.RowKit
theorem cmpq_eq0 {p q:Rat}:cmpq p q = 0↔p = q:=by unfold cmpq;split <;> grind
def bestD (a b:Dom):Dom:=fun s f=>
 if (b s f).2.2 = true∧((a s f).2.2 = false ∨ (a s f).1 < (b s f).1) then ((b s f).1,(b s f).2.1,true) else a s f
theorem bestD_t {a b:Dom} {s:Sc} {f:Af} (h:(b s f).2.2 = true) (h2:(a s f).2.2 = false ∨ (a s f).1 < (b s f).1):bestD a b s f = ((b s f).1,(b s f).2.1,true):=if_pos ⟨h,h2⟩
theorem bestD_f {a b:Dom} {s:Sc} {f:Af} (h:¬ ((b s f).2.2 = true∧((a s f).2.2 = false ∨ (a s f).1 < (b s f).1))):bestD a b s f = a s f:=if_neg h
theorem abQ_any {s:Sc} (h:SOk s) {f:Af} {b:Nat} (hf:FOk b (s.q.g.inp + s.q.g.us.length) f) (hb:b≤9):Br (abQ s f) 60000000:=by
 unfold abQ
 split
 ·have hd:=abs_ok h.q h.B hf hb f.ts.length
  rw [List.take_length] at hd
  have hs:=sumM_fl (l:=abL s f) h.q h.d h.B hd.bd
  have h2:=(hf.fl.sub hs).cb
  refine h2.mono ?_
  have hl:=Nat.mul_le_mul_right (4 * 34401 + 200 + 7 * (8 * 34401 + 50) + 42) (show (abL s f).length≤14 from hd.len)
  omega
 ·exact Br.zero.mono (Nat.zero_le _)
theorem abL_any {s:Sc} (h:SOk s) {f:Af} {b:Nat} (hf:FOk b (s.q.g.inp + s.q.g.us.length) f) (hb:b≤9):MB (7 * (8 * 34401 + 50)) (abL s f)∧(abL s f).length≤14:=by
 have hd:=abs_ok h.q h.B hf hb f.ts.length
 rw [List.take_length] at hd
 exact ⟨hd.bd,hd.len⟩
def simD (k:Nat):Dom:=fun s f=>if 0 < k∧f.c < ((0 - (k:Int):Int):Rat) then (0,[],false) else (abQ s f,abL s f,abB s f)
theorem simD_no {k:Nat} {s:Sc} {f:Af} (h:0 < k) (h2:f.c < ((0 - (k:Int):Int):Rat)):simD k s f = (0,[],false):=if_pos ⟨h,h2⟩
theorem simD_yes {k:Nat} {s:Sc} {f:Af} (h:¬ (0 < k∧f.c < ((0 - (k:Int):Int):Rat))):simD k s f = (abQ s f,abL s f,abB s f):=if_neg h
@[reducible] def rowLo0:Rw:=⟨1,0,0,0⟩
@[reducible] def looF (s:Sc) (f:Af):Af:=fSub f (formM s rowLo0).1
@[reducible] def noL (s:Sc):Sc:=⟨s.q,s.path,[]⟩
def looD:Dom:=fun s f=>(abQ (noL s) (looF s f),plusM (abL (noL s) (looF s f)) rowLo0 ((1:Int):Rat),abB (noL s) (looF s f))
theorem noL_ok {s:Sc} (h:SOk s):SOk (noL s):=⟨h.q,h.d,h.pl,fun m hm=>by simp at hm,by simp⟩
theorem lo0_form {s:Sc} (h:SOk s):∃ c,s.q.r.lo[0]? = some c∧Hb c 3∧formM s rowLo0 = (fSub (fV 0) (fN c),true):=by
 have hl:=h.q.r.lo;have hh:=h.q.r.hi;have hi:=h.q.g.i1
 obtain ⟨c,hc⟩:∃ c,s.q.r.lo[0]? = some c:=⟨_,List.getElem?_eq_getElem (by omega)⟩
 obtain ⟨d,hd⟩:∃ d,s.q.r.hi[0]? = some d:=⟨_,List.getElem?_eq_getElem (by omega)⟩
 exact ⟨c,hc,(h.q.r.bd _ _ _ hc hd).1,form_lo (v:=0) hc⟩
theorem co_hb {B:Nat} {ts:List Tm} (h:∀ t∈ts,Hb t.2 B) (v:Nat):Hb (co ts v) B:=by
 induction ts with
 | nil=>exact Hb.z
 | cons t ts ih=>
  obtain ⟨w,d⟩:=t
  show Hb (if w = v then d else co ts v) B
  split
  ·exact h (w,d) (by simp)
  ·exact ih fun u hu=>h u (by simp [hu])
theorem sumT_hb {f g:List Tm} {B C:Nat} (hf:CanT f) (hg:CanT g) (h1:∀ t∈f,Hb t.2 B) (h2:∀ t∈g,Hb t.2 C):∀ t∈sumT f g,Hb t.2 (B + C + 1):=by
 intro t ht
 rw [← mem_co (sumT_can hf) ht,co_sumT hf hg]
 haveI:=co_hb h1 t.1
 haveI:=co_hb h2 t.1
 exact Hb.add
theorem FOk.add {f g:Af} {a b n:Nat} (hf:FOk a n f) (hg:FOk b n g):FOk (a + b + 1) n (fAdd f g):=by
 haveI:=hf.cb;haveI:=hg.cb
 refine ⟨sumT_can hf.can,fun t ht=>?_,Hb.add,sumT_var hf.var hg.var⟩
 exact sumT_hb hf.can hg.can hf.bd hg.bd t ht
theorem FOk.v {v n:Nat} (h:v < n):FOk 1 n (fV v):=
 ⟨⟨by decide,fun t ht=>by simp at ht,trivial⟩,fun t ht=>by simp [fV] at ht;subst ht;exact Hb.int (by decide),Hb.z,fun t ht=>by simp [fV] at ht;subst ht;exact h⟩
theorem FOk.n {c:Rat} {b n:Nat} (h:Hb c b):FOk b n (fN c):=⟨trivial,fun t ht=>by simp [fN] at ht,h,fun t ht=>by simp [fN] at ht⟩
theorem looF_ok {s:Sc} (h:SOk s) {f:Af} (hf:FOk 3 (s.q.g.inp + s.q.g.us.length) f):FOk 9 (s.q.g.inp + s.q.g.us.length) (looF s f):=by
 obtain ⟨c,hc,h3,he⟩:=lo0_form h
 have hi:=h.q.g.i1
 unfold looF
 rw [he]
 have h1:FOk 5 (s.q.g.inp + s.q.g.us.length) (fSub (fV 0) (fN c)):=(FOk.v (by omega)).add (FOk.n h3).neg
 exact hf.add h1.neg
def csI (tA tB k i:Nat):List Value:=if i = 0 then [ifV tA [.string ⟨#[97]⟩,.int .i64 ((k:Nat):Int)],ifV tB []] else [ifV tB [],ifV tA [.string ⟨#[97]⟩,.int .i64 ((k:Nat):Int)]]
theorem csI_get {tA tB tt k i:Nat} (h:i < 2):([(ifV tt [ifV tA [.string ⟨#[97]⟩,.int .i64 ((k:Nat):Int)],ifV tB []]:Value),(ifV tt [ifV tB [],ifV tA [.string ⟨#[97]⟩,.int .i64 ((k:Nat):Int)]]:Value)]:List Value)[i]? = some (ifV tt (csI tA tB k i)):=by
 match i,h with
 | 0,_=>rfl
 | 1,_=>rfl
theorem csI_one (tA tB k i:Nat):(csI tA tB k i).all Value.oneCell' = true:=by unfold csI;split <;> rfl
def nmI (i:Nat):ByteArray:=if i = 0 then ⟨#[97,43,108,111,111,115,101]⟩ else ⟨#[108,111,111,115,101,43,97]⟩
theorem nm_eq {i:Nat}:((nmI i).toList == (⟨#[97,43,108,111,111,115,101]⟩:ByteArray).toList) = decide (i = 0):=by
 unfold nmI;by_cases h:i = 0
 ·rw [if_pos h,decide_eq_true h];decide +kernel
 ·rw [if_neg h,decide_eq_false h];decide +kernel
theorem nm_ne {i:Nat} (h:(!(decide (i = 0))) = true):((nmI i).toList != (⟨#[108,111,111,115,101,43,97]⟩:ByteArray).toList) = false:=by
 have h:¬ i = 0:=by simpa using h
 unfold nmI;rw [if_neg h];decide +kernel
def bothD (k i:Nat):Dom:=if i = 0 then bestD (simD k) looD else bestD looD (simD k)
theorem simD_br {k:Nat} {s:Sc} (h:SOk s) {f:Af} (hf:FOk 3 (s.q.g.inp + s.q.g.us.length) f):Br (simD k s f).1 60000000:=by
 unfold simD;split
 ·exact Br.zero.mono (Nat.zero_le _)
 ·exact abQ_any h hf (by omega)
theorem looD_br {s:Sc} (h:SOk s) {f:Af} (hf:FOk 3 (s.q.g.inp + s.q.g.us.length) f):Br (looD s f).1 60000000:=abQ_any (noL_ok h) (looF_ok h hf) (by omega)
theorem simD_len {k:Nat} {s:Sc} (h:SOk s) {f:Af} (hf:FOk 3 (s.q.g.inp + s.q.g.us.length) f):(simD k s f).2.1.length≤15:=by
 unfold simD;split
 ·exact Nat.zero_le _
 ·exact Nat.le_trans (abL_any h hf (by omega)).2 (by omega)
theorem looD_len {s:Sc} (h:SOk s) {f:Af} (hf:FOk 3 (s.q.g.inp + s.q.g.us.length) f):(looD s f).2.1.length≤15:=by
 have h1:=plusM_len (abL (noL s) (looF s f)) rowLo0 ((1:Int):Rat)
 have h2:=(abL_any (noL_ok h) (looF_ok h hf) (by omega)).2
 have e:(looD s f).2.1 = plusM (abL (noL s) (looF s f)) rowLo0 ((1:Int):Rat):=rfl
 rw [e]
 omega
theorem bothD_b {k i:Nat} {s:Sc} {f:Af}:(bothD k i s f).2.2 = ((simD k s f).2.2 || (looD s f).2.2):=by
 unfold bothD bestD
 cases h1:(simD k s f).2.2 <;> cases h2:(looD s f).2.2 <;> split <;> simp only [] <;> split <;> simp_all
@[reducible] def fstP (k i:Nat) (s:Sc) (f:Af):Prop:=(simD k s f).2.2 = true∧((looD s f).2.2 = false ∨ (looD s f).1 < (simD k s f).1 ∨ ((simD k s f).1 = (looD s f).1∧i = 0))
theorem bothD_t {k i:Nat} {s:Sc} {f:Af} (h:fstP k i s f):(bothD k i s f).1 = (simD k s f).1∧(bothD k i s f).2.1 = (simD k s f).2.1:=by
 obtain ⟨h1,h2⟩:=h
 unfold bothD
 by_cases h0:i = 0
 ·rw [if_pos h0]
  have hn:¬ ((looD s f).2.2 = true∧((simD k s f).2.2 = false ∨ (simD k s f).1 < (looD s f).1)):=by
   rintro ⟨q1,q2⟩
   rcases q2 with q2 | q2
   ·rw [h1] at q2;exact absurd q2 (by decide)
   ·rcases h2 with h2 | h2 | h2
    ·rw [q1] at h2;exact absurd h2 (by decide)
    ·grind
    ·have:=h2.1;grind
  rw [bestD_f hn];exact ⟨rfl,rfl⟩
 ·rw [if_neg h0]
  have hn:(looD s f).2.2 = false ∨ (looD s f).1 < (simD k s f).1:=by
   rcases h2 with h2 | h2 | h2
   ·exact .inl h2
   ·exact .inr h2
   ·exact absurd h2.2 h0
  rw [bestD_t h1 hn];exact ⟨rfl,rfl⟩
theorem bothD_f {k i:Nat} {s:Sc} {f:Af} (hok:(!(bothD k i s f).2.2) = false) (h:¬ fstP k i s f):(bothD k i s f).1 = (looD s f).1∧(bothD k i s f).2.1 = (looD s f).2.1:=by
 have hok:(bothD k i s f).2.2 = true:=by simpa using hok
 rw [bothD_b] at hok
 unfold bothD
 by_cases h0:i = 0
 ·rw [if_pos h0]
  have hn:(looD s f).2.2 = true∧((simD k s f).2.2 = false ∨ (simD k s f).1 < (looD s f).1):=by
   cases h1:(simD k s f).2.2
   ·rw [h1] at hok;exact ⟨by simpa using hok,.inl rfl⟩
   ·cases h2:(looD s f).2.2
    ·exact absurd ⟨h1,.inl h2⟩ h
    ·refine ⟨rfl,.inr ?_⟩
     by_cases h3:(looD s f).1 < (simD k s f).1
     ·exact absurd ⟨h1,.inr (.inl h3)⟩ h
     ·by_cases h4:(simD k s f).1 = (looD s f).1
      ·exact absurd ⟨h1,.inr (.inr ⟨h4,h0⟩)⟩ h
      ·grind
  rw [bestD_t hn.1 hn.2];exact ⟨rfl,rfl⟩
 ·rw [if_neg h0]
  have hn:¬ ((simD k s f).2.2 = true∧((looD s f).2.2 = false ∨ (looD s f).1 < (simD k s f).1)):=by
   rintro ⟨q1,q2⟩
   exact h ⟨q1,q2.elim .inl (fun e=>.inr (.inl e))⟩
  rw [bestD_f hn];exact ⟨rfl,rfl⟩
end Rc
set_option linter.unusedSimpArgs false
set_option linter.unusedVariables false
namespace Go.Proofs.YtjdbopkbfkgpdaaGreatDoor
open Go Go.RowKit Rc
set_option maxRecDepth 10000 in
theorem both_ok (t1 t2:Nat) (c1 c2:List Value):Ctr Tryz.prog 30 [V.one (Leaf.val (ifV t1 c1)),V.one (Leaf.val (ifV t2 c2))] (R.one (V.one (Leaf.val (ifV 124 [ifV t1 c1,ifV t2 c2])))):=by
 refine bd_ Tryz.func30 Tryz.ntmps30 rfl (fun w0 A0=>?_)
 refine zc 9 rfl (tq_ rfl (Jq_eql_if rfl rfl rfl (by kernel_rfl)) (zl 2 rfl (tq_ rfl (Jq_eql_if rfl rfl rfl (by kernel_rfl)) (zl 11 rfl (tq_ rfl (Jq_iface (vs:=[ifV t1 c1,ifV t2 c2]) rfl rfl (by kernel_rfl)) (zl 3 rfl ?_))))))
 exact r1_ hq_ rfl rfl
set_option maxRecDepth 10000 in
theorem both_n1 (t2:Nat) (c2:List Value):Ctr Tryz.prog 30 [V.one (Leaf.val .nilIface),V.one (Leaf.val (ifV t2 c2))] (R.one (V.one (Leaf.val .nilIface))):=by
 refine bd_ Tryz.func30 Tryz.ntmps30 rfl (fun w0 A0=>?_)
 refine zc 9 rfl (tq_ rfl (Jq_eql_nil rfl rfl rfl (by kernel_rfl)) (zl 12 rfl ?_))
 exact r1_ hq_ rfl rfl
set_option maxRecDepth 10000 in
theorem both_n2 (t1:Nat) (c1:List Value):Ctr Tryz.prog 30 [V.one (Leaf.val (ifV t1 c1)),V.one (Leaf.val .nilIface)] (R.one (V.one (Leaf.val .nilIface))):=by
 refine bd_ Tryz.func30 Tryz.ntmps30 rfl (fun w0 A0=>?_)
 refine zc 9 rfl (tq_ rfl (Jq_eql_if rfl rfl rfl (by kernel_rfl)) (zl 2 rfl (tq_ rfl (Jq_eql_nil rfl rfl rfl (by kernel_rfl)) (zl 9 rfl ?_))))
 exact r1_ hq_ rfl rfl
set_option maxRecDepth 10000 in
theorem both_lower (d1 d2:Dom) (t1 f1 t2 f2:Nat) (c1 c2:List Value) (ho1:c1.all Value.oneCell' = true) (ho2:c2.all Value.oneCell' = true) (hm1:methF Tryz.prog t1 "Lower" = some f1) (hm2:methF Tryz.prog t2 "Lower" = some f2) (hf1:FnOk Tryz.prog f1) (hf2:FnOk Tryz.prog f2) (s:Sc) (f:Af) {B C:Nat} [b1:Br (d1 s f).1 B] [b2:Br (d2 s f).1 C] (hB:B≤100000000000) (hC:C≤100000000000) (hL1:Ctr Tryz.prog f1 [V.agg (vals c1),scV s,afV f] (R.tup [qV (qOf (d1 s f).1),V.one (El.row muE (d1 s f).2.1),V.one (Leaf.val (.bool (d1 s f).2.2))])) (hL2:Ctr Tryz.prog f2 [V.agg (vals c2),scV s,afV f] (R.tup [qV (qOf (d2 s f).1),V.one (El.row muE (d2 s f).2.1),V.one (Leaf.val (.bool (d2 s f).2.2))])):Ctr Tryz.prog 206 [V.agg [Leaf.val (ifV t1 c1),Leaf.val (ifV t2 c2)],scV s,afV f] (R.tup [qV (qOf (bestD d1 d2 s f).1),V.one (El.row muE (bestD d1 d2 s f).2.1),V.one (Leaf.val (.bool (bestD d1 d2 s f).2.2))]):=by
 refine bd_ Tryz.func206 Tryz.ntmps206 rfl (fun w0 A0=>?_)
 refine zc 16 rfl (te_ rfl (Je_invoke rfl rfl hm1 hf1 rfl (hL1) ho1) (zl 16 rfl (te_ rfl (Je_invoke rfl rfl hm2 hf2 rfl (hL2) ho2) (zl 15 rfl ?_))))
 refine two_ rfl (fun hb2=>?_) (fun hb2=>?_)
 ·refine zl 24 rfl ?_
  exact r3_ hq_ rfl (by rw [bestD_f (fun h=>by rw [hb2] at h;exact absurd h.1 (by decide))])
 ·refine zl 3 rfl ?_
  refine two_ rfl (fun hb1=>?_) (fun hb1=>?_)
  ·refine zl 2 rfl (tc_ fn45 rfl (qcmp (qOf ((d2 s f).1)) ((d2 s f).1) (qOf_q _) (Br.use (by omega)) (qOf ((d1 s f).1)) ((d1 s f).1) (qOf_q _) (Br.use (by omega))) ?_)
   by_cases hlt:(d1 s f).1 < (d2 s f).1
   ·refine tq_ rfl (gtT rfl (by rw [cmpq_gt];exact hlt)) (zl 14 rfl ?_)
    exact r3_ hq_ rfl (by rw [bestD_t hb2 (.inr hlt)])
   ·refine tq_ rfl (gtF rfl (by rw [cmpq_gt];exact hlt)) (zl 17 rfl ?_)
    exact r3_ hq_ rfl (by rw [bestD_f (fun h=>h.2.elim (fun e=>by rw [e] at hb1;exact absurd hb1 (by decide)) hlt)])
  ·refine zl 18 rfl ?_
   exact r3_ hq_ rfl (by rw [bestD_t hb2 (.inl (by simpa using hb1))])
set_option maxRecDepth 10000 in
theorem sim_name (k:Nat):Ctr Tryz.prog 204 [V.agg [Leaf.val (.string ⟨#[97]⟩),Leaf.val (.int .i64 ((k:Nat):Int))]] (R.one (V.one (Leaf.val (.string ⟨#[97]⟩)))):=by
 refine bd_ Tryz.func204 Tryz.ntmps204 rfl (fun w0 A0=>?_)
 refine zc 13 rfl ?_
 exact r1_ hq_ rfl rfl
set_option maxRecDepth 10000 in
theorem loo_name  : Ctr Tryz.prog 205 [V.agg []] (R.one (V.one (Leaf.val (.string ⟨#[108,111,111,115,101]⟩)))):=by
 refine bd_ Tryz.func205 Tryz.ntmps205 rfl (fun w0 A0=>?_)
 refine zc 11 rfl ?_
 exact r1_ hq_ rfl rfl
set_option maxRecDepth 10000 in
theorem name_ab (k:Nat):Ctr Tryz.prog 207 [V.agg [Leaf.val (ifV 48 [.string ⟨#[97]⟩,.int .i64 ((k:Nat):Int)]),Leaf.val (ifV 81 [])]] (R.one (V.one (Leaf.val (.string ⟨#[97,43,108,111,111,115,101]⟩)))):=by
 refine bd_ Tryz.func207 Tryz.ntmps207 rfl (fun w0 A0=>?_)
 refine zc 7 rfl (dr_ 0 [] [] (dz 2 rfl (ke_ rfl (fun _=>Je_invoke rfl rfl (by kernel_rfl) fn204 rfl (sim_name k) ) (kq_ rfl (Jq_str_add rfl rfl rfl (by decide) (c:=⟨#[97,43]⟩) (by kernel_rfl)) (dz 2 rfl (ke_ rfl (fun _=>Je_invoke rfl rfl (by kernel_rfl) fn205 rfl (loo_name) ) ?_))))))
 refine kq_ rfl (Jq_str_add rfl rfl rfl (by decide) (c:=⟨#[97,43,108,111,111,115,101]⟩) (by kernel_rfl)) (dz 1 rfl (DK_nil (za 1 rfl ?_)))
 exact r1_ hq_ rfl rfl
set_option maxRecDepth 10000 in
theorem name_ba (k:Nat):Ctr Tryz.prog 207 [V.agg [Leaf.val (ifV 81 []),Leaf.val (ifV 48 [.string ⟨#[97]⟩,.int .i64 ((k:Nat):Int)])]] (R.one (V.one (Leaf.val (.string ⟨#[108,111,111,115,101,43,97]⟩)))):=by
 refine bd_ Tryz.func207 Tryz.ntmps207 rfl (fun w0 A0=>?_)
 refine zc 7 rfl (dr_ 0 [] [] (dz 2 rfl (ke_ rfl (fun _=>Je_invoke rfl rfl (by kernel_rfl) fn205 rfl (loo_name) ) (kq_ rfl (Jq_str_add rfl rfl rfl (by decide) (c:=⟨#[108,111,111,115,101,43]⟩) (by kernel_rfl)) (dz 2 rfl (ke_ rfl (fun _=>Je_invoke rfl rfl (by kernel_rfl) fn204 rfl (sim_name k) ) ?_))))))
 refine kq_ rfl (Jq_str_add rfl rfl rfl (by decide) (c:=⟨#[108,111,111,115,101,43,97]⟩) (by kernel_rfl)) (dz 1 rfl (DK_nil (za 1 rfl ?_)))
 exact r1_ hq_ rfl rfl
set_option maxRecDepth 10000 in
theorem simple_k (k:Nat) (hk:k≤4) (s:Sc) (hs:SOk s) (f:Af) (hf:FOk 3 (s.q.g.inp + s.q.g.us.length) f):Ctr Tryz.prog 31 [V.agg [Leaf.val (.string ⟨#[97]⟩),Leaf.val (.int .i64 ((k:Nat):Int))],scV s,afV f] (R.tup [qV (qOf (simD k s f).1),V.one (El.row muE (simD k s f).2.1),V.one (Leaf.val (.bool (simD k s f).2.2))]):=by
 refine bd_ Tryz.func31 Tryz.ntmps31 rfl (fun w0 A0=>?_)
 refine zc 12 rfl (dr_ 0 [] [] (dz 2 rfl ?_))
 by_cases h1:0 < k
 ·refine kq_ rfl (gtT rfl) (dz 5 rfl ?_)
  haveI:=hf.cb;haveI:=hf.br
  haveI:Br ((0 - (k:Int):Int):Rat) 2:=Br.int2 (by omega) (by omega)
  refine kq_ rfl (Jq_neg rfl rfl (r:=0 - (k:Int)) (w64 (by omega) (by omega) (by omega))) (kc_ fn33 rfl (rqof (0 - (k:Int)) (by omega) (by omega)) (kc_ fn22 rfl (rqcmp (qOf (f.c)) (f.c) (qOf_q _) (Br.use (by omega)) (qOf ((((0 - (k:Int)):Int):Rat))) ((((0 - (k:Int)):Int):Rat)) (qOf_q _) (Br.use (by omega))) ?_))
  by_cases h2:f.c < ((0 - (k:Int):Int):Rat)
  ·refine kq_ rfl (ltT rfl (by rw [cmpq_lt];exact h2)) (dz 1 rfl (DK_nil (za 10 rfl ?_)))
   exact r3_ hq_ rfl (by rw [simD_no h1 h2];show _ = R.tup [qV (qOf 0),_,_];rw [← qV_zero] <;> rfl)
  ·refine kq_ rfl (ltF rfl (by rw [cmpq_lt];exact h2)) (dz 1 rfl (DK_nil (za 8 rfl (tc_ fn46 rfl (lower_r s hs f hf (by omega)) (zl 8 rfl ?_)))))
   exact r3_ hq_ rfl (by rw [simD_yes (fun h=>h2 h.2)])
 ·refine kq_ rfl (gtF rfl) (dz 10 rfl (DK_nil (za 8 rfl (tc_ fn46 rfl (lower_r s hs f hf (by omega)) (zl 8 rfl ?_)))))
  exact r3_ hq_ rfl (by rw [simD_yes (fun h=>h1 h.1)])
set_option maxRecDepth 10000 in
theorem loose_t (s:Sc) (hs:SOk s) (f:Af) (hf:FOk 3 (s.q.g.inp + s.q.g.us.length) f):Ctr Tryz.prog 32 [V.agg [],scV s,afV f] (R.tup [qV (qOf (looD s f).1),V.one (El.row muE (looD s f).2.1),V.one (Leaf.val (.bool (looD s f).2.2))]):=by
 refine bd_ Tryz.func32 Tryz.ntmps32 rfl (fun w0 A0=>?_)
 obtain ⟨c0,hc0,hb0,hform⟩:=lo0_form hs
 have hl0:(formM s rowLo0).2 = true:=by rw [hform]
 have hfl:=hf.fl
 have hF:FL (4 * 34401 + 200 + 40) (s.q.g.inp + s.q.g.us.length) (formM s rowLo0).1:=formM_fl hs.q hs.d hs.B
 obtain ⟨hMB,hML⟩:=abL_any (noL_ok hs) (looF_ok hs hf) (by omega)
 have g1:=hs.q.g.i3;have g2:=hs.q.g.u4
 haveI:=hfl.fm (by omega);haveI:=hfl.cb
 haveI:=hF.fm (by omega);haveI:=hF.cb
 refine zc 21 rfl (tc_ fn72 rfl (form_r s hs.B (by omega) (by have:=hs.ll;omega) hs.q hs.d (by omega) (by have:=hs.pl;omega) rowLo0) (zl 3 rfl (is_ true rfl (hl0) (zl 22 rfl (dr_ 1 [(9,6),(10,6)] [6] ?_)))))
 refine kq_ rfl (Jq_viewN (x:=V.agg (quL s.q ++ [El.row dcE s.path,Leaf.val (.slice none 0 0)])) (x':=V.agg (quL s.q ++ [El.row dcE s.path,El.row lmE ([])])) (Jq_load_agg rfl rfl rfl (by decide) ty42 (by decide) (Nat.le_of_ble_eq_true rfl) rfl) ⟨.inl rfl,.inl rfl,.inl rfl,.inl rfl,.inl rfl,.inl rfl,.inl rfl,.inl rfl,.inl rfl,.inl rfl,.inl rfl,.inr ⟨rfl,rfl⟩,trivial⟩) ?_
 refine dz 2 rfl (kc_ fn73 rfl (rsub7 f (formM s rowLo0).1 (by omega) (by omega) (by omega)) (kc_ fn46 rfl (lower_r (noL s) (noL_ok hs) (looF s f) (looF_ok hs hf) (by omega)) (dz 8 rfl (DK_nil (za 2 rfl (dr_ 0 [(6,3)] [3] (dz 3 rfl (kc_ fn33 rfl (rqof 1 (by decide) (by decide)) (kc_ fn74 rfl (plus_r (abL (noL s) (looF s f)) rowLo0 ((1:Int):Rat) hMB (by omega) (by omega)) ?_)))))))))
 refine dz 4 rfl (DK_nil (za 1 rfl ?_))
 exact r3_ hq_ rfl rfl
set_option maxRecDepth 10000 in
theorem form23 (l:List Nat) (hl:l.length≤1000000) (hb:∀ x∈l,x < 256) (g:Gr) (hg:GOk g):Ctr Tryz.prog 29 [V.one (El.row u8E l),grV g] (R.one (afV (formq l 0 (g.inp + g.us.length)).1)):=by
 refine bd_ Tryz.func29 Tryz.ntmps29 rfl (fun w0 A0=>?_)
 have hk0:0≤l.length:=Nat.zero_le _
 have h1:=hg.i1;have h2:=hg.i3;have h3:=hg.u4;have h4:=hg.o1;have h5:=hg.o3
 refine zc 9 rfl ?_
 refine Tl_inline rfl rfl Tryz.func54 rfl rfl Tryz.ntmps54 (Nat.le_of_ble_eq_true rfl) rfl (fun a1 d1 s1=>?_)
 refine qc_ (zc 7 rfl (te_ rfl (Je_build0F rfl un22 ty5 _) (zl 1 rfl ?_)))
 obtain ⟨ti2,hi2,hz2,hs2,hb2⟩:=in5
 refine te_ rfl (Je_append0F u8E l rfl rfl rfl (by decide) un22 un22 hi2 hz2 hs2 rfl (by simp only [maxLen];omega) (by rw [hb2];omega) (H2:=_)) (zl 5 rfl (Tc_retI1 [(3,some (D.ptr 0 0)),(4,some (D.ptr 1 0))] (fun _ _ h=>h) d1 s1 rfl rfl rfl ⟨rfl,rfl,trivial⟩ (zl 7 rfl (tc_ fn52 rfl (vars_r g (by assumption)) ?_))))
 refine te_ rfl (Je_call_ptr rfl fn71 rfl rfl rfl rfl (form_spec l 0 (g.inp + g.us.length) (by omega) hl (by assumption) hb)) (zl 3 rfl ?_)
 exact r1_ hq_ rfl rfl
theorem lower_i (k:Nat) (hk:k≤4) (i:Nat) (s:Sc) (hs:SOk s) (f:Af) (hf:FOk 3 (s.q.g.inp + s.q.g.us.length) f):Ctr Tryz.prog 206 [V.agg (vals (csI 48 81 k i)),scV s,afV f] (R.tup [qV (qOf (bothD k i s f).1),V.one (El.row muE (bothD k i s f).2.1),V.one (Leaf.val (.bool (bothD k i s f).2.2))]):=by
 unfold csI bothD
 split
 ·exact (by haveI:=simD_br (k:=k) hs hf;haveI:=looD_br hs hf;exact both_lower (simD k) looD 48 31 81 32 [.string ⟨#[97]⟩,.int .i64 ((k:Nat):Int)] [] rfl rfl (by kernel_rfl) (by kernel_rfl) fn31 fn32 s f (B:=60000000) (C:=60000000) (by omega) (by omega) (simple_k k hk s hs f hf) (loose_t s hs f hf))
 ·exact (by haveI:=simD_br (k:=k) hs hf;haveI:=looD_br hs hf;exact both_lower looD (simD k) 81 32 48 31 [] [.string ⟨#[97]⟩,.int .i64 ((k:Nat):Int)] rfl rfl (by kernel_rfl) (by kernel_rfl) fn32 fn31 s f (B:=60000000) (C:=60000000) (by omega) (by omega) (loose_t s hs f hf) (simple_k k hk s hs f hf))
theorem name_i (k i:Nat):Ctr Tryz.prog 207 [V.agg (vals (csI 48 81 k i))] (R.one (V.one (Leaf.val (.string (nmI i))))):=by
 unfold csI nmI
 split
 ·exact name_ab k
 ·exact name_ba k
end Go.Proofs.YtjdbopkbfkgpdaaGreatDoor
