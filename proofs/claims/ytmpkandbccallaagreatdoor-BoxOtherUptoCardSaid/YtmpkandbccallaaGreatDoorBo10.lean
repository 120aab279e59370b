/- Parts of the proof, 10: the texts WlT, Coll, Fw1, Fw2, WlA2, Best, Lw23, Der, Box, Ev, Mem, BoxB, BoxC, BoxW, as far as they are used. -/
import Derived.Test.YtmpkandbccallaaGreatDoorBo09
set_option linter.unusedSimpArgs false
set_option linter.unusedVariables false
namespace Go.Proofs.YtmpkandbccallaaGreatDoor
open Go Go.RowKit Rc
set_option maxRecDepth 10000 in
theorem round_p (x:Rat) (up:Bool) (bits:Int) {H:Nat} (hx:Hb x H) (hH:H < 800000) (h0:0≤bits) (h4:bits≤4096):Ctr Tryz.prog 82 [V.agg (qL (x)),V.one (Leaf.val (.bool up)),V.one (Leaf.val (.int .i64 (bits)))] (R.one (V.agg (qL (rndB x up bits)))):=by
 refine bd_ Tryz.func82 Tryz.ntmps82 rfl (fun w0 A0=>?_)
 haveI hbr:Br x 25000:=hx.limb (by omega)
 refine zc 10 rfl ?_
 by_cases hb0:bits = 0
 ·refine tq_ rfl (eqT rfl) (zl 9 rfl ?_)
  exact r1_ hq_ rfl (by unfold rndB;rw [if_pos hb0] <;> rfl)
 ·refine tq_ rfl (eqF rfl) (zl 16 rfl ?_)
  refine Tc_cond rfl (fun hup=>?_) (fun hup=>?_)
  ·refine zc 9 rfl (te_ rfl (Je_callV rfl rfl fn136 rfl (dup (qOf x) x (qOf_q _) (Br.use (by omega)) bits)) (zl 3 rfl (eq_ (D.val (.int .i64 0)) rfl (by unfold rndE;rw [if_neg (by omega)]) (zl 18 rfl (tc_ fn137 rfl (drat (rndD x bits (decide (0 < sg x))) (Bd.use (by omega))) (zl 3 rfl ?_))))))
   exact r1_ hq_ rfl (by unfold rndB;rw [if_neg hb0,if_pos hup] <;> rfl)
  ·refine zc 7 rfl (te_ rfl (Je_callV rfl rfl fn135 rfl (ddown (qOf x) x (qOf_q _) (Br.use (by omega)) bits)) (zl 3 rfl (eq_ (D.val (.int .i64 0)) rfl (by unfold rndE;rw [if_neg (by omega)]) (zl 18 rfl (tc_ fn137 rfl (drat (rndD x bits (decide (sg x < 0))) (Bd.use (by omega))) (zl 3 rfl ?_))))))
   exact r1_ hq_ rfl (by unfold rndB;rw [if_neg hb0,if_neg (by rw [hup];decide)] <;> rfl)
set_option maxRecDepth 10000 in
set_option maxHeartbeats 2000000 in
theorem drun (d:Dom) (hdm:DomOk d) (tD fL:Nat) (cs:List Value) (hone:cs.all Value.oneCell' = true) (hm:methF Tryz.prog tD "Lower" = some fL) (hfL:FnOk Tryz.prog fL) (hL:∀ (s:Sc) (f:Af),SOk s→FOk 3 (s.q.g.inp + s.q.g.us.length) f→Ctr Tryz.prog fL [V.agg (vals cs),scV s,afV f] (R.tup [qV (qOf (d s f).1),V.one (El.row muE (d s f).2.1),V.one (Leaf.val (.bool (d s f).2.2))])) (s:Sc) (hs:SOk s) (h80:s.lems.length≤80) (bits:Int) (h0:0≤bits) (h4:bits≤4096):Ctr Tryz.prog 31 [V.one (Leaf.val (ifV tD cs)),scV s,V.one (Leaf.val (.int .i64 (bits)))] (R.tup [scV (runM d s bits),V.one (Leaf.val (.int .i64 0))]):=by
 refine bd_ Tryz.func31 Tryz.ntmps31 rfl (fun w0 A0=>?_)
 have hq:=hs.q;have hd:=hs.d;have hpl:=hs.pl;have hB:=hs.B;have hll:=hs.ll
 have hg:=hq.g;have hr:=hq.r;have hlo:=hr.lo;have hhi:=hr.hi
 have g1:=hg.i1;have g2:=hg.i3;have g3:=hg.u4;have g4:=hg.o1;have g5:=hg.o3
 refine zc 13 rfl (tq_ rfl (Jq_eql_if rfl rfl rfl (by kernel_rfl)) (zl 3 rfl (tc_ fn75 rfl (qvalid_p s.q hq) (zl 4 rfl (tq_ rfl (ltF rfl) (zl 3 rfl (tq_ rfl (gtF rfl) (zl 7 rfl (nz_ [so 3 (D.ptr 0 0),so 4 (D.ptr 1 0),so 5 (D.ptr 2 0),so 6 (D.ptr 3 0)] [hb_ 129 [Leaf.val (ifV tD cs)],hb_ 42 (scL s),hb_ 3 [Leaf.val (.int .i64 bits)],hb_ 42 scZ] rfl rfl ?_)))))))))
 refine dr_ 1 [(5,4),(7,1),(9,1)] [4,1] (dz 1 rfl (kp_ [4] rfl (jld rfl) (kc_ fn76 rfl (clone_dc s.path (by omega)) (dz 1 rfl (kp_ [4] rfl (jld rfl) (ki_ 4 rfl (Jd_callG (i:=4) rfl fn77 rfl (clone_lm s.lems (by omega)) (by decide) rfl) (dz 4 rfl (DK_nil (za 3 rfl ?_)))))))))
 refine nz_ [so 3 _,so 4 _,so 5 _,so 6 _] [_,hb_ 42 (quL s.q ++ [El.row dcE s.path,Leaf.own 4 0]),_,_,hgr 133 6 lmE s.lems 0] rfl rfl ?_
 refine Tc_pin 0 rfl (fun q1=>?_)
 refine Tc_pin 1 rfl (fun q2=>?_)
 refine Tc_pin 2 rfl (fun q3=>?_)
 refine zc 5 rfl (tq_ rfl (jln rfl) (zl 4 rfl ?_))
 refine lpR_ (fun m Γ H=>∃ (i:Nat) (n:Nat) (out:List Lm),s.q.g.us.length - i = m∧Γ = [(3,some (D.ptr 0 0)),(4,some (D.ptr 1 0)),(5,some (D.ptr 2 0)),(6,some (D.ptr 3 0)),(39,some (D.v (V.one (El.row afE s.q.g.us)))),(40,some (D.val (.int .i64 ((s.q.g.us.length:Nat):Int)))),(41,some (D.val (.int .i64 ((i:Nat):Int))))]∧H = [hbq 129 [Leaf.val (ifV tD cs)] q1,hbq 42 (quL s.q ++ [El.row dcE s.path,Leaf.own 4 n]) q2,hbq 3 [Leaf.val (.int .i64 bits)] q3,hb_ 42 scZ,hgr 133 6 lmE out n]∧i≤s.q.g.us.length∧out = Rc.runN d s bits i) ⟨0,0,s.lems,rfl,rfl,rfl,Nat.zero_le _,rfl⟩ rfl ?_
 rintro m Γ H ⟨i,n,out,rfl,rfl,rfl,hi0,hout⟩
 refine zc 2 rfl ?_
 by_cases hi:i < s.q.g.us.length
 ·refine tq_ rfl (ltT rfl) (zl 9 rfl ?_)
  obtain ⟨p,hp⟩:∃ p,s.q.g.us[i]? = some p:=⟨_,List.getElem?_eq_getElem hi⟩
  have hso:=runN_sok hdm hs h80 (bits:=bits) (n:=i) (by omega)
  have hln:=(runN_ok hdm hs h80 bits i (by omega)).2
  rw [← hout] at hso hln
  have hpf:=hq.g.us i p hp
  have hpf2:FOk 3 (s.q.g.inp + s.q.g.us.length) p:=hpf.mono (Nat.le_refl _) (by omega)
  have hnf:=hpf.neg
  have hnf2:=hpf2.neg
  have hpl_:=hpf2.fl
  haveI:=hpl_.fm (by omega);haveI:=hpl_.cb
  have hK:=KB_le (j:=i) (by omega)
  have hrA:=runA_ok hdm hs (bits:=bits) hso hp
  refine nz_ [so 3 (D.ptr 0 0),so 4 (D.ptr 1 0),so 5 (D.ptr 2 0),so 6 (D.ptr 3 0),so 39 (D.v (V.one (El.row afE s.q.g.us))),so 40 (D.val (.int .i64 ((s.q.g.us.length:Nat):Int))),so 41 (D.val (.int .i64 ((i:Nat):Int)))] [hbq 129 [Leaf.val (ifV tD cs)] q1,hbq 42 (quL s.q ++ [El.row dcE s.path,Leaf.own 4 n]) q2,hbq 3 [Leaf.val (.int .i64 bits)] q3,hb_ 42 scZ,hgr 133 6 lmE out n] rfl rfl ?_
  refine zc 2 rfl (tq_ rfl (jix i hp rfl) (tq_ rfl (jlr rfl) (zl 7 rfl ?_)))
  refine Tc_pin 5 rfl (fun q6=>?_)
  refine Tc_pin 6 rfl (fun q7=>?_)
  refine zc 1 rfl ?_
  refine te_ rfl (Je_makeFunc (vs:=[.pointer (some ⟨q7,0,none⟩),.pointer (some ⟨q1,0,none⟩),.pointer (some ⟨q2,0,none⟩),.pointer (some ⟨q6,0,none⟩),.pointer (some ⟨q3,0,none⟩)]) rfl ⟨⟨_,rfl,.inr ⟨_,_,_,rfl,rfl,rfl,rfl,rfl⟩⟩,⟨_,rfl,.inr ⟨_,_,_,rfl,rfl,rfl,rfl,rfl⟩⟩,⟨_,rfl,.inr ⟨_,_,_,rfl,rfl,rfl,rfl,rfl⟩⟩,⟨_,rfl,.inr ⟨_,_,_,rfl,rfl,rfl,rfl,rfl⟩⟩,⟨_,rfl,.inr ⟨_,_,_,rfl,rfl,rfl,rfl,rfl⟩⟩,trivial⟩) ?_
  refine zl 4 rfl (nz_ [so 3 _,so 4 _,so 5 _,so 6 _,so 10 (D.val (.func (.func 78) #[] #[.pointer (some ⟨q7,0,none⟩),.pointer (some ⟨q1,0,none⟩),.pointer (some ⟨q2,0,none⟩),.pointer (some ⟨q6,0,none⟩),.pointer (some ⟨q3,0,none⟩)])),so 39 _,so 40 _,so 41 _] [_,_,_,_,_,hbq 3 [Leaf.val (.int .i64 ((i:Nat):Int))] q6,hbq 29 (afL p) q7] rfl rfl (zc 2 rfl ?_))
  refine Tl_inlineF (dc:=[D.ptr 6 0,D.ptr 0 0,D.ptr 1 0,D.ptr 5 0,D.ptr 2 0]) rfl rfl rfl ⟨.inr ⟨_,_,_,rfl,rfl,rfl,rfl,rfl⟩,.inr ⟨_,_,_,rfl,rfl,rfl,rfl,rfl⟩,.inr ⟨_,_,_,rfl,rfl,rfl,rfl,rfl⟩,.inr ⟨_,_,_,rfl,rfl,rfl,rfl,rfl⟩,.inr ⟨_,_,_,rfl,rfl,rfl,rfl,rfl⟩,trivial⟩ Tryz.func78 rfl rfl Tryz.ntmps78 (Nat.le_of_ble_eq_true rfl) rfl (fun a8 d8 s8=>?_)
  refine qc_ (zc 19 rfl (tq_ rfl (jvl 11 rfl rfl) (zl 1 rfl (te_ rfl (Je_invoke rfl rfl hm hfL rfl (hL (withL s out) p hso hpf2) hone) (zl 17 rfl ?_)))))
  refine Tc_cond rfl (fun hb1n=>?_) (fun hb1n=>?_)
  ·refine Tc_retI0 [(3,some (D.ptr 0 0)),(4,some (D.ptr 1 0)),(5,some (D.ptr 2 0)),(6,some (D.ptr 3 0)),(10,some (D.val (.func (.func 78) #[] #[.pointer (some ⟨q7,0,none⟩),.pointer (some ⟨q1,0,none⟩),.pointer (some ⟨q2,0,none⟩),.pointer (some ⟨q6,0,none⟩),.pointer (some ⟨q3,0,none⟩)]))),(39,some (D.v (V.one (El.row afE s.q.g.us)))),(40,some (D.val (.int .i64 ((s.q.g.us.length:Nat):Int)))),(41,some (D.val (.int .i64 ((i:Nat):Int))))] (fun _ _ h=>h) d8 s8 rfl rfl ⟨rfl,rfl,rfl,rfl,rfl,rfl,rfl,rfl,trivial⟩ ?_
   refine zl 2 rfl ?_
   have hA:runA d s bits out i p = out:=by unfold runA;rw [sideN_f1 (by have h:(d (withL s out) p).2.2 = false:=(by simpa using hb1n);exact h),List.append_nil]
   have hso1:SOk (withL s out):=by rw [← hA];exact LOk.withL hs hrA.1 (by have:=hrA.2;have hl2:out.length≤s.lems.length + 2 * i:=hln;omega)
   refine zc 2 rfl ?_
   refine Tl_inlineF (dc:=[D.ptr 6 0,D.ptr 0 0,D.ptr 1 0,D.ptr 5 0,D.ptr 2 0]) rfl rfl rfl ⟨.inr ⟨_,_,_,rfl,rfl,rfl,rfl,rfl⟩,.inr ⟨_,_,_,rfl,rfl,rfl,rfl,rfl⟩,.inr ⟨_,_,_,rfl,rfl,rfl,rfl,rfl⟩,.inr ⟨_,_,_,rfl,rfl,rfl,rfl,rfl⟩,.inr ⟨_,_,_,rfl,rfl,rfl,rfl,rfl⟩,trivial⟩ Tryz.func78 rfl rfl Tryz.ntmps78 (Nat.le_of_ble_eq_true rfl) rfl (fun a9 d9 s9=>?_)
   refine qc_ (zc 14 rfl (dr_ 0 [(3,9)] [9] (dz 1 rfl (kc_ fn80 rfl (qof_spec (-1) (by decide) (by decide)) (kc_ fn79 rfl (scale_p p ((-1:Int):Rat) hpl_ (by omega) (by omega) (by omega)) (dz 1 rfl (DK_nil (za 4 rfl (tq_ rfl (jvl 11 rfl rfl) ?_)))))))))
   refine zl 1 rfl (te_ rfl (Je_invoke rfl rfl hm hfL rfl (hL (withL s out) (negF p) hso1 hnf2) hone) (zl 17 rfl ?_))
   refine Tc_cond rfl (fun hb2n=>?_) (fun hb2n=>?_)
   ·refine Tc_retI0 [(3,some (D.ptr 0 0)),(4,some (D.ptr 1 0)),(5,some (D.ptr 2 0)),(6,some (D.ptr 3 0)),(39,some (D.v (V.one (El.row afE s.q.g.us)))),(40,some (D.val (.int .i64 ((s.q.g.us.length:Nat):Int)))),(41,some (D.val (.int .i64 ((i:Nat):Int))))] (fun _ _ h=>h) d9 s9 rfl rfl ⟨rfl,rfl,rfl,rfl,rfl,rfl,rfl,trivial⟩ (zl 4 rfl (tq_ rfl (jad (i + 1) rfl) ?_))
    refine zl 2 rfl (At_free 5 (At_free 6 (At_free 7 (At_free 8 (At_free 9 (At_free 10 (trim_ 5 rfl ?_)))))))
    exact nx_ ⟨i + 1,_,_,rfl,rfl,rfl,hi,by rw [runN_get hp,← hout,hA,sideN_f1 (by have h:(d (withL s out) (negF p)).2.2 = false:=(by simpa using hb2n);exact h)];simp only [List.append_nil]⟩ rfl
   ·refine zc 3 rfl ?_
    have hb2:(d (withL s out) (negF p)).2.2 = true:=by simpa using hb2n
    haveI h1hb2:Hb (d (withL s out) (negF p)).1 (KB i - 4200):=hdm (withL s out) hso1 i (negF p) (by exact hi) (by exact hnf) (by exact hb2)
    have h2hb2:Hb (-(d (withL s out) (negF p)).1) (KB i - 4200):=Hb.neg
    haveI h3hb2:Br (d (withL s out) (negF p)).1 40002:=h1hb2.limb (by omega)
    haveI:Br (rndB (-(d (withL s out) (negF p)).1) true bits) 44101:=((rndB_hb (up:=true) (bits:=bits) h2hb2 (by omega)).mono (show _≤44100 by omega)).br
    have hso_B_2:∀ m∈out,Fq m.v 40001:=hso1.B
    have hso_L_2:(out).length≤100:=hso1.ll
    refine zc 1 rfl (tq_ rfl (jvl 11 rfl rfl) (zl 1 rfl (tc_ fn81 rfl (best_p (withL s out) hso_B_2 (by omega) (by show (out).length≤_;omega) ((i:Nat):Int)) (zl 8 rfl ?_))))
    refine nf_ [7,8,9] [so 0 (D.bool true),so 3 (D.ptr 1 0),so 4 (D.ptr 5 0),so 5 _,so 8 (D.ptr 10 0),so 9 (D.v (V.one (El.row muE ((d (withL s out) (negF p)).2.1)))),so 11 (D.val (.int .i64 (((best out ((i:Nat):Int)).1:Nat):Int))),so 12 (D.val (.int .i64 (((best out ((i:Nat):Int)).2:Nat):Int))),so 2003 (D.ptr 0 0),so 2004 (D.ptr 1 0),so 2005 (D.ptr 2 0),so 2006 (D.ptr 3 0),so 2039 (D.v (V.one (El.row afE s.q.g.us))),so 2040 (D.val (.int .i64 ((s.q.g.us.length:Nat):Int))),so 2041 (D.val (.int .i64 ((i:Nat):Int)))] [_,_,_,_,_,_,_,none,none,none,hb_ 27 (qL ((d (withL s out) (negF p)).1))] rfl rfl rfl ?_
    refine zc 15 rfl (tc_ fn47 rfl (qneg (qOf ((d (withL s out) (negF p)).1)) ((d (withL s out) (negF p)).1) (qOf_q _) (Br.use (by omega))) (zl 7 rfl ?_))
    refine nz_ [so 0 _,so 3 _,so 4 _,so 5 _,so 8 _,so 9 _,so 13 (D.val (.int .i64 (((best out ((i:Nat):Int)).2:Nat):Int))),so 14 (D.val (.int .i64 (-1))),so 2003 _,so 2004 _,so 2005 _,so 2006 _,so 2039 _,so 2040 _,so 2041 _] [_,_,_,_,_,_,_,none,none,none,hb_ 27 (qL (-((d (withL s out) (negF p)).1)))] rfl rfl (zc 4 rfl ?_)
    refine tc_ fn82 rfl (round_p (-(d (withL s out) (negF p)).1) true bits h2hb2 (by omega) h0 h4) (zl 3 rfl ?_)
    refine mt_ [so 0 (D.bool true),so 3 (D.ptr 1 0),so 4 (D.ptr 5 0),so 8 (D.ptr 10 0),so 9 (D.v (V.one (El.row muE ((d (withL s out) (negF p)).2.1)))),so 59 (D.bool (strong out i true (rndB (-(d (withL s out) (negF p)).1) true bits))),so 2003 (D.ptr 0 0),so 2004 (D.ptr 1 0),so 2005 (D.ptr 2 0),so 2006 (D.ptr 3 0),so 2039 (D.v (V.one (El.row afE s.q.g.us))),so 2040 (D.val (.int .i64 ((s.q.g.us.length:Nat):Int))),so 2041 (D.val (.int .i64 ((i:Nat):Int)))] [hbq 129 [Leaf.val (ifV tD cs)] q1,hbq 42 (quL s.q ++ [El.row dcE s.path,Leaf.own 4 n]) q2,hbq 3 [Leaf.val (.int .i64 bits)] q3,hb_ 42 scZ,hgr 133 6 lmE out n,hbq 3 [Leaf.val (.int .i64 ((i:Nat):Int))] q6,hbq 29 (afL p) q7,none,none,none,hb_ 27 (qL (rndB (-(d (withL s out) (negF p)).1) true bits))] ?_ ?_
    ·refine dr_ 0 [] [] (dz 1 rfl ?_)
     by_cases hk2:(best out ((i:Nat):Int)).2 = 0
     ·refine kq_ rfl (eqT rfl) (dz 13 rfl (kis_ (strong out i true (rndB (-(d (withL s out) (negF p)).1) true bits)) rfl (by exact (strong_ut (.inl hk2)).symm) (DK_nil ?_)))
      exact mx_ rfl
     ·refine kq_ rfl (eqF rfl) (dz 3 rfl ?_)
      obtain ⟨y,hy,_,_,hly,hy0,hyl⟩:=best_hi hk2
      haveI hyB:=hso_B_2 y (List.mem_of_getElem? hy)
      refine kq_ rfl (Jq_view (r:=4) (n:=n) (x:=V.one (Leaf.own 4 n)) (x':=V.one (El.row lmE out)) (Jq_load rfl rfl rfl (by decide) ty40 rfl) (RowAt.ofE lmE out rfl (by decide)) (by decide) (.inr ⟨rfl,rfl⟩)) (dz 1 rfl (kq_ rfl (jsb ((best out ((i:Nat):Int)).2 - 1) rfl) (kq_ rfl (jix ((best out ((i:Nat):Int)).2 - 1) hy rfl) (kq_ rfl (jft rfl) (kq_ rfl (jlr rfl) ?_)))))
      refine kc_ fn83 rfl (qcmp (qOf ((rndB (-(d (withL s out) (negF p)).1) true bits))) ((rndB (-(d (withL s out) (negF p)).1) true bits)) (qOf_q _) (Br.use (by omega)) y.v (y.v.q) rfl (Fq.use (x:=y.v) (by omega))) (dz 1 rfl ?_)
      by_cases hc2:rndB (-(d (withL s out) (negF p)).1) true bits < lv out (best out ((i:Nat):Int)).2
      ·refine kq_ rfl (eqT rfl (by rw [cmpq_lt1,← hly];exact hc2)) (dz 1 rfl (kis_ (strong out i true (rndB (-(d (withL s out) (negF p)).1) true bits)) rfl (by exact (strong_ut (.inr hc2)).symm) (DK_nil ?_)))
       exact mx_ rfl
      ·refine kq_ rfl (eqF rfl (fun e=>hc2 (by rw [hly];exact cmpq_lt1.1 e))) (dz 1 rfl (kis_ (strong out i true (rndB (-(d (withL s out) (negF p)).1) true bits)) rfl (by exact (strong_uf hk2 hc2).symm) (DK_nil ?_)))
       exact mx_ rfl
    ·refine Tc_cond rfl (fun hs2=>?_) (fun hs2=>?_)
     ·refine zc 8 rfl (te_ rfl (Je_buildSlice rfl un40 ty133 tz133 rfl (by decide) (by decide) rfl (by decide) rfl) (te_ rfl (jap (e:=lmE) (⟨((i:Nat):Int),true,(qOf ((rndB (-(d (withL s out) (negF p)).1) true bits))),(d (withL s out) (negF p)).2.1⟩) rfl rfl) (zl 3 rfl ?_)))
      refine At_retI0 [(3,some (D.ptr 0 0)),(4,some (D.ptr 1 0)),(5,some (D.ptr 2 0)),(6,some (D.ptr 3 0)),(39,some (D.v (V.one (El.row afE s.q.g.us)))),(40,some (D.val (.int .i64 ((s.q.g.us.length:Nat):Int)))),(41,some (D.val (.int .i64 ((i:Nat):Int))))] d9 s9 rfl rfl ⟨rfl,rfl,rfl,rfl,rfl,rfl,rfl,trivial⟩ (zl 4 rfl (tq_ rfl (jad (i + 1) rfl) (zl 2 rfl ?_)))
      refine At_free 5 (At_free 6 (At_free 10 (trim_ 5 rfl ?_)))
      exact nx_ ⟨i + 1,_,_,rfl,rfl,rfl,hi,by rw [runN_get hp,← hout,hA,sideN_t (by exact hb2) (by exact hs2)];rfl⟩ rfl
     ·refine zc 1 rfl (At_retI0 [(3,some (D.ptr 0 0)),(4,some (D.ptr 1 0)),(5,some (D.ptr 2 0)),(6,some (D.ptr 3 0)),(39,some (D.v (V.one (El.row afE s.q.g.us)))),(40,some (D.val (.int .i64 ((s.q.g.us.length:Nat):Int)))),(41,some (D.val (.int .i64 ((i:Nat):Int))))] d9 s9 rfl rfl ⟨rfl,rfl,rfl,rfl,rfl,rfl,rfl,trivial⟩ (zl 4 rfl (tq_ rfl (jad (i + 1) rfl) ?_)))
      refine zl 2 rfl (At_free 5 (At_free 6 (At_free 10 (trim_ 5 rfl ?_))))
      exact nx_ ⟨i + 1,_,_,rfl,rfl,rfl,hi,by rw [runN_get hp,← hout,hA,sideN_f2 (by exact hs2)];simp only [List.append_nil]⟩ rfl
  ·refine zc 3 rfl ?_
   have hb1:(d (withL s out) p).2.2 = true:=by simpa using hb1n
   haveI h1hb1:Hb (d (withL s out) p).1 (KB i - 4200):=hdm (withL s out) hso i p (by exact hi) (by exact hpf) (by exact hb1)
   have h2hb1:=h1hb1
   haveI h3hb1:Br (d (withL s out) p).1 40002:=h1hb1.limb (by omega)
   haveI:Br (rndB (d (withL s out) p).1 false bits) 44101:=((rndB_hb (up:=false) (bits:=bits) h2hb1 (by omega)).mono (show _≤44100 by omega)).br
   have hso_B_1:∀ m∈out,Fq m.v 40001:=hso.B
   have hso_L_1:(out).length≤100:=hso.ll
   refine zc 1 rfl (tq_ rfl (jvl 11 rfl rfl) (zl 1 rfl (tc_ fn81 rfl (best_p (withL s out) hso_B_1 (by omega) (by show (out).length≤_;omega) ((i:Nat):Int)) (zl 8 rfl ?_))))
   refine nf_ [7] [so 0 (D.bool false),so 3 (D.ptr 1 0),so 4 (D.ptr 5 0),so 5 _,so 8 (D.ptr 8 0),so 9 (D.v (V.one (El.row muE ((d (withL s out) p).2.1)))),so 11 (D.val (.int .i64 (((best out ((i:Nat):Int)).1:Nat):Int))),so 12 (D.val (.int .i64 (((best out ((i:Nat):Int)).2:Nat):Int))),so 2003 (D.ptr 0 0),so 2004 (D.ptr 1 0),so 2005 (D.ptr 2 0),so 2006 (D.ptr 3 0),so 2010 (D.val (.func (.func 78) #[] #[.pointer (some ⟨q7,0,none⟩),.pointer (some ⟨q1,0,none⟩),.pointer (some ⟨q2,0,none⟩),.pointer (some ⟨q6,0,none⟩),.pointer (some ⟨q3,0,none⟩)])),so 2039 (D.v (V.one (El.row afE s.q.g.us))),so 2040 (D.val (.int .i64 ((s.q.g.us.length:Nat):Int))),so 2041 (D.val (.int .i64 ((i:Nat):Int)))] [_,_,_,_,_,_,_,none,hb_ 27 (qL ((d (withL s out) p).1))] rfl rfl rfl ?_
   refine zc 20 rfl (tc_ fn82 rfl (round_p ((d (withL s out) p).1) false bits h2hb1 (by omega) h0 h4) (zl 3 rfl ?_))
   refine mt_ [so 0 (D.bool false),so 3 (D.ptr 1 0),so 4 (D.ptr 5 0),so 8 (D.ptr 8 0),so 9 (D.v (V.one (El.row muE ((d (withL s out) p).2.1)))),so 59 (D.bool (strong out i false (rndB (d (withL s out) p).1 false bits))),so 2003 (D.ptr 0 0),so 2004 (D.ptr 1 0),so 2005 (D.ptr 2 0),so 2006 (D.ptr 3 0),so 2010 (D.val (.func (.func 78) #[] #[.pointer (some ⟨q7,0,none⟩),.pointer (some ⟨q1,0,none⟩),.pointer (some ⟨q2,0,none⟩),.pointer (some ⟨q6,0,none⟩),.pointer (some ⟨q3,0,none⟩)])),so 2039 (D.v (V.one (El.row afE s.q.g.us))),so 2040 (D.val (.int .i64 ((s.q.g.us.length:Nat):Int))),so 2041 (D.val (.int .i64 ((i:Nat):Int)))] [hbq 129 [Leaf.val (ifV tD cs)] q1,hbq 42 (quL s.q ++ [El.row dcE s.path,Leaf.own 4 n]) q2,hbq 3 [Leaf.val (.int .i64 bits)] q3,hb_ 42 scZ,hgr 133 6 lmE out n,hbq 3 [Leaf.val (.int .i64 ((i:Nat):Int))] q6,hbq 29 (afL p) q7,none,hb_ 27 (qL (rndB (d (withL s out) p).1 false bits))] ?_ ?_
   ·refine nz_ [so 0 _,so 3 _,so 4 _,so 8 _,so 9 _,so 13 (D.val (.int .i64 (((best out ((i:Nat):Int)).1:Nat):Int))),so 14 (D.val (.int .i64 1)),so 2003 _,so 2004 _,so 2005 _,so 2006 _,so 2010 _,so 2039 _,so 2040 _,so 2041 _] [_,_,_,_,_,_,_,none,hb_ 27 (qL (rndB (d (withL s out) p).1 false bits))] rfl rfl (dr_ 0 [] [] (dz 1 rfl ?_))
    by_cases hk1:(best out ((i:Nat):Int)).1 = 0
    ·refine kq_ rfl (eqT rfl) (dz 13 rfl (kis_ (strong out i false (rndB (d (withL s out) p).1 false bits)) rfl (by exact (strong_lt (.inl hk1)).symm) (DK_nil ?_)))
     exact mx_ rfl
    ·refine kq_ rfl (eqF rfl) (dz 3 rfl ?_)
     obtain ⟨y,hy,_,_,hly,hy0,hyl⟩:=best_lo hk1
     haveI hyB:=hso_B_1 y (List.mem_of_getElem? hy)
     refine kq_ rfl (Jq_view (r:=4) (n:=n) (x:=V.one (Leaf.own 4 n)) (x':=V.one (El.row lmE out)) (Jq_load rfl rfl rfl (by decide) ty40 rfl) (RowAt.ofE lmE out rfl (by decide)) (by decide) (.inr ⟨rfl,rfl⟩)) (dz 1 rfl (kq_ rfl (jsb ((best out ((i:Nat):Int)).1 - 1) rfl) (kq_ rfl (jix ((best out ((i:Nat):Int)).1 - 1) hy rfl) (kq_ rfl (jft rfl) (kq_ rfl (jlr rfl) ?_)))))
     refine kc_ fn83 rfl (qcmp (qOf ((rndB (d (withL s out) p).1 false bits))) ((rndB (d (withL s out) p).1 false bits)) (qOf_q _) (Br.use (by omega)) y.v (y.v.q) rfl (Fq.use (x:=y.v) (by omega))) (dz 1 rfl ?_)
     by_cases hc1:lv out (best out ((i:Nat):Int)).1 < rndB (d (withL s out) p).1 false bits
     ·refine kq_ rfl (eqT rfl (by rw [cmpq_gt1,← hly];exact hc1)) (dz 1 rfl (kis_ (strong out i false (rndB (d (withL s out) p).1 false bits)) rfl (by exact (strong_lt (.inr hc1)).symm) (DK_nil ?_)))
      exact mx_ rfl
     ·refine kq_ rfl (eqF rfl (fun e=>hc1 (by rw [hly];exact cmpq_gt1.1 e))) (dz 1 rfl (kis_ (strong out i false (rndB (d (withL s out) p).1 false bits)) rfl (by exact (strong_lf hk1 hc1).symm) (DK_nil ?_)))
      exact mx_ rfl
   ·refine Tc_cond rfl (fun hs1=>?_) (fun hs1=>?_)
    ·refine zc 8 rfl (te_ rfl (Je_buildSlice rfl un40 ty133 tz133 rfl (by decide) (by decide) rfl (by decide) rfl) (te_ rfl (jap (e:=lmE) (⟨((i:Nat):Int),false,(qOf ((rndB (d (withL s out) p).1 false bits))),(d (withL s out) p).2.1⟩) rfl rfl) (zl 3 rfl ?_)))
     refine At_retI0 [(3,some (D.ptr 0 0)),(4,some (D.ptr 1 0)),(5,some (D.ptr 2 0)),(6,some (D.ptr 3 0)),(10,some (D.val (.func (.func 78) #[] #[.pointer (some ⟨q7,0,none⟩),.pointer (some ⟨q1,0,none⟩),.pointer (some ⟨q2,0,none⟩),.pointer (some ⟨q6,0,none⟩),.pointer (some ⟨q3,0,none⟩)]))),(39,some (D.v (V.one (El.row afE s.q.g.us)))),(40,some (D.val (.int .i64 ((s.q.g.us.length:Nat):Int)))),(41,some (D.val (.int .i64 ((i:Nat):Int))))] d8 s8 rfl rfl ⟨rfl,rfl,rfl,rfl,rfl,rfl,rfl,rfl,trivial⟩ ?_
     refine zl 2 rfl ?_
     have hA:runA d s bits out i p = out ++ [(⟨(i:Int),false,qOf (rndB (d (withL s out) p).1 false bits),(d (withL s out) p).2.1⟩:Lm)]:=by unfold runA;rw [sideN_t (by exact hb1) (by exact hs1)];rfl
     have hso1:SOk (withL s (out ++ [(⟨(i:Int),false,qOf (rndB (d (withL s out) p).1 false bits),(d (withL s out) p).2.1⟩:Lm)])):=by rw [← hA];exact LOk.withL hs hrA.1 (by have:=hrA.2;have hl2:out.length≤s.lems.length + 2 * i:=hln;omega)
     refine zc 2 rfl ?_
     refine Tl_inlineF (dc:=[D.ptr 6 0,D.ptr 0 0,D.ptr 1 0,D.ptr 5 0,D.ptr 2 0]) rfl rfl rfl ⟨.inr ⟨_,_,_,rfl,rfl,rfl,rfl,rfl⟩,.inr ⟨_,_,_,rfl,rfl,rfl,rfl,rfl⟩,.inr ⟨_,_,_,rfl,rfl,rfl,rfl,rfl⟩,.inr ⟨_,_,_,rfl,rfl,rfl,rfl,rfl⟩,.inr ⟨_,_,_,rfl,rfl,rfl,rfl,rfl⟩,trivial⟩ Tryz.func78 rfl rfl Tryz.ntmps78 (Nat.le_of_ble_eq_true rfl) rfl (fun a16 d16 s16=>?_)
     refine qc_ (zc 14 rfl (dr_ 0 [(3,9)] [9] (dz 1 rfl (kc_ fn80 rfl (qof_spec (-1) (by decide) (by decide)) (kc_ fn79 rfl (scale_p p ((-1:Int):Rat) hpl_ (by omega) (by omega) (by omega)) (dz 1 rfl (DK_nil (za 4 rfl (tq_ rfl (jvl 11 rfl rfl) ?_)))))))))
     refine zl 1 rfl (te_ rfl (Je_invoke rfl rfl hm hfL rfl (hL (withL s (out ++ [(⟨(i:Int),false,qOf (rndB (d (withL s out) p).1 false bits),(d (withL s out) p).2.1⟩:Lm)])) (negF p) hso1 hnf2) hone) (zl 17 rfl ?_))
     refine Tc_cond rfl (fun hb2n=>?_) (fun hb2n=>?_)
     ·refine Tc_retI0 [(3,some (D.ptr 0 0)),(4,some (D.ptr 1 0)),(5,some (D.ptr 2 0)),(6,some (D.ptr 3 0)),(39,some (D.v (V.one (El.row afE s.q.g.us)))),(40,some (D.val (.int .i64 ((s.q.g.us.length:Nat):Int)))),(41,some (D.val (.int .i64 ((i:Nat):Int))))] (fun _ _ h=>h) d16 s16 rfl rfl ⟨rfl,rfl,rfl,rfl,rfl,rfl,rfl,trivial⟩ (zl 4 rfl (tq_ rfl (jad (i + 1) rfl) ?_))
      refine zl 2 rfl (At_free 5 (At_free 6 (At_free 8 (At_free 9 (At_free 10 (trim_ 5 rfl ?_))))))
      exact nx_ ⟨i + 1,_,_,rfl,rfl,rfl,hi,by rw [runN_get hp,← hout,hA,sideN_f1 (by have h:(d (withL s (out ++ [(⟨(i:Int),false,qOf (rndB (d (withL s out) p).1 false bits),(d (withL s out) p).2.1⟩:Lm)])) (negF p)).2.2 = false:=(by simpa using hb2n);exact h)];simp only [List.append_nil]⟩ rfl
     ·refine zc 3 rfl ?_
      have hb2:(d (withL s (out ++ [(⟨(i:Int),false,qOf (rndB (d (withL s out) p).1 false bits),(d (withL s out) p).2.1⟩:Lm)])) (negF p)).2.2 = true:=by simpa using hb2n
      haveI h1hb2:Hb (d (withL s (out ++ [(⟨(i:Int),false,qOf (rndB (d (withL s out) p).1 false bits),(d (withL s out) p).2.1⟩:Lm)])) (negF p)).1 (KB i - 4200):=hdm (withL s (out ++ [(⟨(i:Int),false,qOf (rndB (d (withL s out) p).1 false bits),(d (withL s out) p).2.1⟩:Lm)])) hso1 i (negF p) (by exact hi) (by exact hnf) (by exact hb2)
      have h2hb2:Hb (-(d (withL s (out ++ [(⟨(i:Int),false,qOf (rndB (d (withL s out) p).1 false bits),(d (withL s out) p).2.1⟩:Lm)])) (negF p)).1) (KB i - 4200):=Hb.neg
      haveI h3hb2:Br (d (withL s (out ++ [(⟨(i:Int),false,qOf (rndB (d (withL s out) p).1 false bits),(d (withL s out) p).2.1⟩:Lm)])) (negF p)).1 40002:=h1hb2.limb (by omega)
      haveI:Br (rndB (-(d (withL s (out ++ [(⟨(i:Int),false,qOf (rndB (d (withL s out) p).1 false bits),(d (withL s out) p).2.1⟩:Lm)])) (negF p)).1) true bits) 44101:=((rndB_hb (up:=true) (bits:=bits) h2hb2 (by omega)).mono (show _≤44100 by omega)).br
      have hso_B_2:∀ m∈out ++ [(⟨(i:Int),false,qOf (rndB (d (withL s out) p).1 false bits),(d (withL s out) p).2.1⟩:Lm)],Fq m.v 40001:=hso1.B
      have hso_L_2:(out ++ [(⟨(i:Int),false,qOf (rndB (d (withL s out) p).1 false bits),(d (withL s out) p).2.1⟩:Lm)]).length≤100:=hso1.ll
      refine zc 1 rfl (tq_ rfl (jvl 11 rfl rfl) (zl 1 rfl (tc_ fn81 rfl (best_p (withL s (out ++ [(⟨(i:Int),false,qOf (rndB (d (withL s out) p).1 false bits),(d (withL s out) p).2.1⟩:Lm)])) hso_B_2 (by omega) (by show (out ++ [(⟨(i:Int),false,qOf (rndB (d (withL s out) p).1 false bits),(d (withL s out) p).2.1⟩:Lm)]).length≤_;omega) ((i:Nat):Int)) (zl 8 rfl ?_))))
      refine nf_ [8,9] [so 0 (D.bool true),so 3 _,so 4 _,so 5 _,so 8 (D.ptr 10 0),so 9 (D.v (V.one (El.row muE ((d (withL s (out ++ [(⟨(i:Int),false,qOf (rndB (d (withL s out) p).1 false bits),(d (withL s out) p).2.1⟩:Lm)])) (negF p)).2.1)))),so 11 (D.val (.int .i64 (((best (out ++ [(⟨(i:Int),false,qOf (rndB (d (withL s out) p).1 false bits),(d (withL s out) p).2.1⟩:Lm)]) ((i:Nat):Int)).1:Nat):Int))),so 12 (D.val (.int .i64 (((best (out ++ [(⟨(i:Int),false,qOf (rndB (d (withL s out) p).1 false bits),(d (withL s out) p).2.1⟩:Lm)]) ((i:Nat):Int)).2:Nat):Int))),so 2003 _,so 2004 _,so 2005 _,so 2006 _,so 2039 _,so 2040 _,so 2041 _] [_,hbq 42 (quL s.q ++ [El.row dcE s.path,Leaf.own 4 (n + 1)]) q2,_,_,hgr 133 6 lmE (out ++ [⟨((i:Nat):Int),false,(qOf ((rndB (d (withL s out) p).1 false bits))),(d (withL s out) p).2.1⟩]) (n + 1),_,_,none,none,none,hb_ 27 (qL ((d (withL s (out ++ [(⟨(i:Int),false,qOf (rndB (d (withL s out) p).1 false bits),(d (withL s out) p).2.1⟩:Lm)])) (negF p)).1))] rfl rfl rfl ?_
      refine zc 15 rfl (tc_ fn47 rfl (qneg (qOf ((d (withL s (out ++ [(⟨(i:Int),false,qOf (rndB (d (withL s out) p).1 false bits),(d (withL s out) p).2.1⟩:Lm)])) (negF p)).1)) ((d (withL s (out ++ [(⟨(i:Int),false,qOf (rndB (d (withL s out) p).1 false bits),(d (withL s out) p).2.1⟩:Lm)])) (negF p)).1) (qOf_q _) (Br.use (by omega))) (zl 7 rfl ?_))
      refine nz_ [so 0 _,so 3 _,so 4 _,so 5 _,so 8 _,so 9 _,so 13 (D.val (.int .i64 (((best (out ++ [(⟨(i:Int),false,qOf (rndB (d (withL s out) p).1 false bits),(d (withL s out) p).2.1⟩:Lm)]) ((i:Nat):Int)).2:Nat):Int))),so 14 (D.val (.int .i64 (-1))),so 2003 _,so 2004 _,so 2005 _,so 2006 _,so 2039 _,so 2040 _,so 2041 _] [_,_,_,_,_,_,_,none,none,none,hb_ 27 (qL (-((d (withL s (out ++ [(⟨(i:Int),false,qOf (rndB (d (withL s out) p).1 false bits),(d (withL s out) p).2.1⟩:Lm)])) (negF p)).1)))] rfl rfl ?_
      refine zc 4 rfl (tc_ fn82 rfl (round_p (-(d (withL s (out ++ [(⟨(i:Int),false,qOf (rndB (d (withL s out) p).1 false bits),(d (withL s out) p).2.1⟩:Lm)])) (negF p)).1) true bits h2hb2 (by omega) h0 h4) (zl 3 rfl ?_))
      refine mt_ [so 0 (D.bool true),so 3 (D.ptr 1 0),so 4 (D.ptr 5 0),so 8 (D.ptr 10 0),so 9 (D.v (V.one (El.row muE ((d (withL s (out ++ [(⟨(i:Int),false,qOf (rndB (d (withL s out) p).1 false bits),(d (withL s out) p).2.1⟩:Lm)])) (negF p)).2.1)))),so 59 (D.bool (strong (out ++ [(⟨(i:Int),false,qOf (rndB (d (withL s out) p).1 false bits),(d (withL s out) p).2.1⟩:Lm)]) i true (rndB (-(d (withL s (out ++ [(⟨(i:Int),false,qOf (rndB (d (withL s out) p).1 false bits),(d (withL s out) p).2.1⟩:Lm)])) (negF p)).1) true bits))),so 2003 (D.ptr 0 0),so 2004 (D.ptr 1 0),so 2005 (D.ptr 2 0),so 2006 (D.ptr 3 0),so 2039 (D.v (V.one (El.row afE s.q.g.us))),so 2040 (D.val (.int .i64 ((s.q.g.us.length:Nat):Int))),so 2041 (D.val (.int .i64 ((i:Nat):Int)))] [hbq 129 [Leaf.val (ifV tD cs)] q1,hbq 42 (quL s.q ++ [El.row dcE s.path,Leaf.own 4 (n + 1)]) q2,hbq 3 [Leaf.val (.int .i64 bits)] q3,hb_ 42 scZ,hgr 133 6 lmE (out ++ [⟨((i:Nat):Int),false,(qOf ((rndB (d (withL s out) p).1 false bits))),(d (withL s out) p).2.1⟩]) (n + 1),hbq 3 [Leaf.val (.int .i64 ((i:Nat):Int))] q6,hbq 29 (afL p) q7,none,none,none,hb_ 27 (qL (rndB (-(d (withL s (out ++ [(⟨(i:Int),false,qOf (rndB (d (withL s out) p).1 false bits),(d (withL s out) p).2.1⟩:Lm)])) (negF p)).1) true bits))] ?_ ?_
      ·refine dr_ 0 [] [] (dz 1 rfl ?_)
       by_cases hk2:(best (out ++ [(⟨(i:Int),false,qOf (rndB (d (withL s out) p).1 false bits),(d (withL s out) p).2.1⟩:Lm)]) ((i:Nat):Int)).2 = 0
       ·refine kq_ rfl (eqT rfl) (dz 13 rfl (kis_ (strong (out ++ [(⟨(i:Int),false,qOf (rndB (d (withL s out) p).1 false bits),(d (withL s out) p).2.1⟩:Lm)]) i true (rndB (-(d (withL s (out ++ [(⟨(i:Int),false,qOf (rndB (d (withL s out) p).1 false bits),(d (withL s out) p).2.1⟩:Lm)])) (negF p)).1) true bits)) rfl (by exact (strong_ut (.inl hk2)).symm) (DK_nil ?_)))
        exact mx_ rfl
       ·refine kq_ rfl (eqF rfl) (dz 3 rfl ?_)
        obtain ⟨y,hy,_,_,hly,hy0,hyl⟩:=best_hi hk2
        haveI hyB:=hso_B_2 y (List.mem_of_getElem? hy)
        refine kq_ rfl (Jq_view (r:=4) (n:=(n + 1)) (x:=V.one (Leaf.own 4 (n + 1))) (x':=V.one (El.row lmE (out ++ [⟨((i:Nat):Int),false,(qOf ((rndB (d (withL s out) p).1 false bits))),(d (withL s out) p).2.1⟩]))) (Jq_load rfl rfl rfl (by decide) ty40 rfl) (RowAt.ofE lmE (out ++ [⟨((i:Nat):Int),false,(qOf ((rndB (d (withL s out) p).1 false bits))),(d (withL s out) p).2.1⟩]) rfl (by decide)) (by decide) (.inr ⟨rfl,rfl⟩)) ?_
        refine dz 1 rfl (kq_ rfl (jsb ((best (out ++ [(⟨(i:Int),false,qOf (rndB (d (withL s out) p).1 false bits),(d (withL s out) p).2.1⟩:Lm)]) ((i:Nat):Int)).2 - 1) rfl) (kq_ rfl (jix ((best (out ++ [(⟨(i:Int),false,qOf (rndB (d (withL s out) p).1 false bits),(d (withL s out) p).2.1⟩:Lm)]) ((i:Nat):Int)).2 - 1) hy rfl) (kq_ rfl (jft rfl) (kq_ rfl (jlr rfl) ?_))))
        refine kc_ fn83 rfl (qcmp (qOf ((rndB (-(d (withL s (out ++ [(⟨(i:Int),false,qOf (rndB (d (withL s out) p).1 false bits),(d (withL s out) p).2.1⟩:Lm)])) (negF p)).1) true bits))) ((rndB (-(d (withL s (out ++ [(⟨(i:Int),false,qOf (rndB (d (withL s out) p).1 false bits),(d (withL s out) p).2.1⟩:Lm)])) (negF p)).1) true bits)) (qOf_q _) (Br.use (by omega)) y.v (y.v.q) rfl (Fq.use (x:=y.v) (by omega))) ?_
        refine dz 1 rfl ?_
        by_cases hc2:rndB (-(d (withL s (out ++ [(⟨(i:Int),false,qOf (rndB (d (withL s out) p).1 false bits),(d (withL s out) p).2.1⟩:Lm)])) (negF p)).1) true bits < lv (out ++ [(⟨(i:Int),false,qOf (rndB (d (withL s out) p).1 false bits),(d (withL s out) p).2.1⟩:Lm)]) (best (out ++ [(⟨(i:Int),false,qOf (rndB (d (withL s out) p).1 false bits),(d (withL s out) p).2.1⟩:Lm)]) ((i:Nat):Int)).2
        ·refine kq_ rfl (eqT rfl (by rw [cmpq_lt1,← hly];exact hc2)) (dz 1 rfl ?_)
         refine kis_ (strong (out ++ [(⟨(i:Int),false,qOf (rndB (d (withL s out) p).1 false bits),(d (withL s out) p).2.1⟩:Lm)]) i true (rndB (-(d (withL s (out ++ [(⟨(i:Int),false,qOf (rndB (d (withL s out) p).1 false bits),(d (withL s out) p).2.1⟩:Lm)])) (negF p)).1) true bits)) rfl (by exact (strong_ut (.inr hc2)).symm) (DK_nil ?_)
         exact mx_ rfl
        ·refine kq_ rfl (eqF rfl (fun e=>hc2 (by rw [hly];exact cmpq_lt1.1 e))) (dz 1 rfl ?_)
         refine kis_ (strong (out ++ [(⟨(i:Int),false,qOf (rndB (d (withL s out) p).1 false bits),(d (withL s out) p).2.1⟩:Lm)]) i true (rndB (-(d (withL s (out ++ [(⟨(i:Int),false,qOf (rndB (d (withL s out) p).1 false bits),(d (withL s out) p).2.1⟩:Lm)])) (negF p)).1) true bits)) rfl (by exact (strong_uf hk2 hc2).symm) (DK_nil ?_)
         exact mx_ rfl
      ·refine Tc_cond rfl (fun hs2=>?_) (fun hs2=>?_)
       ·refine zc 8 rfl (te_ rfl (Je_buildSlice rfl un40 ty133 tz133 rfl (by decide) (by decide) rfl (by decide) rfl) ?_)
        refine te_ rfl (jap (e:=lmE) (⟨((i:Nat):Int),true,(qOf ((rndB (-(d (withL s (out ++ [(⟨(i:Int),false,qOf (rndB (d (withL s out) p).1 false bits),(d (withL s out) p).2.1⟩:Lm)])) (negF p)).1) true bits))),(d (withL s (out ++ [(⟨(i:Int),false,qOf (rndB (d (withL s out) p).1 false bits),(d (withL s out) p).2.1⟩:Lm)])) (negF p)).2.1⟩) rfl rfl) (zl 3 rfl ?_)
        refine At_retI0 [(3,some (D.ptr 0 0)),(4,some (D.ptr 1 0)),(5,some (D.ptr 2 0)),(6,some (D.ptr 3 0)),(39,some (D.v (V.one (El.row afE s.q.g.us)))),(40,some (D.val (.int .i64 ((s.q.g.us.length:Nat):Int)))),(41,some (D.val (.int .i64 ((i:Nat):Int))))] d16 s16 rfl rfl ⟨rfl,rfl,rfl,rfl,rfl,rfl,rfl,trivial⟩ (zl 4 rfl (tq_ rfl (jad (i + 1) rfl) (zl 2 rfl ?_)))
        refine At_free 5 (At_free 6 (At_free 10 (trim_ 5 rfl ?_)))
        exact nx_ ⟨i + 1,_,_,rfl,rfl,rfl,hi,by rw [runN_get hp,← hout,hA,sideN_t (by exact hb2) (by exact hs2)];rfl⟩ rfl
       ·refine zc 1 rfl (At_retI0 [(3,some (D.ptr 0 0)),(4,some (D.ptr 1 0)),(5,some (D.ptr 2 0)),(6,some (D.ptr 3 0)),(39,some (D.v (V.one (El.row afE s.q.g.us)))),(40,some (D.val (.int .i64 ((s.q.g.us.length:Nat):Int)))),(41,some (D.val (.int .i64 ((i:Nat):Int))))] d16 s16 rfl rfl ⟨rfl,rfl,rfl,rfl,rfl,rfl,rfl,trivial⟩ (zl 4 rfl (tq_ rfl (jad (i + 1) rfl) ?_)))
        refine zl 2 rfl (At_free 5 (At_free 6 (At_free 10 (trim_ 5 rfl ?_))))
        exact nx_ ⟨i + 1,_,_,rfl,rfl,rfl,hi,by rw [runN_get hp,← hout,hA,sideN_f2 (by exact hs2)];simp only [List.append_nil]⟩ rfl
    ·refine zc 1 rfl ?_
     refine At_retI0 [(3,some (D.ptr 0 0)),(4,some (D.ptr 1 0)),(5,some (D.ptr 2 0)),(6,some (D.ptr 3 0)),(10,some (D.val (.func (.func 78) #[] #[.pointer (some ⟨q7,0,none⟩),.pointer (some ⟨q1,0,none⟩),.pointer (some ⟨q2,0,none⟩),.pointer (some ⟨q6,0,none⟩),.pointer (some ⟨q3,0,none⟩)]))),(39,some (D.v (V.one (El.row afE s.q.g.us)))),(40,some (D.val (.int .i64 ((s.q.g.us.length:Nat):Int)))),(41,some (D.val (.int .i64 ((i:Nat):Int))))] d8 s8 rfl rfl ⟨rfl,rfl,rfl,rfl,rfl,rfl,rfl,rfl,trivial⟩ ?_
     refine zl 2 rfl ?_
     have hA:runA d s bits out i p = out:=by unfold runA;rw [sideN_f2 (by exact hs1),List.append_nil]
     have hso1:SOk (withL s out):=by rw [← hA];exact LOk.withL hs hrA.1 (by have:=hrA.2;have hl2:out.length≤s.lems.length + 2 * i:=hln;omega)
     refine zc 2 rfl ?_
     refine Tl_inlineF (dc:=[D.ptr 6 0,D.ptr 0 0,D.ptr 1 0,D.ptr 5 0,D.ptr 2 0]) rfl rfl rfl ⟨.inr ⟨_,_,_,rfl,rfl,rfl,rfl,rfl⟩,.inr ⟨_,_,_,rfl,rfl,rfl,rfl,rfl⟩,.inr ⟨_,_,_,rfl,rfl,rfl,rfl,rfl⟩,.inr ⟨_,_,_,rfl,rfl,rfl,rfl,rfl⟩,.inr ⟨_,_,_,rfl,rfl,rfl,rfl,rfl⟩,trivial⟩ Tryz.func78 rfl rfl Tryz.ntmps78 (Nat.le_of_ble_eq_true rfl) rfl (fun a20 d20 s20=>?_)
     refine qc_ (zc 14 rfl (dr_ 0 [(3,9)] [9] (dz 1 rfl (kc_ fn80 rfl (qof_spec (-1) (by decide) (by decide)) (kc_ fn79 rfl (scale_p p ((-1:Int):Rat) hpl_ (by omega) (by omega) (by omega)) (dz 1 rfl (DK_nil (za 4 rfl (tq_ rfl (jvl 11 rfl rfl) ?_)))))))))
     refine zl 1 rfl (te_ rfl (Je_invoke rfl rfl hm hfL rfl (hL (withL s out) (negF p) hso1 hnf2) hone) (zl 17 rfl ?_))
     refine Tc_cond rfl (fun hb2n=>?_) (fun hb2n=>?_)
     ·refine Tc_retI0 [(3,some (D.ptr 0 0)),(4,some (D.ptr 1 0)),(5,some (D.ptr 2 0)),(6,some (D.ptr 3 0)),(39,some (D.v (V.one (El.row afE s.q.g.us)))),(40,some (D.val (.int .i64 ((s.q.g.us.length:Nat):Int)))),(41,some (D.val (.int .i64 ((i:Nat):Int))))] (fun _ _ h=>h) d20 s20 rfl rfl ⟨rfl,rfl,rfl,rfl,rfl,rfl,rfl,trivial⟩ (zl 4 rfl (tq_ rfl (jad (i + 1) rfl) ?_))
      refine zl 2 rfl (At_free 5 (At_free 6 (At_free 8 (At_free 9 (At_free 10 (trim_ 5 rfl ?_))))))
      exact nx_ ⟨i + 1,_,_,rfl,rfl,rfl,hi,by rw [runN_get hp,← hout,hA,sideN_f1 (by have h:(d (withL s out) (negF p)).2.2 = false:=(by simpa using hb2n);exact h)];simp only [List.append_nil]⟩ rfl
     ·refine zc 3 rfl ?_
      have hb2:(d (withL s out) (negF p)).2.2 = true:=by simpa using hb2n
      haveI h1hb2:Hb (d (withL s out) (negF p)).1 (KB i - 4200):=hdm (withL s out) hso1 i (negF p) (by exact hi) (by exact hnf) (by exact hb2)
      have h2hb2:Hb (-(d (withL s out) (negF p)).1) (KB i - 4200):=Hb.neg
      haveI h3hb2:Br (d (withL s out) (negF p)).1 40002:=h1hb2.limb (by omega)
      haveI:Br (rndB (-(d (withL s out) (negF p)).1) true bits) 44101:=((rndB_hb (up:=true) (bits:=bits) h2hb2 (by omega)).mono (show _≤44100 by omega)).br
      have hso_B_2:∀ m∈out,Fq m.v 40001:=hso1.B
      have hso_L_2:(out).length≤100:=hso1.ll
      refine zc 1 rfl (tq_ rfl (jvl 11 rfl rfl) (zl 1 rfl (tc_ fn81 rfl (best_p (withL s out) hso_B_2 (by omega) (by show (out).length≤_;omega) ((i:Nat):Int)) (zl 8 rfl ?_))))
      refine nf_ [8,9] [so 0 (D.bool true),so 3 _,so 4 _,so 5 _,so 8 (D.ptr 10 0),so 9 (D.v (V.one (El.row muE ((d (withL s out) (negF p)).2.1)))),so 11 _,so 12 _,so 2003 _,so 2004 _,so 2005 _,so 2006 _,so 2039 _,so 2040 _,so 2041 _] [_,_,_,_,_,_,_,none,none,none,hb_ 27 (qL ((d (withL s out) (negF p)).1))] rfl rfl rfl (zc 15 rfl ?_)
      refine tc_ fn47 rfl (qneg (qOf ((d (withL s out) (negF p)).1)) ((d (withL s out) (negF p)).1) (qOf_q _) (Br.use (by omega))) (zl 7 rfl ?_)
      refine nz_ [so 0 _,so 3 _,so 4 _,so 5 _,so 8 _,so 9 _,so 13 (D.val (.int .i64 (((best out ((i:Nat):Int)).2:Nat):Int))),so 14 (D.val (.int .i64 (-1))),so 2003 _,so 2004 _,so 2005 _,so 2006 _,so 2039 _,so 2040 _,so 2041 _] [_,_,_,_,_,_,_,none,none,none,hb_ 27 (qL (-((d (withL s out) (negF p)).1)))] rfl rfl (zc 4 rfl ?_)
      refine tc_ fn82 rfl (round_p (-(d (withL s out) (negF p)).1) true bits h2hb2 (by omega) h0 h4) (zl 3 rfl ?_)
      refine mt_ [so 0 (D.bool true),so 3 (D.ptr 1 0),so 4 (D.ptr 5 0),so 8 (D.ptr 10 0),so 9 (D.v (V.one (El.row muE ((d (withL s out) (negF p)).2.1)))),so 59 (D.bool (strong out i true (rndB (-(d (withL s out) (negF p)).1) true bits))),so 2003 (D.ptr 0 0),so 2004 (D.ptr 1 0),so 2005 (D.ptr 2 0),so 2006 (D.ptr 3 0),so 2039 (D.v (V.one (El.row afE s.q.g.us))),so 2040 (D.val (.int .i64 ((s.q.g.us.length:Nat):Int))),so 2041 (D.val (.int .i64 ((i:Nat):Int)))] [hbq 129 [Leaf.val (ifV tD cs)] q1,hbq 42 (quL s.q ++ [El.row dcE s.path,Leaf.own 4 n]) q2,hbq 3 [Leaf.val (.int .i64 bits)] q3,hb_ 42 scZ,hgr 133 6 lmE out n,hbq 3 [Leaf.val (.int .i64 ((i:Nat):Int))] q6,hbq 29 (afL p) q7,none,none,none,hb_ 27 (qL (rndB (-(d (withL s out) (negF p)).1) true bits))] ?_ ?_
      ·refine dr_ 0 [] [] (dz 1 rfl ?_)
       by_cases hk2:(best out ((i:Nat):Int)).2 = 0
       ·refine kq_ rfl (eqT rfl) (dz 13 rfl (kis_ (strong out i true (rndB (-(d (withL s out) (negF p)).1) true bits)) rfl (by exact (strong_ut (.inl hk2)).symm) (DK_nil ?_)))
        exact mx_ rfl
       ·refine kq_ rfl (eqF rfl) (dz 3 rfl ?_)
        obtain ⟨y,hy,_,_,hly,hy0,hyl⟩:=best_hi hk2
        haveI hyB:=hso_B_2 y (List.mem_of_getElem? hy)
        refine kq_ rfl (Jq_view (r:=4) (n:=n) (x:=V.one (Leaf.own 4 n)) (x':=V.one (El.row lmE out)) (Jq_load rfl rfl rfl (by decide) ty40 rfl) (RowAt.ofE lmE out rfl (by decide)) (by decide) (.inr ⟨rfl,rfl⟩)) (dz 1 rfl (kq_ rfl (jsb ((best out ((i:Nat):Int)).2 - 1) rfl) (kq_ rfl (jix ((best out ((i:Nat):Int)).2 - 1) hy rfl) (kq_ rfl (jft rfl) (kq_ rfl (jlr rfl) ?_)))))
        refine kc_ fn83 rfl (qcmp (qOf ((rndB (-(d (withL s out) (negF p)).1) true bits))) ((rndB (-(d (withL s out) (negF p)).1) true bits)) (qOf_q _) (Br.use (by omega)) y.v (y.v.q) rfl (Fq.use (x:=y.v) (by omega))) (dz 1 rfl ?_)
        by_cases hc2:rndB (-(d (withL s out) (negF p)).1) true bits < lv out (best out ((i:Nat):Int)).2
        ·refine kq_ rfl (eqT rfl (by rw [cmpq_lt1,← hly];exact hc2)) (dz 1 rfl (kis_ (strong out i true (rndB (-(d (withL s out) (negF p)).1) true bits)) rfl (by exact (strong_ut (.inr hc2)).symm) (DK_nil ?_)))
         exact mx_ rfl
        ·refine kq_ rfl (eqF rfl (fun e=>hc2 (by rw [hly];exact cmpq_lt1.1 e))) (dz 1 rfl (kis_ (strong out i true (rndB (-(d (withL s out) (negF p)).1) true bits)) rfl (by exact (strong_uf hk2 hc2).symm) (DK_nil ?_)))
         exact mx_ rfl
      ·refine Tc_cond rfl (fun hs2=>?_) (fun hs2=>?_)
       ·refine zc 8 rfl (te_ rfl (Je_buildSlice rfl un40 ty133 tz133 rfl (by decide) (by decide) rfl (by decide) rfl) (te_ rfl (jap (e:=lmE) (⟨((i:Nat):Int),true,(qOf ((rndB (-(d (withL s out) (negF p)).1) true bits))),(d (withL s out) (negF p)).2.1⟩) rfl rfl) (zl 3 rfl ?_)))
        refine At_retI0 [(3,some (D.ptr 0 0)),(4,some (D.ptr 1 0)),(5,some (D.ptr 2 0)),(6,some (D.ptr 3 0)),(39,some (D.v (V.one (El.row afE s.q.g.us)))),(40,some (D.val (.int .i64 ((s.q.g.us.length:Nat):Int)))),(41,some (D.val (.int .i64 ((i:Nat):Int))))] d20 s20 rfl rfl ⟨rfl,rfl,rfl,rfl,rfl,rfl,rfl,trivial⟩ (zl 4 rfl (tq_ rfl (jad (i + 1) rfl) (zl 2 rfl ?_)))
        refine At_free 5 (At_free 6 (At_free 10 (trim_ 5 rfl ?_)))
        exact nx_ ⟨i + 1,_,_,rfl,rfl,rfl,hi,by rw [runN_get hp,← hout,hA,sideN_t (by exact hb2) (by exact hs2)];rfl⟩ rfl
       ·refine zc 1 rfl (At_retI0 [(3,some (D.ptr 0 0)),(4,some (D.ptr 1 0)),(5,some (D.ptr 2 0)),(6,some (D.ptr 3 0)),(39,some (D.v (V.one (El.row afE s.q.g.us)))),(40,some (D.val (.int .i64 ((s.q.g.us.length:Nat):Int)))),(41,some (D.val (.int .i64 ((i:Nat):Int))))] d20 s20 rfl rfl ⟨rfl,rfl,rfl,rfl,rfl,rfl,rfl,trivial⟩ (zl 4 rfl (tq_ rfl (jad (i + 1) rfl) ?_)))
        refine zl 2 rfl (At_free 5 (At_free 6 (At_free 10 (trim_ 5 rfl ?_))))
        exact nx_ ⟨i + 1,_,_,rfl,rfl,rfl,hi,by rw [runN_get hp,← hout,hA,sideN_f2 (by exact hs2)];simp only [List.append_nil]⟩ rfl
 ·refine tq_ rfl (ltF rfl) (zl 10 rfl ?_)
  have hie:i = s.q.g.us.length:=by omega
  rw [hie] at hout
  refine zc 1 rfl (tq_ rfl (jvl 11 rfl rfl) (zl 4 rfl ?_))
  exact r2_ hq_ rfl (by unfold runM;rw [← hout] <;> rfl)
end Go.Proofs.YtmpkandbccallaaGreatDoor
set_option linter.unusedSimpArgs false
set_option linter.unusedVariables false
namespace Rc
open Go Go.RowKit
def ind (r:Rw):Rw→Rat:=fun x=>if x = r then 1 else 0
theorem ind_self (r:Rw):ind r r = 1:=if_pos rfl
theorem ind_ne {r x:Rw} (h:x≠r):ind r x = 0:=if_neg h
theorem lessR_ne {a b:Rw} (h:lessR a b = true):b≠a:=fun e=>by rw [e,lessR_irrefl] at h;exact absurd h (by decide)
theorem W_zero {r:Rw}:∀ {l:List Mu},(∀ x∈l,x.r≠r)→W (ind r) l = 0
 | [],_=>rfl
 | m :: l,h=>by
  have h1:=ind_ne (h m (by simp))
  have h2:=W_zero (l:=l) (fun x hx=>h x (by simp [hx]))
  simp only [W,h1,h2];grind
theorem Mu.ext' {a b:Mu} (h1:a.r = b.r) (h2:a.c = b.c):a = b:=by cases a;cases b;simp at *;exact ⟨h1,h2⟩
theorem canM_ext:∀ {a b:List Mu},CanM a→CanM b→(∀ r,W (ind r) a = W (ind r) b)→a = b
 | [],[],_,_,_=>rfl
 | [],y :: b,_,hb,h=>by
  have h1:=h y.r
  have h2:=W_zero (r:=y.r) (l:=b) (fun x hx=>lessR_ne (hb.2.1 x hx))
  have h3:=hb.1.2
  simp only [W,ind_self,h2] at h1
  exfalso;grind
 | x :: a,[],ha,_,h=>by
  have h1:=h x.r
  have h2:=W_zero (r:=x.r) (l:=a) (fun y hy=>lessR_ne (ha.2.1 y hy))
  have h3:=ha.1.2
  simp only [W,ind_self,h2] at h1
  exfalso;grind
 | x :: a,y :: b,ha,hb,h=>by
  have hxa:=W_zero (r:=x.r) (l:=a) (fun z hz=>lessR_ne (ha.2.1 z hz))
  have hyb:=W_zero (r:=y.r) (l:=b) (fun z hz=>lessR_ne (hb.2.1 z hz))
  have px:=ha.1.2
  have py:=hb.1.2
  by_cases he:x.r = y.r
  ·have h1:=h x.r
   rw [he] at hxa
   rw [he] at h1
   simp only [W,he,ind_self,hxa,hyb] at h1
   have hc:x.c.q = y.c.q:=by grind
   have hxy:x = y:=Mu.ext' he (by rw [ha.1.1,hb.1.1,hc])
   subst hxy
   rw [canM_ext ha.2.2 hb.2.2 (fun r=>by have:=h r;simp only [W] at this;grind)]
  ·cases hl:lessR x.r y.r
   ·have hyx:=lessR_total hl he
    have h1:=h y.r
    have h2:=W_zero (r:=y.r) (l:=a) (fun z hz=>lessR_ne (lessR_trans hyx (ha.2.1 z hz)))
    simp only [W,ind_self,ind_ne he,h2,hyb] at h1
    exfalso;grind
   ·have h1:=h x.r
    have h2:=W_zero (r:=x.r) (l:=b) (fun z hz=>lessR_ne (lessR_trans hl (hb.2.1 z hz)))
    simp only [W,ind_self,ind_ne (fun e=>he e.symm),h2,hxa] at h1
    exfalso;grind
def collM (l:List Mu):List Mu:=l.foldl (fun a m=>plusM a m.r m.c.q) []
def CofOk (l:List Mu):Prop:=∀ m∈l,m.c = qOf m.c.q∧0≤m.c.q
theorem coll_foldW (φ:Rw→Rat):∀ (l a:List Mu),W φ (l.foldl (fun a m=>plusM a m.r m.c.q) a) = W φ a + W φ l
 | [],a=>by simp only [List.foldl_nil,W];grind
 | m :: l,a=>by rw [List.foldl_cons,coll_foldW φ l,W_plus];simp only [W];grind
theorem coll_W (φ:Rw→Rat) (l:List Mu):W φ (collM l) = W φ l:=by unfold collM;rw [coll_foldW];simp only [W];grind
theorem coll_foldC:∀ {l a:List Mu},CanM a→CofOk l→CanM (l.foldl (fun a m=>plusM a m.r m.c.q) a)
 | [],a,h,_=>h
 | m :: l,a,h,hl=>coll_foldC (l:=l) (plusM_can (hl m (by simp)).2 h) (fun x hx=>hl x (by simp [hx]))
theorem coll_can {l:List Mu} (h:CofOk l):CanM (collM l):=coll_foldC (a:=[]) trivial h
theorem coll_app (a b:List Mu):collM (a ++ b) = b.foldl (fun a m=>plusM a m.r m.c.q) (collM a):=by unfold collM;rw [List.foldl_append]
def sclM (c:Rat) (b:List Mu):List Mu:=b.map fun m=>⟨m.r,qOf (c * m.c.q)⟩
theorem fold_scl (c:Rat):∀ (b a:List Mu),(sclM c b).foldl (fun a m=>plusM a m.r m.c.q) a = mergeM a b c
 | [],a=>rfl
 | m :: b,a=>by
  show (sclM c b).foldl _ (plusM a m.r (qOf (c * m.c.q)).q) = mergeM (plusM a m.r (m.c.q * c)) b c
  rw [qOf_q,Rat.mul_comm c,fold_scl c b]
theorem coll_scl (a b:List Mu) (c:Rat):collM (a ++ sclM c b) = mergeM (collM a) b c:=by rw [coll_app,fold_scl]
def Srt (l:List Mu):Prop:=l.Pairwise fun a b=>lessR b.r a.r = false
def insA (A:List Mu) (x:Mu) (j:Nat):List Mu:=A.take j ++ x :: A.drop j
theorem insA_len {A:List Mu} {x:Mu} {j:Nat}:(insA A x j).length = A.length + 1:=by
 unfold insA;simp only [List.length_append,List.length_take,List.length_cons,List.length_drop];omega
theorem insA_end {A:List Mu} {x:Mu}:insA A x A.length = A ++ [x]:=by unfold insA;rw [List.take_length,List.drop_length]
theorem insA_get {A:List Mu} {x:Mu} {j:Nat} (hj:j≤A.length) (R:List Mu):(insA A x j ++ R)[j]? = some x:=by
 unfold insA
 rw [List.append_assoc,List.getElem?_append_right (by rw [List.length_take];omega),List.length_take,Nat.min_eq_left hj,Nat.sub_self];rfl
theorem insA_get1 {A:List Mu} {x y:Mu} {j:Nat} (h0:0 < j) (hj:j≤A.length) (hy:A[j - 1]? = some y) (R:List Mu):(insA A x j ++ R)[j - 1]? = some y:=by
 unfold insA
 rw [List.append_assoc,List.getElem?_append_left (by rw [List.length_take];omega),List.getElem?_take,if_pos (by omega),hy]
theorem insA_step {A:List Mu} {x y:Mu} {j:Nat} (h0:0 < j) (hj:j≤A.length) (hy:A[j - 1]? = some y) (R:List Mu):((insA A x j ++ R).set j y).set (j - 1) x = insA A x (j - 1) ++ R:=by
 obtain ⟨k,rfl⟩:∃ k,j = k + 1:=⟨j - 1,by omega⟩
 simp only [Nat.add_sub_cancel] at hy ⊢
 have hk:=(List.getElem?_eq_some_iff.1 hy).1
 unfold insA
 have e1:A.take (k + 1) = A.take k ++ [y]:=take_snoc hy
 have e2:A.drop k = y :: A.drop (k + 1):=drop_get hy
 have hl:(A.take k).length = k:=by rw [List.length_take];omega
 rw [e1,e2]
 generalize A.take k = T at *
 generalize A.drop (k + 1) = D at *
 subst hl
 simp [List.set_append]
theorem W_append (φ:Rw→Rat):∀ (a b:List Mu),W φ (a ++ b) = W φ a + W φ b
 | [],b=>by simp only [List.nil_append,W];grind
 | m :: a,b=>by simp only [List.cons_append,W,W_append φ a b];grind
theorem insA_W (φ:Rw→Rat) {A:List Mu} {x:Mu} {j:Nat}:W φ (insA A x j) = W φ A + x.c.q * φ x.r:=by
 have h:W φ A = W φ (A.take j ++ A.drop j):=by rw [List.take_append_drop]
 unfold insA
 rw [h,W_append,W_append]
 simp only [W];grind
theorem insA_mem {A:List Mu} {x m:Mu} {j:Nat}:m∈insA A x j↔m = x ∨ m∈A:=by
 have h:m∈A↔m∈A.take j ++ A.drop j:=by rw [List.take_append_drop]
 unfold insA
 rw [h];simp only [List.mem_append,List.mem_cons]
 constructor
 ·rintro (h | h | h) <;> simp [h]
 ·rintro (h | h | h) <;> simp [h]
def Gt (A:List Mu) (x:Mu) (j:Nat):Prop:=∀ m∈A.drop j,lessR x.r m.r = true
theorem Gt.start {A:List Mu} {x:Mu}:Gt A x A.length:=fun m hm=>by rw [List.drop_length] at hm;simp at hm
theorem Gt.step {A:List Mu} {x y:Mu} {j:Nat} (h:Gt A x j) (h0:0 < j) (hy:A[j - 1]? = some y) (hl:lessR x.r y.r = true):Gt A x (j - 1):=by
 intro m hm
 obtain ⟨k,rfl⟩:∃ k,j = k + 1:=⟨j - 1,by omega⟩
 simp only [Nat.add_sub_cancel] at hy hm
 rw [drop_get hy] at hm
 rcases List.mem_cons.1 hm with rfl | hm
 ·exact hl
 ·exact h m hm
theorem lessR_asym {a b:Rw} (h:lessR a b = true):lessR b a = false:=by
 cases h':lessR b a
 ·rfl
 ·have:=lessR_trans h h';rw [lessR_irrefl] at this;exact absurd this (by decide)
theorem lessR_neg_trans {a b c:Rw} (h1:lessR b a = false) (h2:lessR c b = false):lessR c a = false:=by
 cases h:lessR c a
 ·rfl
 ·by_cases e:a = b
  ·subst e;rw [h] at h2;exact absurd h2 (by decide)
  ·have:=lessR_trans h (lessR_total h1 (fun e'=>e e'.symm));rw [this] at h2;exact absurd h2 (by decide)
theorem Srt.ins {A:List Mu} {x:Mu} {j:Nat} (hA:Srt A) (hj:j≤A.length) (hg:Gt A x j) (hl:j = 0 ∨ ∃ y,A[j - 1]? = some y∧lessR x.r y.r = false):Srt (insA A x j):=by
 have h:Srt (A.take j ++ A.drop j):=by rw [List.take_append_drop];exact hA
 unfold Srt at h
 rw [List.pairwise_append] at h
 obtain ⟨h1,h2,h3⟩:=h
 unfold Srt insA
 rw [List.pairwise_append]
 refine ⟨h1,List.pairwise_cons.2 ⟨fun m hm=>lessR_asym (hg m hm),h2⟩,fun a ha b hb=>?_⟩
 rcases List.mem_cons.1 hb with rfl | hb
 ·rcases hl with rfl | ⟨y,hy,hxy⟩
  ·simp at ha
  ·obtain ⟨k,rfl⟩:∃ k,j = k + 1:=⟨j - 1,by
    rcases Nat.eq_zero_or_pos j with e | e
    ·subst e;simp at ha
    ·omega⟩
   simp only [Nat.add_sub_cancel] at hy
   rw [take_snoc hy] at ha h1
   rcases List.mem_append.1 ha with ha | ha
   ·have:=(List.pairwise_append.1 h1).2.2 a ha y (by simp)
    exact lessR_neg_trans this hxy
   ·simp at ha;subst ha;exact hxy
 ·exact h3 a ha b hb
structure InsOk (l u:List Mu) (i:Nat):Prop where
 len:u.length = l.length
 w:∀ φ,W φ u = W φ l
 mem:∀ m∈u,m∈l
 srt:Srt (u.take i)
theorem InsOk.start (l:List Mu):InsOk l l 1:=⟨rfl,fun _=>rfl,fun _ h=>h,by
 cases l with
 | nil=>exact List.Pairwise.nil
 | cons m l=>exact List.pairwise_singleton _ _⟩
theorem ins_split {u:List Mu} {i:Nat} {x:Mu} (hx:u[i]? = some x):u = insA (u.take i) x i ++ u.drop (i + 1):=by
 have hi:=(List.getElem?_eq_some_iff.1 hx).1
 have hl:(u.take i).length = i:=by rw [List.length_take];omega
 conv=>lhs;rw [← List.take_append_drop i u,drop_get hx]
 have:insA (u.take i) x i = u.take i ++ [x]:=by
  have:=insA_end (A:=u.take i) (x:=x);rwa [hl] at this
 rw [this,List.append_assoc];rfl
theorem InsOk.next {l u:List Mu} {i j:Nat} {x:Mu} (h:InsOk l u i) (hx:u[i]? = some x) (hj:j≤i) (hg:Gt (u.take i) x j) (hl:j = 0 ∨ ∃ y,(u.take i)[j - 1]? = some y∧lessR x.r y.r = false) :
  InsOk l (insA (u.take i) x j ++ u.drop (i + 1)) (i + 1):=by
 have hi:=(List.getElem?_eq_some_iff.1 hx).1
 have htl:(u.take i).length = i:=by rw [List.length_take];omega
 have hu:=ins_split hx
 refine ⟨?_,fun φ=>?_,fun m hm=>?_,?_⟩
 ·rw [List.length_append,insA_len,htl,List.length_drop,← h.len];omega
 ·have:=h.w φ
  rw [hu] at this
  rw [W_append,insA_W] at this ⊢;exact this
 ·refine h.mem m ?_
  rw [hu]
  rcases List.mem_append.1 hm with hm | hm
  ·exact List.mem_append_left _ (insA_mem.2 (insA_mem.1 hm))
  ·exact List.mem_append_right _ hm
 ·rw [List.take_append_of_le_length (by rw [insA_len,htl];exact Nat.le_refl _),List.take_of_length_le (by rw [insA_len,htl];exact Nat.le_refl _)]
  exact h.srt.ins (by omega) hg hl
structure GrpOk (u out:List Mu) (i:Nat):Prop where
 can:CanM out
 w:∀ r,W (ind r) out = W (ind r) (u.take i)
 lt:∀ x∈out,∀ (j:Nat) (m:Mu),i≤j→u[j]? = some m→lessR x.r m.r = true
 len:out.length≤i
theorem GrpOk.start (u:List Mu):GrpOk u [] 0:=⟨trivial,fun r=>by simp,fun x hx=>by simp at hx,Nat.le_refl _⟩
theorem srt_get {u:List Mu} (h:Srt u) {i j:Nat} {x y:Mu} (hij:i < j) (hx:u[i]? = some x) (hy:u[j]? = some y):lessR y.r x.r = false:=by
 obtain ⟨h1,rfl⟩:=List.getElem?_eq_some_iff.1 hx
 obtain ⟨h2,rfl⟩:=List.getElem?_eq_some_iff.1 hy
 exact List.pairwise_iff_getElem.1 h i j h1 h2 hij
structure InOk (u:List Mu) (r:Rw) (i0 i:Nat) (sum:Rat):Prop where
 le:i0≤i
 all:∀ (j:Nat) (m:Mu),i0≤j→j < i→u[j]? = some m→m.r = r
 w:∀ r',W (ind r') (u.take i) = W (ind r') (u.take i0) + (if r = r' then sum else 0)
 pos:0≤sum
theorem InOk.start (u:List Mu) (r:Rw) (i:Nat):InOk u r i i 0:=⟨Nat.le_refl _,fun j m h1 h2=>by omega,fun r'=>by split <;> grind,by grind⟩
theorem InOk.step {u:List Mu} {r:Rw} {i0 i:Nat} {sum:Rat} {x:Mu} (h:InOk u r i0 i sum) (hx:u[i]? = some x) (hr:x.r = r) (hp:0≤x.c.q):InOk u r i0 (i + 1) (sum + x.c.q):=by
 refine ⟨by have:=h.le;omega,fun j m h1 h2 hm=>?_,fun r'=>?_,by have:=h.pos;grind⟩
 ·by_cases e:j = i
  ·subst e;rw [hx] at hm;cases hm;exact hr
  ·exact h.all j m h1 (by omega) hm
 ·rw [take_snoc hx,W_app,h.w r',hr]
  unfold ind
  split <;> grind
theorem GrpOk.next {u out:List Mu} {i0 i:Nat} {sum:Rat} {r:Rw} {m0:Mu} (hu:Srt u) (h:GrpOk u out i0) (hi:InOk u r i0 i sum) (h0:u[i0]? = some m0) (hr0:m0.r = r) (hlt:i0 < i) (hstop:∀ m,u[i]? = some m→m.r≠r) :
  GrpOk u (if 0 < sum then out ++ [⟨r,qOf sum⟩] else out) i:=by
 have key:∀ (j:Nat) (m:Mu),i≤j→u[j]? = some m→lessR r m.r = true:=by
  intro j m hj hm
  have hji:=(List.getElem?_eq_some_iff.1 hm).1
  obtain ⟨y,hy⟩:∃ y,u[i]? = some y:=⟨_,List.getElem?_eq_getElem (by omega)⟩
  have h1:=srt_get hu (i:=i0) (j:=i) (by omega) h0 hy
  rw [hr0] at h1
  have h2:=lessR_total h1 (hstop y hy)
  by_cases e:j = i
  ·subst e;rw [hy] at hm;cases hm;exact h2
  ·have h3:=srt_get hu (i:=i) (j:=j) (by omega) hy hm
   by_cases e2:m.r = y.r
   ·rw [e2];exact h2
   ·exact lessR_trans h2 (lessR_total h3 e2)
 have hlow:∀ x∈out,lessR x.r r = true:=fun x hx=>hr0 ▸ h.lt x hx i0 m0 (Nat.le_refl _) h0
 have hpos:=hi.pos
 split
 ·rename_i hp
  refine ⟨?_,fun r'=>?_,fun x hx j m hj hm=>?_,?_⟩
  ·have:∀ {a:List Mu},CanM a→(∀ x∈a,lessR x.r r = true)→CanM (a ++ [⟨r,qOf sum⟩]):=by
    intro a
    induction a with
    | nil=>intro _ _;exact ⟨⟨by rw [qOf_q],by rw [qOf_q];exact hp⟩,fun x hx=>by simp at hx,trivial⟩
    | cons y a ih=>
     intro hc hx
     refine ⟨hc.1,fun z hz=>?_,ih hc.2.2 (fun z hz=>hx z (by simp [hz]))⟩
     rcases List.mem_append.1 hz with hz | hz
     ·exact hc.2.1 z hz
     ·simp at hz;subst hz;exact hx y (by simp)
   exact this h.can hlow
  ·rw [W_app,h.w r',hi.w r']
   unfold ind
   simp only [qOf_q]
   split <;> grind
  ·rcases List.mem_append.1 hx with hx | hx
   ·exact h.lt x hx j m (by omega) hm
   ·simp at hx;subst hx;exact key j m hj hm
  ·have:=h.len;simp;omega
 ·rename_i hp
  have hz:sum = 0:=by grind
  refine ⟨h.can,fun r'=>?_,fun x hx j m hj hm=>h.lt x hx j m (by omega) hm,by have:=h.len;omega⟩
  rw [h.w r',hi.w r',hz];split <;> grind
theorem grp_end {l u out:List Mu} {n:Nat} (hc:CofOk l) (h1:InsOk l u n) (h2:GrpOk u out u.length):out = collM l:=
 canM_ext h2.can (coll_can hc) (fun r=>by rw [h2.w r,List.take_length,h1.w,coll_W])
def cmpI (a b:Int):Int:=if a < b then -1 else if b < a then 1 else 0
def cmpR (a b:Rw):Int:=if cmpI a.kind b.kind≠0 then cmpI a.kind b.kind else if cmpI a.idx b.idx≠0 then cmpI a.idx b.idx else if cmpI a.lo b.lo≠0 then cmpI a.lo b.lo else if cmpI a.hi b.hi≠0 then cmpI a.hi b.hi else 0
def frs0:List Int→Int
 | []=>0
 | x :: l=>if x≠0 then x else frs0 l
theorem ratZ:D.agg [Leaf.val (.bool false),nilL,nilL] = D.agg (qL 0):=by
 unfold qL;rw [cneg_nonneg Rat.le_refl,cnum_zero,cden_zero,limbs_zero];rfl
def i64E:El Int:=⟨fun z=>[Leaf.val (.int .i64 z)],1,fun _=>rfl,fun _=>rfl⟩
theorem cmpR_lt {a b:Rw}:cmpR a b < 0↔lessR a b = true:=by
 rw [lessR_iff]
 unfold cmpR cmpI
 repeat' split
 all_goals omega
end Rc
set_option linter.unusedSimpArgs false
set_option linter.unusedVariables false
namespace Rc
open Go Go.RowKit
end Rc
set_option linter.unusedSimpArgs false
set_option linter.unusedVariables false
namespace Rc
open Go Go.RowKit
@[reducible] def hrw {α:Type} (t sz:Nat) (e:El α) (l:List α):Option HE:=some ⟨t,e.all l,some sz,none⟩
section
variable {α:Type} {P:Program} {ops:Array Oper} {X:List Nat} {o:Oper} {Γ:Gam} {H:Hp} {i t sz:Nat}
theorem El.len_sz {e:El α} {l:List α} {n sz:Nat} (hn:l.length = n) (hs:e.sz = sz):(e.all l).length = n * sz:=by rw [El.all_length,hn,hs]
theorem Jq_ixO {x y:Operand} {t' u n:Nat} {k:IntKind} {z:Int} {b:Bool} (e:El α) (l:List α) (j:Nat) (ho:o.op = .indexAddr t' x y) (hx:opD Γ x = some (D.own i n)) (hy:opD Γ y = some (D.val (.int k z))) (hi:H[i]? = some (hrw t sz e l)) (hXi:i ∉ X)
  (ht:P.underlying t' = some (.slice u)) (hu:TyIs P u b sz) (hj:j < n) (hn:l.length = n) (hs:e.sz = sz:=by rfl) (hsz:0 < sz:=by decide) (hz:z = (j:Int):=by first | rfl | omega):Jq P ops X o Γ H (D.ptr i (j * sz)):=by
 subst hz
 exact Jq_index_own ho hx hy hi hXi (El.len_sz hn hs) hsz ht hu (by omega) (by omega) rfl
theorem El.get_part {e:El α} {l:List α} {j:Nat} {v:α} (hv:l[j]? = some v) (fo n:Nat) (hf:fo + n≤e.sz):((e.all l).drop (j * e.sz + fo)).take n = ((e.f v).drop fo).take n:=by
 obtain ⟨h1,rfl⟩:=List.getElem?_eq_some_iff.1 hv
 have h:=El.all_get e h1
 rw [← h,List.drop_take,List.drop_drop,List.take_take,Nat.min_eq_left (by omega)]
theorem El.fit {e:El α} {l:List α} {j:Nat} {v:α} (hv:l[j]? = some v):j * e.sz + e.sz≤(e.all l).length:=by
 have h1:=(List.getElem?_eq_some_iff.1 hv).1
 rw [El.all_length]
 have:=Nat.mul_le_mul_right e.sz h1
 rw [Nat.succ_mul] at this;exact this
theorem Jq_ldO {x:Operand} {t' n fo:Nat} {v:α} {ls:List Leaf} (e:El α) (l:List α) (j:Nat) (ho:o.op = .load t' x) (hx:opD Γ x = some (D.ptr i (j * sz + fo))) (hi:H[i]? = some (hrw t sz e l)) (hXi:i ∉ X) (ht:TyIs P t' true n)
  (hv:l[j]? = some v) (hls:((e.f v).drop fo).take n = ls) (hs:e.sz = sz:=by rfl) (hf:fo + n≤sz:=by decide) (hn:0 < n:=by decide):Jq P ops X o Γ H (D.agg ls):=by
 subst hs
 refine Jq_load_agg ho hx hi hXi ht hn ?_ ?_
 ·have:=El.fit (e:=e) hv
  show j * e.sz + fo + n≤(e.all l).length
  omega
 ·rw [← hls];exact El.get_part hv fo n hf
theorem splice_all {e:El α} {l:List α} {j:Nat} (v:α) (hj:j < l.length):splice (e.all l) (j * e.sz) (e.f v) = e.all (l.set j v):=by
 unfold splice
 rw [El.all_take,e.len,← Nat.succ_mul,El.all_drop,List.set_eq_take_append_cons_drop,if_pos hj,El.all_append]
 simp only [El.all,List.append_assoc]
theorem Je_stO {x y:Operand} {t' n:Nat} (e:El α) (l:List α) (j:Nat) (v:α) {b:Bool} (ho:o.op = .store t' x y) (hx:opD Γ x = some (D.ptr i (j * sz))) (hy:opD Γ y = some (D.agg (e.f v))) (hi:H[i]? = some (hrw t sz e l)) (ht:TyIs P t' b sz)
  (hj:j < l.length) (hs:e.sz = sz:=by rfl) (hsz:0 < sz:=by decide):Je P ops o Γ H none (H.set i (hrw t sz e (l.set j v))):=by
 subst hs
 refine Je_store (v:=V.agg (e.f v)) ho hx hy hi ht (e.len v) hsz ?_ (splice_all v hj)
 have:=El.fit (e:=e) (List.getElem?_eq_getElem hj)
 show j * e.sz + e.sz≤(e.all l).length
 exact this
theorem Jd_stO {x y:Operand} {t' n:Nat} (e:El α) (l:List α) (j:Nat) (v:α) {b:Bool} (ho:o.op = .store t' x y) (hx:opD Γ x = some (D.ptr i (j * sz))) (hy:opD Γ y = some (D.agg (e.f v))) (hi:H[i]? = some (hrw t sz e l)) (ht:TyIs P t' b sz)
  (hj:j < l.length) (hs:e.sz = sz:=by rfl) (hsz:0 < sz:=by decide):∀ H2:Hp,H2[i]? = H[i]?→Je P ops o Γ H2 none (H2.set i (hrw t sz e (l.set j v))):=fun _ hH=>Je_stO (n:=n) e l j v ho hx hy (hH.trans hi) ht hj hs hsz
end
section
variable {P:Program} {ops:Array Oper} {X:List Nat} {o:Oper} {Γ:Gam} {H:Hp}
theorem Jq_nilCheckR {x:Operand} {ls:List Leaf} (ho:o.op = .nilCheck x) (hx:opD Γ x = some (D.rep (ptrRep ls))):Jq P ops X o Γ H (D.rep (ptrRep ls)):=by
 intro w0 A0 N Γ2 H2 E a w hs hX hG
 obtain ⟨h0,h1⟩:=op_at hs hG (x:=x) (by rw [ho];simp [Op.operands]) hx
 obtain ⟨ad,h2,h3⟩:=h1
 exact ⟨h0,.pointer (some ad),by simp [execOp,ho,h2],ad,rfl,h3⟩
theorem Je_buildFull {t elem len sz:Nat} {parts:Array (Nat × Operand)} {zs ls:List Leaf} {lp:List (Nat × List Leaf)} {b:Bool} (ho:o.op = .buildSlice t len parts) (ht:P.underlying t = some (.slice elem)) (hsz:TyIs P elem b sz)
  (hz:TyZero P elem zs) (hzl:zs.length = sz) (hsz0:0 < sz) (hlen:0 < len) (hp:partsD Γ parts.toList = some lp) (hbig:len * sz≤16777216)
  (hf:fillL (fun i=>some (i * sz,sz)) (zcells (len * sz) zs) lp = some ls) (hcl:clL ls = true:=by rfl):Je P ops o Γ H (some (D.rep (sliceFull len ls))) H:=by
 intro w0 A0 N Γ2 a w Q K hs hN hSt hK
 obtain ⟨E,hG⟩:=hSt
 obtain ⟨z,hzr,hzd⟩:=hz.run w E.A
 obtain ⟨h1,h2⟩:=partsD_spec parts.toList lp (build_den (.inr ⟨len,ho⟩) hs hG) hp
 obtain ⟨cs,hc1,hc2⟩:=fill_den (A:=E.A) (w:=w) (places:=fun i=>some (i * sz,sz)) (parts.toList.map fun p=>(p.1,a.eval p.2)) lp ((Array.range (len * sz)).map (z.cells[· % z.cells.size]!)) _ ls
  (zcells_den hzd (by omega) (len * sz)) h1 h2 hf
 have hb:=below_alloc w (.cells cs elem)
 have hG':=hG.grow hb
 have hlm:len≤16777216:=Nat.le_trans (Nat.le_mul_of_pos_right len hsz0) hbig
 refine wp_valueW (v:=.slice (some ⟨w.heap.size,0,none⟩) len len) (w':=w.alloc (.cells cs elem)) ?_ (hK _ _ ⟨_,hG'.put (fun d hd=>?_) hN⟩)
 ·have n1:¬ 16777216 < len * sz:=by omega
  have n2:len * sz≠0:=Nat.ne_of_gt (Nat.mul_pos hlen hsz0)
  have hps:(parts.map fun (p:Nat × Operand)=>(p.1,a.eval p.2)).toList = parts.toList.map fun p=>(p.1,a.eval p.2):=by simp
  simp only [execOp,ho,Instr.buildSlice]
  simp only [hps]
  simp [run_underlying ht,hsz.sizeOf,n1,hzr,hc1,newRow,n2]
 ·cases hd
  refine ⟨trivial,?_⟩
  have:=new_slice (t:=elem) (len:=len) hG.foot hc2 hcl (by simp only [maxLen];omega)
  rw [show cs.toList.toArray = cs from by simp] at this
  exact ⟨this,_,rfl⟩
end
section
variable {P:Program} {Γ:Gam} {H:Hp}
theorem Tc_ret4 {Q:Exit→Act→World→Prop} {w0:Frm} {A0:Foot} {N:Nat} {fn:Func} {y:R} {r r' r'' r3:ResultVar} {x x' x'' x3:V} (hQ:∀ a w,Post P fn w0 A0 y .ret a w→Q .ret a w)
  (hr:fn.results = #[r,r',r'',r3]) (h:resOk P Γ H r x) (h':resOk P Γ H r' x') (h'':resOk P Γ H r'' x'') (h3:resOk P Γ H r3 x3) (hy:R.tup [x,x',x'',x3] = y) (hcl:clVs [x,x',x'',x3] = true:=by rfl):Tc P Q w0 A0 N Γ H .ret:=by
 intro a w hSt
 obtain ⟨E,hG⟩:=hSt
 obtain ⟨v,hv,hd⟩:=resSem_run hG h
 obtain ⟨v',hv',hd'⟩:=resSem_run hG h'
 obtain ⟨v'',hv'',hd''⟩:=resSem_run hG h''
 obtain ⟨v3,hv3,hd3⟩:=resSem_run hG h3
 refine wp_ret (hQ a w ⟨hG.defers,.tuple #[v,v',v'',v3],?_,_,rfl,?_,hG.below⟩)
 ·rw [results_eq,hr];simp [hv,hv',hv'',hv3]
 ·subst hy;simp only [clVs,Bool.and_eq_true] at hcl;exact ⟨[v,v',v'',v3],rfl,hG.out hcl.1 hd,hG.out hcl.2.1 hd',hG.out hcl.2.2.1 hd'',hG.out hcl.2.2.2.1 hd3,trivial⟩
end
end Rc
set_option linter.unusedSimpArgs false
set_option linter.unusedVariables false
namespace Go.Proofs.YtmpkandbccallaaGreatDoor
open Go Go.RowKit Rc
set_option maxRecDepth 10000 in
theorem isnan (z:Int):Ctr Tryz.prog 202 [V.one (Leaf.val (.int .i64 (z)))] (R.one (V.one (Leaf.val (.bool false)))):=by
 refine bd_ Tryz.func202 Tryz.ntmps202 rfl (fun w0 A0=>?_)
 refine zc 9 rfl (tq_ rfl (neF rfl rfl) (zl 3 rfl ?_))
 exact r1_ hq_ rfl rfl
set_option maxRecDepth 10000 in
theorem cmpi (a b:Int):Ctr Tryz.prog 166 [V.one (Leaf.val (.int .i64 (a))),V.one (Leaf.val (.int .i64 (b)))] (R.one (V.one (Leaf.val (.int .i64 (cmpI a b))))):=by
 refine bd_ Tryz.func166 Tryz.ntmps166 rfl (fun w0 A0=>?_)
 refine zc 8 rfl (tc_ fn202 rfl (isnan a) (zl 6 rfl (tc_ fn202 rfl (isnan b) (zl 24 rfl (zl 2 rfl ?_)))))
 by_cases h1:a < b
 ·refine tq_ rfl (ltT rfl) (zl 8 rfl ?_)
  exact r1_ hq_ rfl (by unfold cmpI;rw [if_pos h1])
 ·refine tq_ rfl (ltF rfl) (zl 10 rfl ?_)
  by_cases h2:b < a
  ·refine tq_ rfl (gtT rfl) (zl 8 rfl ?_)
   exact r1_ hq_ rfl (by unfold cmpI;rw [if_neg h1,if_pos h2])
  ·refine tq_ rfl (gtF rfl) (zl 10 rfl ?_)
   exact r1_ hq_ rfl (by unfold cmpI;rw [if_neg h1,if_neg h2])
set_option maxRecDepth 10000 in
theorem cmpor (l:List Int) (hl:l.length≤1000):Ctr Tryz.prog 165 [V.one (El.row i64E l)] (R.one (V.one (Leaf.val (.int .i64 (frs0 l))))):=by
 refine bd_ Tryz.func165 Tryz.ntmps165 rfl (fun w0 A0=>?_)
 refine zc 14 rfl (tq_ rfl (jln rfl) (zl 4 rfl (lpR_ (fun m Γ H=>∃ (i:Nat),l.length - i = m∧Γ = [(3,some (D.val (.int .i64 0))),(6,some (D.v (V.one (El.row i64E l)))),(7,some (D.val (.int .i64 ((l.length:Nat):Int)))),(8,some (D.val (.int .i64 ((i:Nat):Int))))]∧H = []∧i≤l.length∧frs0 l = frs0 (l.drop i)) ⟨0,rfl,rfl,rfl,Nat.zero_le _,rfl⟩ rfl ?_)))
 rintro m Γ H ⟨i,rfl,rfl,rfl,hi0,ho⟩
 refine zc 2 rfl ?_
 by_cases hi:i < l.length
 ·refine tq_ rfl (ltT rfl) (zl 9 rfl ?_)
  obtain ⟨x,hx⟩:∃ x,l[i]? = some x:=⟨_,List.getElem?_eq_getElem hi⟩
  refine zc 1 rfl (tq_ rfl (jix i hx rfl) (tq_ rfl (jli rfl) (zl 7 rfl ?_)))
  by_cases h0:x≠0
  ·refine tq_ rfl (neT rfl) (zl 9 rfl ?_)
   exact r1_ hq_ rfl (by rw [ho,drop_get hx,frs0,if_pos h0])
  ·refine tq_ rfl (neF rfl) (zl 7 rfl (tq_ rfl (jad (i + 1) rfl) (zl 2 rfl ?_)))
   exact nx_ ⟨i + 1,rfl,rfl,rfl,hi,by rw [ho,drop_get hx,frs0,if_neg h0]⟩ rfl
 ·refine tq_ rfl (ltF rfl) (zl 15 rfl ?_)
  exact r1_ hq_ rfl (by rw [ho,List.drop_eq_nil_of_le (by omega)] <;> rfl)
set_option maxRecDepth 10000 in
theorem cmprow (a b:Rw):Ctr Tryz.prog 108 [rwV a,rwV b] (R.one (V.one (Leaf.val (.int .i64 (cmpR a b))))):=by
 refine bd_ Tryz.func108 Tryz.ntmps108 rfl (fun w0 A0=>?_)
 refine zc 8 rfl (dr_ 0 [] [] (dz 4 rfl (kc_ fn166 rfl (cmpi a.kind b.kind) (dz 4 rfl (kc_ fn166 rfl (cmpi a.idx b.idx) (dz 4 rfl (kc_ fn166 rfl (cmpi a.lo b.lo) (dz 4 rfl (kc_ fn166 rfl (cmpi a.hi b.hi) ?_)))))))))
 refine ke_ rfl (fun _=>Je_buildSlice rfl un231 ty3 tz3 rfl (by decide) (by decide) rfl (by decide) rfl) (kc_ fn165 rfl (cmpor ([(cmpI a.kind b.kind),(cmpI a.idx b.idx),(cmpI a.lo b.lo),(cmpI a.hi b.hi)]) (Nat.le_of_ble_eq_true rfl)) (dz 1 rfl (DK_nil (za 1 rfl ?_))))
 exact r1_ hq_ rfl rfl
set_option maxRecDepth 10000 in
theorem cmp2 (a b:Mu):Ctr Tryz.prog 107 [muV a,muV b] (R.one (V.one (Leaf.val (.int .i64 (cmpR a.r b.r))))):=by
 refine bd_ Tryz.func107 Tryz.ntmps107 rfl (fun w0 A0=>?_)
 refine zc 13 rfl (tc_ fn108 rfl (cmprow a.r b.r) (zl 3 rfl ?_))
 exact r1_ hq_ rfl rfl
set_option maxRecDepth 10000 in
theorem neg1 (m:Mu) {B:Nat} [Fq m.c B] (hB:B≤100000000000) (h:0≤m.c.q):Ctr Tryz.prog 104 [muV m] (R.one (V.one (Leaf.val (.bool false)))):=by
 refine bd_ Tryz.func104 Tryz.ntmps104 rfl (fun w0 A0=>?_)
 refine zc 10 rfl (tc_ fn43 rfl (qsign m.c (m.c.q) rfl (Fq.use (x:=m.c) (by omega))) (tq_ rfl (ltF rfl (by have:=sg_ge.2 h;omega)) (zl 3 rfl ?_)))
 exact r1_ hq_ rfl rfl
set_option maxRecDepth 10000 in
theorem idxfuncM (l:List Mu) (hl:l.length≤1000) {B:Nat} (hB:MB B l) (hB2:B≤100000000000) (hc:CofOk l):Ctr Tryz.prog 163 [V.one (El.row muE l),V.one (Leaf.val (.func (.func 104) #[] #[]))] (R.one (V.one (Leaf.val (.int .i64 (-1))))):=by
 refine bd_ Tryz.func163 Tryz.ntmps163 rfl (fun w0 A0=>?_)
 refine zc 9 rfl (tq_ rfl (jln rfl) (zl 4 rfl (lpR_ (fun m Γ H=>∃ (i:Nat),l.length - i = m∧Γ = [(0,some (D.v (V.one (El.row muE l)))),(1,some (D.val (.func (.func 104) #[] #[]))),(7,some (D.val (.int .i64 ((l.length:Nat):Int)))),(8,some (D.val (.int .i64 ((i:Nat):Int))))]∧H = []∧i≤l.length) ⟨0,rfl,rfl,rfl,Nat.zero_le _⟩ rfl ?_)))
 rintro m Γ H ⟨i,rfl,rfl,rfl,hi0⟩
 refine zc 2 rfl ?_
 by_cases hi:i < l.length
 ·refine tq_ rfl (ltT rfl) (zl 15 rfl ?_)
  obtain ⟨x,hx⟩:∃ x,l[i]? = some x:=⟨_,List.getElem?_eq_getElem hi⟩
  haveI hxB:=hB x (List.mem_of_getElem? hx)
  refine zc 4 rfl (tq_ rfl (jix i hx rfl) (tq_ rfl (jlr rfl) (te_ rfl (Je_callV rfl rfl fn104 rfl (neg1 x (by omega) (hc x (List.mem_of_getElem? hx)).2)) (zl 7 rfl (tq_ rfl (jad (i + 1) rfl) (zl 2 rfl ?_))))))
  exact nx_ ⟨i + 1,rfl,rfl,rfl,hi⟩ rfl
 ·refine tq_ rfl (ltF rfl) (zl 14 rfl ?_)
  exact r1_ hq_ rfl rfl
set_option maxRecDepth 10000 in
theorem hasfuncM (l:List Mu) (hl:l.length≤1000) {B:Nat} (hB:MB B l) (hB2:B≤100000000000) (hc:CofOk l):Ctr Tryz.prog 103 [V.one (El.row muE l),V.one (Leaf.val (.func (.func 104) #[] #[]))] (R.one (V.one (Leaf.val (.bool false)))):=by
 refine bd_ Tryz.func103 Tryz.ntmps103 rfl (fun w0 A0=>?_)
 refine zc 9 rfl (tc_ fn163 rfl (idxfuncM l hl hB hB2 hc) (zl 4 rfl ?_))
 exact r1_ hq_ rfl rfl
set_option maxRecDepth 10000 in
set_option maxHeartbeats 2000000 in
theorem collect (l:List Mu) {B:Nat} (hc:CofOk l) (hB:MB B l) (hB2:B≤10000000000) (hl:l.length≤19):Ctr Tryz.prog 49 [V.one (El.row muE l)] (R.tup [V.one (El.row muE (collM l)),V.one (Leaf.val (.int .i64 0))]):=by
 refine bd_ Tryz.func49 Tryz.ntmps49 rfl (fun w0 A0=>?_)
 refine zc 10 rfl (tc_ fn103 rfl (hasfuncM l (by omega) hB (by omega) hc) (zl 8 rfl ?_))
 refine Tl_inline rfl rfl Tryz.func105 rfl rfl Tryz.ntmps105 (Nat.le_of_ble_eq_true rfl) rfl (fun a1 d1 s1=>?_)
 refine qc_ (zc 9 rfl ?_)
 refine Tl_eqnil rfl rfl rfl rfl rfl un44 (fun b2 hnil=>?_)
 refine zl 2 rfl ?_
 refine Tc_cond rfl (fun hn4=>?_) (fun hn4=>?_)
 ·obtain ⟨hl0,_⟩:=hnil hn4
  have hl1:=List.eq_nil_of_length_eq_zero hl0
  subst hl1
  refine zc 2 rfl (Tl_nil_own (u:=105) (sz:=7) rfl rfl rfl rfl rfl (zl 2 rfl (Tc_retI1 [] (fun _ _ h=>h) d1 s1 rfl rfl rfl trivial (zl 6 rfl ?_))))
  refine Tl_inline rfl rfl Tryz.func106 rfl rfl Tryz.ntmps106 (Nat.le_of_ble_eq_true rfl) rfl (fun a3 d3 s3=>?_)
  refine qc_ (zc 3 rfl (tq_ rfl (Jq_len_own rfl rfl rfl (by decide) rfl rfl (by decide) un44) (zl 1 rfl ?_)))
  refine Tl_inline rfl rfl Tryz.func164 rfl rfl Tryz.ntmps164 (Nat.le_of_ble_eq_true rfl) rfl (fun a4 d4 s4=>?_)
  refine qc_ (zc 14 rfl (Tc_unroll 1 (rn_ (zc 5 rfl (tq_ rfl (leF rfl (by decide)) (zl 14 rfl ?_))))))
  refine Tl_inline rfl rfl Tryz.func200 rfl rfl Tryz.ntmps200 (Nat.le_of_ble_eq_true rfl) rfl (fun a5 d5 s5=>?_)
  refine qc_ (zc 3 rfl (tq_ rfl (Jq_add rfl rfl rfl (r:=1) (w64 (by decide) (by decide) (by decide))) (zl 4 rfl (Tc_unroll 1 (rn_ (zc 5 rfl (tq_ rfl (ltF rfl (by decide)) (zl 7 rfl ?_))))))))
  refine At_retI0 [(0,some (D.own 0 0)),(1,some (D.val (.int .i64 ((0:Nat):Int)))),(2,some (D.val (.func (.func 107) #[] #[]))),(6,some (D.val (.int .i64 20))),(4004,some (D.own 0 0))] d5 s5 rfl rfl ⟨rfl,rfl,rfl,rfl,rfl,trivial⟩ (zl 3 rfl (Tc_unroll 1 (rn_ (zc 5 rfl (tq_ rfl (ltF rfl (by decide)) (zl 7 rfl ?_))))))
  refine At_retI0 [(2004,some (D.own 0 0))] d4 s4 rfl rfl ⟨rfl,trivial⟩ (zl 1 rfl (At_retI0 [(4,some (D.own 0 0))] d3 s3 rfl rfl ⟨rfl,trivial⟩ (zl 4 rfl (tq_ rfl (Jq_assign rfl (rfl)) (zl 4 rfl (Tc_growS 5 105 7 rfl rfl (zc 5 rfl (Tc_unroll 1 (rn_ ?_)))))))))
  refine zc 5 rfl (tq_ rfl (Jq_len_own rfl rfl rfl (by decide) rfl rfl (by decide) un44) (tq_ rfl (ltF rfl (by decide)) (zl 15 rfl (Tc_viewS 2 (x':=V.one (El.row muE ([]))) rfl (RowAt.ofE muE ([]) rfl (by decide)) (.inr ⟨rfl,rfl⟩) ?_))))
  exact r2_ hq_ rfl rfl
 ·refine zc 3 rfl (nz_ [so 0 (D.v (V.one (El.row muE l)))] [] rfl rfl (zc 1 rfl (Tl_build0 rfl rfl rfl rfl un44 ty105 rfl (zl 1 rfl ?_))))
  obtain ⟨ti6,hi6,hz6,hs6,hb6⟩:=in105
  refine Tl_append rfl rfl rfl rfl rfl rfl rfl rfl rfl rfl (El.all_length muE l) (by decide) un44 un44 hi6 hz6 hs6 rfl (by simp only [maxLen];omega) (by rw [hb6];omega) (nm:=l.length) (Nat.zero_add _) (ls:=muE.all l) rfl (zl 3 rfl (Tc_retI1 [] (fun _ _ h=>h) d1 s1 rfl rfl rfl trivial (zl 6 rfl ?_)))
  refine Tl_inline rfl rfl Tryz.func106 rfl rfl Tryz.ntmps106 (Nat.le_of_ble_eq_true rfl) rfl (fun a7 d7 s7=>?_)
  refine qc_ (zc 3 rfl (tq_ rfl (Jq_len_own rfl rfl rfl (by decide) rfl (El.len_sz rfl rfl) (by decide) un44) (zl 1 rfl ?_)))
  refine Tl_inline rfl rfl Tryz.func164 rfl rfl Tryz.ntmps164 (Nat.le_of_ble_eq_true rfl) rfl (fun a8 d8 s8=>?_)
  refine qc_ (zc 14 rfl (Tc_unroll 1 (rn_ (zc 5 rfl (tq_ rfl (leF rfl) (zl 14 rfl ?_))))))
  refine Tl_inline rfl rfl Tryz.func200 rfl rfl Tryz.ntmps200 (Nat.le_of_ble_eq_true rfl) rfl (fun a9 d9 s9=>?_)
  refine qc_ (zc 3 rfl (tq_ rfl (Jq_add rfl rfl rfl (r:=1) (w64 (by decide) (by decide) (by decide))) (zl 4 rfl ?_)))
  refine lpR_ (fun m Γ H=>∃ (i:Nat) (u:List Mu),l.length - i = m∧Γ = [(0,some (D.own 0 l.length)),(1,some (D.val (.int .i64 0))),(2,some (D.val (.int .i64 ((l.length:Nat):Int)))),(3,some (D.val (.func (.func 107) #[] #[]))),(8,some (D.val (.int .i64 ((i:Nat):Int)))),(2000,some (D.own 0 l.length)),(2001,some (D.val (.int .i64 ((l.length:Nat):Int)))),(2002,some (D.val (.func (.func 107) #[] #[]))),(2006,some (D.val (.int .i64 20))),(6004,some (D.own 0 l.length))]∧H = [hrw 105 7 muE u]∧1≤i∧InsOk l u i) ⟨1,l,rfl,rfl,rfl,Nat.le_refl _,InsOk.start l⟩ rfl ?_
  rintro m Γ H ⟨i,u,rfl,rfl,rfl,hi1,hI⟩
  refine zc 5 rfl ?_
  by_cases hi:i < l.length
  ·refine tq_ rfl (ltT rfl) (zl 8 rfl ?_)
   have hul:=hI.len
   obtain ⟨x,hx⟩:∃ x,u[i]? = some x:=⟨_,List.getElem?_eq_getElem (by omega)⟩
   have htl:(u.take i).length = i:=by rw [List.length_take];omega
   have hg0:Gt (u.take i) x i:=by have h:=Gt.start (A:=u.take i) (x:=x);rwa [htl] at h
   refine zc 6 rfl ?_
   refine lpR_ (fun m Γ H=>∃ (j:Nat),j = m∧Γ = [(0,some (D.own 0 l.length)),(1,some (D.val (.int .i64 0))),(2,some (D.val (.int .i64 ((l.length:Nat):Int)))),(3,some (D.val (.func (.func 107) #[] #[]))),(8,some (D.val (.int .i64 ((i:Nat):Int)))),(9,some (D.val (.int .i64 ((j:Nat):Int)))),(2000,some (D.own 0 l.length)),(2001,some (D.val (.int .i64 ((l.length:Nat):Int)))),(2002,some (D.val (.func (.func 107) #[] #[]))),(2006,some (D.val (.int .i64 20))),(6004,some (D.own 0 l.length))]∧H = [hrw 105 7 muE (insA (u.take i) x j ++ u.drop (i + 1))]∧j≤i∧Gt (u.take i) x j) ⟨i,rfl,rfl,by rw [← ins_split hx],Nat.le_refl _,hg0⟩ rfl ?_
   rintro m Γ H ⟨j,rfl,rfl,rfl,hji,hg⟩
   have hsl:(insA (u.take i) x j ++ u.drop (i + 1)).length = l.length:=by rw [List.length_append,insA_len,htl,List.length_drop];omega
   refine zc 2 rfl (dr_ 0 [] [] (dz 2 rfl ?_))
   by_cases hj0:0 < j
   ·refine kq_ rfl (gtT rfl) (dz 1 rfl ?_)
    obtain ⟨y,hy⟩:∃ y,(u.take i)[j - 1]? = some y:=⟨_,List.getElem?_eq_getElem (by omega)⟩
    refine dz 3 rfl (kq_ rfl (Jq_ixO (i:=0) muE (insA (u.take i) x j ++ u.drop (i + 1)) (j) rfl rfl rfl rfl (by decide) un44 ty105 (by omega) hsl) (kq_ rfl (Jq_ldO (i:=0) muE (insA (u.take i) x j ++ u.drop (i + 1)) (j) (fo:=0) rfl rfl rfl (by decide) ty105 (insA_get (by omega) _) rfl) (dz 2 rfl (kq_ rfl (jsb (j - 1) rfl) ?_))))
    refine kq_ rfl (Jq_ixO (i:=0) muE (insA (u.take i) x j ++ u.drop (i + 1)) (j - 1) rfl rfl rfl rfl (by decide) un44 ty105 (by omega) hsl) (kq_ rfl (Jq_ldO (i:=0) muE (insA (u.take i) x j ++ u.drop (i + 1)) (j - 1) (fo:=0) rfl rfl rfl (by decide) ty105 (insA_get1 hj0 (by omega) hy _) rfl) (ke_ rfl (fun _=>Je_callV rfl rfl fn107 rfl (cmp2 x y)) ?_))
    by_cases hlt:lessR x.r y.r = true
    ·refine kq_ rfl (ltT rfl (cmpR_lt.2 hlt)) (dz 1 rfl (DK_nil (za 6 rfl (dr_ 0 [(15,0),(17,0)] [0] (dz 4 rfl (kq_ rfl (jsb (j - 1) rfl) (dz 2 rfl (kq_ rfl (jsb (j - 1) rfl) (kp_ [] rfl (Jq_ixO (i:=0) muE (insA (u.take i) x j ++ u.drop (i + 1)) (j - 1) rfl rfl rfl rfl (by decide) un44 ty105 (by omega) hsl) ?_)))))))))
     refine kp_ [] rfl (Jq_ldO (i:=0) muE (insA (u.take i) x j ++ u.drop (i + 1)) (j - 1) (fo:=0) rfl rfl rfl (by decide) ty105 (insA_get1 hj0 (by omega) hy _) rfl) (dz 2 rfl (kp_ [] rfl (Jq_ixO (i:=0) muE (insA (u.take i) x j ++ u.drop (i + 1)) (j) rfl rfl rfl rfl (by decide) un44 ty105 (by omega) hsl) ?_))
     refine kp_ [] rfl (Jq_ldO (i:=0) muE (insA (u.take i) x j ++ u.drop (i + 1)) (j) (fo:=0) rfl rfl rfl (by decide) ty105 (insA_get (by omega) _) rfl) (kp_ [] rfl (Jq_ixO (i:=0) muE (insA (u.take i) x j ++ u.drop (i + 1)) (j) rfl rfl rfl rfl (by decide) un44 ty105 (by omega) hsl) ?_)
     refine ki_ 0 rfl (Jd_stO (n:=0) muE (insA (u.take i) x j ++ u.drop (i + 1)) (j) (y) rfl rfl rfl rfl ty105 (by rw [hsl];omega)) (kp_ [] rfl (Jq_ixO (i:=0) muE ((insA (u.take i) x j ++ u.drop (i + 1)).set (j) y) (j - 1) rfl rfl rfl rfl (by decide) un44 ty105 (by omega) (by rw [List.length_set];exact hsl)) ?_)
     refine ki_ 0 rfl (Jd_stO (n:=0) muE ((insA (u.take i) x j ++ u.drop (i + 1)).set (j) y) (j - 1) (x) rfl rfl rfl rfl ty105 (by rw [List.length_set,hsl];omega)) (DK_nil (za 4 rfl (tq_ rfl (jsb (j - 1) rfl) (zl 2 rfl ?_))))
     exact nx_ ⟨j - 1,rfl,rfl,by rw [insA_step hj0 (by omega) hy],by omega,hg.step hj0 hy hlt⟩ rfl
    ·refine kq_ rfl (ltF rfl (fun e=>hlt (cmpR_lt.1 e))) (dz 1 rfl (DK_nil (za 10 rfl (tq_ rfl (jad (i + 1) rfl) (zl 2 rfl ?_)))))
     exact nx_ ⟨i + 1,_,rfl,rfl,rfl,by omega,hI.next hx hji hg (.inr ⟨y,hy,by simpa using hlt⟩)⟩ rfl
   ·refine kq_ rfl (gtF rfl) (dz 14 rfl (DK_nil (za 10 rfl (tq_ rfl (jad (i + 1) rfl) (zl 2 rfl ?_)))))
    exact nx_ ⟨i + 1,_,rfl,rfl,rfl,by omega,hI.next hx hji hg (.inl (by omega))⟩ rfl
  ·refine tq_ rfl (ltF rfl) (zl 7 rfl (At_retI0 [(0,some (D.own 0 l.length)),(1,some (D.val (.int .i64 ((l.length:Nat):Int)))),(2,some (D.val (.func (.func 107) #[] #[]))),(6,some (D.val (.int .i64 20))),(4004,some (D.own 0 l.length))] d9 s9 rfl rfl ⟨rfl,rfl,rfl,rfl,rfl,trivial⟩ (zl 3 rfl (Tc_unroll 1 (rn_ (zc 5 rfl (tq_ rfl (ltF rfl) (zl 7 rfl ?_))))))))
   refine At_retI0 [(2004,some (D.own 0 l.length))] d8 s8 rfl rfl ⟨rfl,trivial⟩ (zl 1 rfl (At_retI0 [(4,some (D.own 0 l.length))] d7 s7 rfl rfl ⟨rfl,trivial⟩ (zl 3 rfl ?_)))
   have hul:=hI.len
   have hsrt:Srt u:=by have:=hI.srt;rwa [List.take_of_length_le (by omega)] at this
   have hcu:CofOk u:=fun m hm=>hc m (hI.mem m hm)
   have hBu:MB B u:=fun m hm=>hB m (hI.mem m hm)
   refine zc 1 rfl (tq_ rfl (Jq_assign rfl (rfl)) (zl 4 rfl (Tc_growS 5 105 7 rfl rfl (zc 5 rfl ?_))))
   refine lpR_ (fun m Γ H=>∃ (i2:Nat) (n:Nat) (out:List Mu),l.length - i2 = m∧Γ = [(4,some (D.own 0 l.length)),(5,some (D.v (V.one (Leaf.own 1 n)))),(6,some (D.val (.int .i64 ((i2:Nat):Int))))]∧H = [hrw 105 7 muE u,hgr 105 7 muE out n]∧i2≤l.length∧GrpOk u out i2) ⟨0,0,[],rfl,rfl,rfl,Nat.zero_le _,GrpOk.start u⟩ rfl ?_
   rintro m Γ H ⟨i2,n,out,rfl,rfl,rfl,hi20,hG⟩
   refine zc 5 rfl (tq_ rfl (Jq_len_own rfl rfl rfl (by decide) rfl (El.len_sz hul rfl) (by decide) un44) ?_)
   by_cases hi2:i2 < l.length
   ·refine tq_ rfl (ltT rfl) (zl 7 rfl ?_)
    obtain ⟨m0,h0⟩:∃ m,u[i2]? = some m:=⟨_,List.getElem?_eq_getElem (by omega)⟩
    refine zc 3 rfl (tq_ rfl (Jq_ixO (i:=0) muE u (i2) rfl rfl rfl rfl (by decide) un44 ty105 hi2 hul) (zl 1 rfl (tq_ rfl (Jq_ldO (i:=0) muE u (i2) (fo:=0) rfl rfl rfl (by decide) ty103 h0 rfl) (zl 1 rfl (eq_ (D.agg (qL 0)) rfl (ratZ) (zl 8 rfl ?_))))))
    refine lpR_ (fun m Γ H=>∃ (i3:Nat) (sum:Rat),l.length - i3 = m∧Γ = [(4,some (D.own 0 l.length)),(5,some (D.v (V.one (Leaf.own 1 n)))),(6,some (D.val (.int .i64 ((i3:Nat):Int)))),(7,some (D.ptr 2 0)),(8,some (D.ptr 3 0))]∧H = [hrw 105 7 muE u,hgr 105 7 muE out n,hb_ 103 [Leaf.val (.int .i64 m0.r.kind),Leaf.val (.int .i64 m0.r.idx),Leaf.val (.int .i64 m0.r.lo),Leaf.val (.int .i64 m0.r.hi)],hb_ 27 (qL sum)]∧i3≤l.length∧InOk u m0.r i2 i3 sum∧Br sum (i3 * (B + 2))) ⟨i2,0,rfl,rfl,rfl,by omega,InOk.start u m0.r i2,Br.zero.mono (Nat.zero_le _)⟩ rfl ?_
    rintro m Γ H ⟨i3,sum,rfl,rfl,rfl,hi30,hS,hsB⟩
    refine zc 2 rfl (nz_ [so 4 (D.own 0 l.length),so 5 (D.v (V.one (Leaf.own 1 n))),so 6 (D.val (.int .i64 ((i3:Nat):Int))),so 7 (D.ptr 2 0),so 8 (D.ptr 3 0)] [hrw 105 7 muE u,hgr 105 7 muE out n,hb_ 103 [Leaf.val (.int .i64 m0.r.kind),Leaf.val (.int .i64 m0.r.idx),Leaf.val (.int .i64 m0.r.lo),Leaf.val (.int .i64 m0.r.hi)],hb_ 27 (qL sum)] rfl rfl (dr_ 0 [] [] (dz 2 rfl ?_)))
    refine kq_ rfl (Jq_len_own rfl rfl rfl (by decide) rfl (El.len_sz hul rfl) (by decide) un44) ?_
    by_cases hi3:i3 < l.length
    ·refine kq_ rfl (ltT rfl) (dz 1 rfl ?_)
     obtain ⟨x3,hx3⟩:∃ m,u[i3]? = some m:=⟨_,List.getElem?_eq_getElem (by omega)⟩
     haveI hx3B:=hBu x3 (List.mem_of_getElem? hx3)
     refine dz 2 rfl (kq_ rfl (Jq_ixO (i:=0) muE u (i3) rfl rfl rfl rfl (by decide) un44 ty105 (by omega) hul) (dz 1 rfl (kq_ rfl (Jq_ldO (i:=0) muE u (i3) (fo:=0) rfl rfl rfl (by decide) ty103 hx3 rfl) (dz 1 rfl ?_))))
     by_cases he:x3.r = m0.r
     ·refine kq_ rfl (Jq_eql4 rfl rfl rfl row_i4 (d:=true) (eq4_t he)) (dz 1 rfl (DK_nil (za 6 rfl ?_)))
      have hm3:=Nat.mul_le_mul_right (B + 2) (show i3≤19 by omega)
      haveI hsB':=hsB
      have hbr3:Br (sum + x3.c.q) ((i3 + 1) * (B + 2)):=(inferInstance:Br (sum + x3.c.q) _).mono (by rw [Nat.succ_mul];omega)
      refine nz_ [so 4 _,so 5 _,so 6 _,so 7 _,so 8 _] [_,_,_,_] rfl rfl (dr_ 0 [(7,3)] [3] (kp_ [] rfl (Jq_load_agg rfl rfl rfl (by decide) ty27 (by decide) (Nat.le_of_ble_eq_true rfl) rfl) (dz 2 rfl (kq_ rfl (Jq_ixO (i:=0) muE u (i3) rfl rfl rfl rfl (by decide) un44 ty105 (by omega) hul) (dz 1 rfl ?_)))))
      refine kq_ rfl (Jq_ldO (i:=0) muE u (i3) (fo:=4) rfl rfl rfl (by decide) ty27 hx3 rfl) (keq_ (D.agg (qL x3.c.q)) rfl (dq_can (hcu x3 (List.mem_of_getElem? hx3)).1) (kc_ fn44 rfl (qadd (qOf (sum)) (sum) (qOf_q _) (Br.use (by omega)) (qOf (x3.c.q)) (x3.c.q) (qOf_q _) (Br.use (by omega))) (dz 1 rfl (DK_nil (za 2 rfl ?_)))))
      refine nz_ [so 4 _,so 5 _,so 6 _,so 7 _,so 8 _] [_,_,_,hb_ 27 (qL ((sum) + (x3.c.q)))] rfl rfl (zc 2 rfl (tq_ rfl (jad (i3 + 1) rfl) (zl 2 rfl ?_)))
      exact nx_ ⟨i3 + 1,_,rfl,rfl,rfl,by omega,hS.step hx3 he (hcu x3 (List.mem_of_getElem? hx3)).2,hbr3⟩ rfl
     ·refine kq_ rfl (Jq_eql4 rfl rfl rfl row_i4 (d:=false) (eq4_f he)) (dz 1 rfl (DK_nil (za 8 rfl ?_)))
      have hm3:=Nat.mul_le_mul_right (B + 2) (show i3≤19 by omega)
      have hlt:i2 < i3:=(by have h1:=hS.le;rcases Nat.lt_or_eq_of_le h1 with h | h <;> first | exact h | (subst h;rw [h0] at hx3;cases hx3;exact absurd rfl he))
      have hGn:=GrpOk.next hsrt hG hS h0 rfl hlt (fun m hm=>by rw [hx3] at hm;cases hm;exact he)
      have hol:=hG.len
      refine zc 2 rfl (tc_ fn43 rfl (qsign (qOf (sum)) (sum) (qOf_q _) (Br.use (by omega))) ?_)
      by_cases hp:0 < sum
      ·refine tq_ rfl (gtT rfl (sg_gt.2 hp)) (zl 3 rfl (nz_ [so 4 _,so 5 _,so 6 _,so 7 _,so 8 _] [_,_,_,_] rfl rfl (zc 5 rfl (te_ rfl (Je_buildSlice rfl un44 ty105 tz105 rfl (by decide) (by decide) rfl (by decide) rfl) (te_ rfl (jap (e:=muE) (⟨m0.r,(qOf (sum))⟩) rfl rfl) (zl 3 rfl (At_free 2 (At_free 3 (trim_ 2 rfl ?_)))))))))
       exact nx_ ⟨i3,_,_,rfl,rfl,rfl,by omega,(by rw [if_pos hp] at hGn;exact hGn)⟩ rfl
      ·refine tq_ rfl (gtF rfl (fun e=>hp (sg_gt.1 e))) (zl 5 rfl (At_free 2 (At_free 3 (trim_ 2 rfl ?_))))
       exact nx_ ⟨i3,_,_,rfl,rfl,rfl,by omega,(by rw [if_neg hp] at hGn;exact hGn)⟩ rfl
    ·refine kq_ rfl (ltF rfl) (dz 9 rfl (DK_nil (za 8 rfl ?_)))
     have hm3:=Nat.mul_le_mul_right (B + 2) (show i3≤19 by omega)
     have hlt:i2 < i3:=(by have h1:=hS.le;omega)
     have hGn:=GrpOk.next hsrt hG hS h0 rfl hlt (fun m hm=>by have:=(List.getElem?_eq_some_iff.1 hm).1;omega)
     have hol:=hG.len
     refine nz_ [so 4 _,so 5 _,so 6 _,so 7 _,so 8 _] [_,_,_,_] rfl rfl (zc 2 rfl (tc_ fn43 rfl (qsign (qOf (sum)) (sum) (qOf_q _) (Br.use (by omega))) ?_))
     by_cases hp:0 < sum
     ·refine tq_ rfl (gtT rfl (sg_gt.2 hp)) (zl 8 rfl (te_ rfl (Je_buildSlice rfl un44 ty105 tz105 rfl (by decide) (by decide) rfl (by decide) rfl) (te_ rfl (jap (e:=muE) (⟨m0.r,(qOf (sum))⟩) rfl rfl) (zl 3 rfl (At_free 2 (At_free 3 (trim_ 2 rfl ?_)))))))
      exact nx_ ⟨i3,_,_,rfl,rfl,rfl,by omega,(by rw [if_pos hp] at hGn;exact hGn)⟩ rfl
     ·refine tq_ rfl (gtF rfl (fun e=>hp (sg_gt.1 e))) (zl 5 rfl (At_free 2 (At_free 3 (trim_ 2 rfl ?_))))
      exact nx_ ⟨i3,_,_,rfl,rfl,rfl,by omega,(by rw [if_neg hp] at hGn;exact hGn)⟩ rfl
   ·refine tq_ rfl (ltF rfl) (zl 9 rfl ?_)
    have hie:i2 = u.length:=by omega
    rw [hie] at hG
    have hout:=grp_end hc hI hG
    refine nf_ [0] [so 5 (D.v (V.one (Leaf.own 1 n)))] [none,hgr 105 7 muE out n] rfl rfl rfl (zc 6 rfl (Tc_viewS 2 (x':=V.one (El.row muE out)) rfl (RowAt.ofE muE out rfl (by decide)) (.inr ⟨rfl,rfl⟩) ?_))
    exact r2_ hq_ rfl (by rw [hout])
end Go.Proofs.YtmpkandbccallaaGreatDoor
set_option linter.unusedSimpArgs false
set_option linter.unusedVariables false
namespace Rc
open Go Go.RowKit
end Rc
set_option linter.unusedSimpArgs false
set_option linter.unusedVariables false
namespace Rc
open Go Go.RowKit
def sl (s:Sc) (up:Bool) (p:Af):List Mu:=if up = true then abL s (negF p) else abL s p
end Rc
set_option linter.unusedSimpArgs false
set_option linter.unusedVariables false
namespace Rc
open Go Go.RowKit
theorem can_sc {ts:List Tm} {c:Rat} (h:CanT ts):CanT (scT ts c):=by rw [scT_eq];exact scR_can h
theorem co_sc {ts:List Tm} {c:Rat} (h:CanT ts) (v:Nat):co (scT ts c) v = co ts v * c:=by rw [scT_eq];exact co_scR h v
theorem co_add {f g:Af} (hf:CanT f.ts) (hg:CanT g.ts) (v:Nat):co (fAdd f g).ts v = co f.ts v + co g.ts v:=co_sumT hf hg v
theorem co_fsc {f:Af} {c:Rat} (hf:CanT f.ts) (v:Nat):co (fSc f c).ts v = co f.ts v * c:=co_sc hf v
theorem co_sub {f g:Af} (hf:CanT f.ts) (hg:CanT g.ts) (v:Nat):co (fSub f g).ts v = co f.ts v - co g.ts v:=by
 show co (sumT f.ts (scT g.ts ((-1:Int):Rat))) v = _
 rw [co_sumT hf (can_sc hg),co_sc hg,m1];grind
theorem can_sub {f g:Af} (hf:CanT f.ts):CanT (fSub f g).ts:=sumT_can hf
theorem can_v (v:Nat):CanT (fV v).ts:=⟨by decide,fun t ht=>by simp at ht,trivial⟩
theorem can_n (c:Rat):CanT (fN c).ts:=trivial
theorem co_v (w v:Nat):co (fV w).ts v = if w = v then 1 else 0:=by
 show (if w = v then ((1:Int):Rat) else co [] v) = _
 rw [p1];rfl
theorem co_n (c:Rat) (v:Nat):co (fN c).ts v = 0:=rfl
def coR (s:Sc) (v:Nat) (r:Rw):Rat:=co (formM s r).1.ts v
section
variable {s:Sc}
def coS (v:Nat):List Tm→Rat
 | []=>0
 | t :: ts=>(if t.1 = v then t.2 else 0) + coS v ts
theorem coS_co {v:Nat}:∀ {ts:List Tm},CanT ts→coS v ts = co ts v
 | [],_=>rfl
 | (w,d) :: ts,h=>by
  obtain ⟨h1,h2,h3⟩:=h
  show (if w = v then d else 0) + coS v ts = if w = v then d else co ts v
  rw [coS_co h3]
  split
  ·rename_i e;subst e;rw [co_none h2];grind
  ·grind
end
end Rc
set_option linter.unusedSimpArgs false
set_option linter.unusedVariables false
namespace Rc
open Go Go.RowKit
def lvr (l:List Lm) (n:Nat):Qr:=match l[n - 1]? with | some m=>m.v | none=>qZero
theorem lvr_get {l:List Lm} {n:Nat} {m:Lm} (h:l[n - 1]? = some m):lvr l n = m.v:=by unfold lvr;rw [h]
def one1 (r:Rw):List Mu:=[⟨r,qOf ((1:Int):Rat)⟩]
def inpS (up:Bool) (i:Nat) (b:Rat × Rw) (k:Nat) (d:Dc):Rat × Rw:=
 if d.kind = (if up = true then 4 else 3)∧d.idx = i∧(if up = true then d.pt < b.1 else b.1 < d.pt) then (d.pt,⟨4,(k:Int),0,0⟩) else b
def inp0 (s:Sc) (i:Nat) (up:Bool):Rat × Rw:=if up = true then ((s.q.r.hi[i]?).getD 0,⟨2,(i:Int),0,0⟩) else ((s.q.r.lo[i]?).getD 0,⟨1,(i:Int),0,0⟩)
def inpT (s:Sc) (i:Nat) (up:Bool) (b:Rat × Rw) (k:Nat):Rat × Rw:=match s.path[k]? with | some d=>inpS up i b k d | none=>b
def inpN (s:Sc) (i:Nat) (up:Bool) (n:Nat):Rat × Rw:=(List.range n).foldl (inpT s i up) (inp0 s i up)
def inpM (s:Sc) (i:Nat) (up:Bool):Rat × Rw:=inpN s i up s.path.length
theorem inpN_succ {s:Sc} {i:Nat} {up:Bool} {n:Nat} {d:Dc} (h:s.path[n]? = some d):inpN s i up (n + 1) = inpS up i (inpN s i up n) n d:=by
 unfold inpN;rw [List.range_succ,List.foldl_append];simp only [List.foldl_cons,List.foldl_nil]
 show inpT s i up _ n = _
 unfold inpT;rw [h]
@[reducible] def bLo (s:Sc) (j:Nat):Nat:=(best s.lems (j:Int)).1
@[reducible] def bHi (s:Sc) (j:Nat):Nat:=(best s.lems (j:Int)).2
@[reducible] def decO (s:Sc) (j:Nat):Bool:=decM s.path 1 (j:Int)
@[reducible] def decF (s:Sc) (j:Nat):Bool:=decM s.path 2 (j:Int)
def lowM (s:Sc) (j:Nat):Qr × List Mu:=
 if bLo s j≠0∧0 < lv s.lems (bLo s j) then (lvr s.lems (bLo s j),[⟨⟨6,(j:Int),0,0⟩,qOf ((1:Int):Rat)⟩,⟨⟨11,(j:Int),(bLo s j:Int),0⟩,qOf ((1:Int):Rat)⟩])
 else (qZero,one1 ⟨5,(j:Int),0,0⟩)
def highM (s:Sc) (j:Nat):Option (Qr × List Mu):=
 if decF s j = true ∨ (bHi s j≠0∧lv s.lems (bHi s j)≤0) then some (qZero,one1 ⟨10,(j:Int),0,if decF s j = true then 0 else (bHi s j:Int)⟩)
 else if bHi s j = 0 then none
 else if decO s j = true ∨ (bLo s j≠0∧0≤lv s.lems (bLo s j)) then some (lvr s.lems (bHi s j),[⟨⟨8,(j:Int),if decO s j = true then 0 else (bLo s j:Int),0⟩,qOf ((1:Int):Rat)⟩,⟨⟨12,(j:Int),0,(bHi s j:Int)⟩,qOf ((1:Int):Rat)⟩])
 else if bLo s j = 0 then none
 else some (lvr s.lems (bHi s j),[⟨⟨12,(j:Int),0,(bHi s j:Int)⟩,qOf (lv s.lems (bHi s j) * (((1:Int):Rat) / (lv s.lems (bHi s j) - lv s.lems (bLo s j))))⟩,⟨⟨13,(j:Int),(bLo s j:Int),(bHi s j:Int)⟩,qOf (((1:Int):Rat) / (lv s.lems (bHi s j) - lv s.lems (bLo s j)))⟩])
def bndM (s:Sc) (v:Nat) (up:Bool):Option (Qr × List Mu):=
 if v < s.q.g.inp then some (qOf (inpM s v up).1,one1 (inpM s v up).2)
 else if up = true then highM s (v - s.q.g.inp) else some (lowM s (v - s.q.g.inp))
def boxT (s:Sc) (a:Option (Rat × List Mu)) (t:Tm):Option (Rat × List Mu):=
 match a with
 | none=>none
 | some (x,l)=>match bndM s t.1 (decide (t.2 < 0)) with
  | none=>none
  | some (b,m)=>some (x + t.2 * b.q,mergeM l m (rq false (cnum t.2) (cden t.2)))
def boxN (s:Sc) (f:Af) (n:Nat):Option (Rat × List Mu):=(f.ts.take n).foldl (boxT s) (some (f.c,[]))
def boxO (s:Sc) (f:Af):Option (Rat × List Mu):=boxN s f f.ts.length
def boxD:Dom:=fun s f=>match boxO s f with | some (x,l)=>(x,l,true) | none=>(0,[],false)
theorem boxN_succ {s:Sc} {f:Af} {n:Nat} {t:Tm} (h:f.ts[n]? = some t):boxN s f (n + 1) = boxT s (boxN s f n) t:=by
 unfold boxN;rw [take_snoc h,List.foldl_append];rfl
theorem boxT_none {s:Sc}:∀ (ts:List Tm),ts.foldl (boxT s) none = none
 | []=>rfl
 | t :: ts=>boxT_none ts
theorem boxO_none {s:Sc} {f:Af} {n:Nat} (h:boxN s f n = none):boxO s f = none:=by
 unfold boxO boxN at *
 rw [List.take_length]
 conv=>lhs;rw [← List.take_append_drop n f.ts,List.foldl_append,h]
 exact boxT_none _
theorem boxD_some {s:Sc} {f:Af} {x:Rat} {l:List Mu} (h:boxO s f = some (x,l)):boxD s f = (x,l,true):=by unfold boxD;rw [h]
theorem boxD_none {s:Sc} {f:Af} (h:boxO s f = none):boxD s f = (0,[],false):=by unfold boxD;rw [h]
section
variable {s:Sc}
theorem form_path {k:Nat} {d:Dc} (hd:s.path[k]? = some d) (h3:3≤d.kind):formM s ⟨4,(k:Int),0,0⟩ = (pathF d,true):=by
 unfold formM
 rw [if_neg (by show ¬ (5:Int)≤4;decide),if_neg (by show ¬ ((0:Int)≠0 ∨ (0:Int)≠0 ∨ ((k:Nat):Int) < 0);omega),if_neg (by show ¬ (4:Int) = 1;decide),if_neg (by show ¬ (4:Int) = 2;decide),if_neg (by show ¬ (4:Int) = 3;decide),if_pos rfl]
 simp only [toNat_cast,hd]
 rw [if_pos h3]
theorem form_lower {j n:Nat} {p:Af} {m:Lm} (hp:s.q.g.us[j]? = some p) (hn:0 < n) (hm:s.lems[n - 1]? = some m) (hu:m.unit = (j:Int)) (hup:m.up = false) :
  formM s ⟨11,(j:Int),(n:Int),0⟩ = (fSub p (fN m.v.q),true):=
 form_unit (by decide) hp (by
  unfold unitF
  rw [if_neg (by simp),if_neg (by simp),if_neg (by simp),if_neg (by simp),if_neg (by simp),if_neg (by simp),if_pos rfl]
  unfold lowB lowQ
  simp only [lem_at hn hm hu hup]
  simp)
theorem form_on0 {j:Nat} {p:Af} (hp:s.q.g.us[j]? = some p) (hd:decM s.path 1 (j:Int) = true):formM s ⟨8,(j:Int),0,0⟩ = (fSub p (fV (s.q.g.inp + j)),true):=
 form_unit (by decide) hp (by
  unfold unitF
  rw [if_neg (by simp),if_neg (by simp),if_neg (by simp),if_pos rfl]
  unfold onB
  simp only [hd]
  simp)
theorem form_off0 {j:Nat} {p:Af} (hp:s.q.g.us[j]? = some p) (hd:decM s.path 2 (j:Int) = true):formM s ⟨10,(j:Int),0,0⟩ = (fSc (fV (s.q.g.inp + j)) ((-1:Int):Rat),true):=
 form_unit (by decide) hp (by
  unfold unitF
  rw [if_neg (by simp),if_neg (by simp),if_neg (by simp),if_neg (by simp),if_neg (by simp),if_pos rfl]
  unfold offB
  simp only [hd]
  simp)
end
structure SB (B:Nat) (s:Sc):Prop where
 q:QOk s.q
 d:∀ d∈s.path,DOk 200 s.q d
 pl:s.path.length≤100
 B:∀ m∈s.lems,Fq m.v B
 ll:s.lems.length≤1000
structure BvOk (s:Sc) (B v:Nat) (up:Bool) (b:Qr) (l:List Mu):Prop where
 step:StepOk s (4 * B + 12) l
 fq:Fq b (B + 201)
 co:∀ w,W (coR s w) l = if v = w then (if up = true then -1 else 1) else 0
 wc:W (rowC s) l = if up = true then b.q else -b.q
theorem one1_step {s:Sc} {r:Rw} {B:Nat} (h:(formM s r).2 = true):StepOk s (4 * B + 12) (one1 r):=
 ⟨(one_step (B:=B) h).ok,(one_step (B:=B) h).pos,(one_step (B:=B) h).bd.mono (by omega),by simp [one1]⟩
theorem one1_W (φ:Rw→Rat) (r:Rw):W φ (one1 r) = φ r:=by unfold one1;simp only [W,qOf_q,p1];grind
theorem ite_sub {v w:Nat}:(if v = w then (1:Rat) else 0) - 0 = if v = w then 1 else 0:=by split <;> grind
structure InpOk (s:Sc) (i:Nat) (up:Bool) (n:Nat) (b:Rat × Rw):Prop where
 ok:(formM s b.2).2 = true
 hb:Hb b.1 200
 co:∀ w,coR s w b.2 = if i = w then (if up = true then -1 else 1) else 0
 wc:rowC s b.2 = if up = true then b.1 else -b.1
theorem inp_ok {B:Nat} {s:Sc} (hs:SB B s) {i:Nat} (hi:i < s.q.g.inp) (up:Bool):∀ n,n≤s.path.length→InpOk s i up n (inpN s i up n)
 | 0,_=>by
  have hl:=hs.q.r.lo;have hh:=hs.q.r.hi
  obtain ⟨a,ha⟩:∃ a,s.q.r.lo[i]? = some a:=⟨_,List.getElem?_eq_getElem (by omega)⟩
  obtain ⟨c,hc⟩:∃ c,s.q.r.hi[i]? = some c:=⟨_,List.getElem?_eq_getElem (by omega)⟩
  obtain ⟨h1,h2,_⟩:=hs.q.r.bd i a c ha hc
  show InpOk s i up 0 (inp0 s i up)
  unfold inp0
  cases up
  ·rw [if_neg (by decide),ha]
   have hf:=form_lo ha
   refine ⟨?_,h1.mono (by omega),fun w=>?_,?_⟩
   ·show (formM s ⟨1,(i:Int),0,0⟩).2 = true
    rw [hf]
   ·show co (formM s ⟨1,(i:Int),0,0⟩).1.ts w = _
    rw [hf,co_sub (can_v _) (can_n _),co_v,co_n];split <;> (try simp) <;> (try grind)
   ·show (formM s ⟨1,(i:Int),0,0⟩).1.c = -a
    rw [hf]
    show 0 + a * ((-1:Int):Rat) = -a
    rw [m1];grind
  ·rw [if_pos rfl,hc]
   have hf:=form_hi hc
   refine ⟨?_,h2.mono (by omega),fun w=>?_,?_⟩
   ·show (formM s ⟨2,(i:Int),0,0⟩).2 = true
    rw [hf]
   ·show co (formM s ⟨2,(i:Int),0,0⟩).1.ts w = _
    rw [hf,co_sub (can_n _) (can_v _),co_v,co_n];split <;> (try simp) <;> (try grind)
   ·show (formM s ⟨2,(i:Int),0,0⟩).1.c = c
    rw [hf]
    show c + 0 * ((-1:Int):Rat) = c
    grind
 | n + 1,hn=>by
  have ih:=inp_ok hs hi up n (by omega)
  obtain ⟨d,hd⟩:∃ d,s.path[n]? = some d:=⟨_,List.getElem?_eq_getElem (by omega)⟩
  have hok:=hs.d d (List.mem_of_getElem? hd)
  rw [inpN_succ hd]
  by_cases hc:d.kind = (if up = true then 4 else 3)∧d.idx = i∧(if up = true then d.pt < (inpN s i up n).1 else (inpN s i up n).1 < d.pt)
  ·have e:inpS up i (inpN s i up n) n d = (d.pt,⟨4,(n:Int),0,0⟩):=if_pos hc
   rw [e]
   obtain ⟨hk,hx,_⟩:=hc
   have h3:3≤d.kind:=by rw [hk];split <;> omega
   have hf:=form_path hd h3
   refine ⟨?_,hok.2,fun w=>?_,?_⟩
   ·show (formM s ⟨4,(n:Int),0,0⟩).2 = true
    rw [hf]
   ·show co (formM s ⟨4,(n:Int),0,0⟩).1.ts w = _
    rw [hf]
    show co (pathF d).ts w = _
    unfold pathF
    cases up
    ·rw [if_pos (by simpa using hk),co_sub (can_v _) (can_n _),co_v,co_n,hx];split <;> (try simp) <;> (try grind)
    ·rw [if_neg (by simp at hk;omega),co_fsc (can_sub (can_v _)),co_sub (can_v _) (can_n _),co_v,co_n,hx,m1];split <;> (try simp) <;> (try grind)
   ·show (formM s ⟨4,(n:Int),0,0⟩).1.c = _
    rw [hf]
    show (pathF d).c = _
    unfold pathF
    cases up
    ·rw [if_pos (by simpa using hk)]
     show 0 + d.pt * ((-1:Int):Rat) = -d.pt
     rw [m1];grind
    ·rw [if_neg (by simp at hk;omega)]
     show (0 + d.pt * ((-1:Int):Rat)) * ((-1:Int):Rat) = d.pt
     rw [m1];grind
  ·have e:inpS up i (inpN s i up n) n d = inpN s i up n:=if_neg hc
   rw [e];exact ⟨ih.ok,ih.hb,ih.co,ih.wc⟩
theorem low_ok {B:Nat} {s:Sc} (hs:SB B s) {j:Nat} (hj:j < s.q.g.us.length):BvOk s B (s.q.g.inp + j) false (lowM s j).1 (lowM s j).2:=by
 obtain ⟨p,hp⟩:∃ p,s.q.g.us[j]? = some p:=⟨_,List.getElem?_eq_getElem hj⟩
 have hpc:=(hs.q.g.us j p hp).can
 unfold lowM
 split
 ·rename_i h
  obtain ⟨y,hy,yu,yp,hly,hy0,hyl⟩:=best_lo h.1
  haveI:=hs.B y (List.mem_of_getElem? hy)
  have f1:=form_above hp
  have f2:=form_lower hp hy0 hy yu yp
  simp only [lvr_get hy]
  refine ⟨⟨fun m hm=>?_,fun m hm=>?_,fun m hm=>?_,by simp⟩,(inferInstance:Fq y.v B).mono (by omega),fun w=>?_,?_⟩
  ·simp at hm
   rcases hm with rfl | rfl
   ·rw [f1]
   ·rw [f2]
  ·simp at hm
   rcases hm with rfl | rfl <;> rw [qOf_q] <;> decide
  ·simp only [List.mem_cons,List.not_mem_nil,or_false] at hm
   rcases hm with rfl | rfl <;> exact Fq.of.mono (by omega)
  ·simp only [W,coR,f1,f2,qOf_q,p1]
   rw [co_sub (can_v _) hpc,co_sub hpc (can_n _),co_v,co_n]
   simp;split <;> grind
  ·simp only [W,rowC,f1,f2,qOf_q,p1,fSub,fV,fN,m1]
   simp;grind
 ·have f1:=form_zero hp
  refine ⟨one1_step (by rw [f1]),⟨qZero_fit⟩,fun w=>?_,?_⟩
  ·rw [one1_W];simp only [coR,f1,co_v];simp
  ·rw [one1_W];simp only [rowC,f1,fV,qZero_q];simp
theorem high_ok {B:Nat} {s:Sc} (hs:SB B s) {j:Nat} (hj:j < s.q.g.us.length) {b:Qr} {l:List Mu} (h:highM s j = some (b,l)):BvOk s B (s.q.g.inp + j) true b l:=by
 obtain ⟨p,hp⟩:∃ p,s.q.g.us[j]? = some p:=⟨_,List.getElem?_eq_getElem hj⟩
 have hpc:=(hs.q.g.us j p hp).can
 unfold highM at h
 split at h
 ·rename_i hoff
  cases h
  have f1:formM s ⟨10,(j:Int),0,if decF s j = true then 0 else (bHi s j:Int)⟩ = (fSc (fV (s.q.g.inp + j)) ((-1:Int):Rat),true):=by
   split
   ·rename_i hd;exact form_off0 hp hd
   ·rename_i hd
    rcases hoff with h1 | h1
    ·exact absurd h1 hd
    ·obtain ⟨z,hz,zu,zp,hlz,hz0,hzl⟩:=best_hi h1.1
     exact form_off hp hz0 hz zu zp (by rw [← hlz];exact h1.2)
  refine ⟨one1_step (by rw [f1]),⟨qZero_fit⟩,fun w=>?_,?_⟩
  ·rw [one1_W];simp only [coR,f1];rw [co_fsc (can_v _),co_v,m1];simp;split <;> grind
  ·rw [one1_W];simp only [rowC,f1,fSc,fV,qZero_q,m1];simp
 ·rename_i hoff
  split at h
  ·cases h
  ·rename_i hh
   obtain ⟨z,hz,zu,zp,hlz,hz0,hzl⟩:=best_hi hh
   haveI:=hs.B z (List.mem_of_getElem? hz)
   have f2:=form_up hp hz0 hz zu zp
   have hu:0 < z.v.q:=by
    have:¬ z.v.q≤0:=fun e=>hoff (.inr ⟨hh,by rw [hlz];exact e⟩)
    grind
   split at h
   ·rename_i hon
    simp only [Option.some.injEq,Prod.mk.injEq] at h
    obtain ⟨rfl,rfl⟩:=h
    have f1:formM s ⟨8,(j:Int),if decO s j = true then 0 else (bLo s j:Int),0⟩ = (fSub p (fV (s.q.g.inp + j)),true):=by
     split
     ·rename_i hd;exact form_on0 hp hd
     ·rename_i hd
      rcases hon with h1 | h1
      ·exact absurd h1 hd
      ·obtain ⟨y,hy,yu,yp,hly,hy0,hyl⟩:=best_lo h1.1
       exact form_on hp hy0 hy yu yp (by rw [← hly];exact h1.2)
    rw [lvr_get hz]
    refine ⟨⟨fun m hm=>?_,fun m hm=>?_,fun m hm=>?_,by simp⟩,(inferInstance:Fq z.v B).mono (by omega),fun w=>?_,?_⟩
    ·simp at hm
     rcases hm with rfl | rfl
     ·simp only [f1]
     ·rw [f2]
    ·simp at hm
     rcases hm with rfl | rfl <;> rw [qOf_q] <;> decide
    ·simp only [List.mem_cons,List.not_mem_nil,or_false] at hm
     rcases hm with rfl | rfl <;> exact Fq.of.mono (by omega)
    ·simp only [W,coR,f1,f2,qOf_q,p1]
     rw [co_sub hpc (can_v _),co_sub (can_n _) hpc,co_v,co_n]
     simp;split <;> grind
    ·simp only [W,rowC,f1,f2,qOf_q,p1,fSub,fV,fN,m1]
     simp;grind
   ·rename_i hon
    split at h
    ·cases h
    ·rename_i hl
     obtain ⟨y,hy,yu,yp,hly,hy0,hyl⟩:=best_lo hl
     haveI:=hs.B y (List.mem_of_getElem? hy)
     have hl0:y.v.q < 0:=by
      have:¬ 0≤y.v.q:=fun e=>hon (.inr ⟨hl,by rw [hly];exact e⟩)
      grind
     have f3:=form_tri hp hy0 hy yu yp hz0 hz zu zp hl0 hu
     simp only [Option.some.injEq,Prod.mk.injEq] at h
     obtain ⟨rfl,rfl⟩:=h
     rw [lvr_get hz,hlz,hly]
     have h2:0 < z.v.q - y.v.q:=by grind
     have h3:0 < ((1:Int):Rat) / (z.v.q - y.v.q):=by
      rw [Rat.div_def]
      exact Rat.mul_pos (by decide) (Rat.inv_pos.2 h2)
     have h4:(z.v.q - y.v.q) * (((1:Int):Rat) / (z.v.q - y.v.q)) = 1:=by
      rw [Rat.div_def,p1,Rat.one_mul];exact Rat.mul_inv_cancel _ (by grind)
     refine ⟨⟨fun m hm=>?_,fun m hm=>?_,fun m hm=>?_,by simp⟩,(inferInstance:Fq z.v B).mono (by omega),fun w=>?_,?_⟩
     ·simp at hm
      rcases hm with rfl | rfl
      ·rw [f2]
      ·rw [f3]
     ·simp only [List.mem_cons,List.not_mem_nil,or_false] at hm
      rcases hm with rfl | rfl
      ·show 0 < (qOf _).q
       rw [qOf_q];exact Rat.mul_pos hu h3
      ·show 0 < (qOf _).q
       rw [qOf_q];exact h3
     ·simp only [List.mem_cons,List.not_mem_nil,or_false] at hm
      rcases hm with rfl | rfl <;> exact Fq.of.mono (by omega)
     ·simp only [W,coR,f2,f3,qOf_q]
      rw [co_sub (can_n _) hpc,co_sub (can_sc (can_sub hpc)) (can_sc (can_v _)),co_fsc (can_sub hpc),co_sub hpc (can_n _),co_fsc (can_v _),co_v,co_n,co_n]
      simp only [if_true]
      generalize ((1:Int):Rat) / (z.v.q - y.v.q) = t at *
      split <;> grind
     ·simp only [W,rowC,f2,f3,qOf_q,fSub,fSc,fV,fN,m1,if_true]
      generalize ((1:Int):Rat) / (z.v.q - y.v.q) = t at *
      grind
theorem bnd_ok {B:Nat} {s:Sc} (hs:SB B s) {v:Nat} (hv:v < s.q.g.inp + s.q.g.us.length) {up:Bool} {b:Qr} {l:List Mu} (h:bndM s v up = some (b,l)):BvOk s B v up b l:=by
 unfold bndM at h
 split at h
 ·rename_i hi
  simp only [Option.some.injEq,Prod.mk.injEq] at h
  obtain ⟨rfl,rfl⟩:=h
  have hok:=inp_ok hs hi up s.path.length (Nat.le_refl _)
  haveI:Br (inpM s v up).1 201:=hok.hb.br
  exact ⟨one1_step hok.ok,Fq.of.mono (by omega),fun w=>by rw [one1_W];exact hok.co w,by rw [one1_W,qOf_q];exact hok.wc⟩
 ·rename_i hi
  have e:v = s.q.g.inp + (v - s.q.g.inp):=by omega
  split at h
  ·rename_i hu
   subst hu
   have:=high_ok hs (j:=v - s.q.g.inp) (by omega) h
   rwa [← e] at this
  ·rename_i hu
   simp only [Option.some.injEq] at h
   have:=low_ok hs (j:=v - s.q.g.inp) (by omega)
   rw [h,← e] at this
   have hu:up = false:=by simpa using hu
   subst hu;exact this
structure BoxOk (s:Sc) (B F:Nat) (f:Af) (ts:List Tm) (x:Rat) (l:List Mu):Prop where
 der:DerOk s (ts.length * (8 * B + 2 * F + 40)) (2 * ts.length) l
 co:∀ w,W (coR s w) l = coS w ts
 wc:W (rowC s) l = f.c - x
 br:Br x (F + ts.length * (B + F + 210))
theorem abs_cases (c:Rat):(c < 0→rq false (cnum c) (cden c) = -c)∧(¬ c < 0→rq false (cnum c) (cden c) = c):=by
 rw [abs_eq];exact ⟨fun h=>if_pos h,fun h=>if_neg h⟩
theorem coS_snoc (w:Nat) (t:Tm):∀ ts:List Tm,coS w (ts ++ [t]) = coS w ts + if t.1 = w then t.2 else 0
 | []=>by simp only [List.nil_append,coS];grind
 | x :: ts=>by simp only [List.cons_append,coS,coS_snoc w t ts];grind
theorem box_step {B F:Nat} {s:Sc} (hs:SB B s) {f:Af} {ts:List Tm} {t:Tm} {x:Rat} {l:List Mu} (hv:t.1 < s.q.g.inp + s.q.g.us.length) (ht:Br t.2 F) (h:BoxOk s B F f ts x l) {c:Qr} {m:List Mu}
  (hb:bndM s t.1 (decide (t.2 < 0)) = some (c,m)):BoxOk s B F f (ts ++ [t]) (x + t.2 * c.q) (mergeM l m (rq false (cnum t.2) (cden t.2))):=by
 have hk:=bnd_ok hs hv hb
 have hd:=h.der
 have hm:=hk.step
 obtain ⟨a1,a2⟩:=abs_cases t.2
 refine ⟨⟨mergeM_ok (P:=fun r=>(formM s r).2 = true) hd.ok hm.ok,mergeM_can (abs_nonneg _) hd.can hm.pos,(mergeM_bd hd.bd hm.bd).mono ?_,?_⟩,fun w=>?_,?_,?_⟩
 ·have:=Nat.mul_le_mul_right (4 * B + 12 + (F + 1) + 2) hm.len
  simp only [List.length_append,List.length_singleton,Nat.add_mul,Nat.one_mul];omega
 ·have:=mergeM_len m l (rq false (cnum t.2) (cden t.2));have:=hd.len;have:=hm.len
  simp only [List.length_append,List.length_singleton];omega
 ·rw [W_merge,h.co w,hk.co w,coS_snoc]
  by_cases hn:t.2 < 0
  ·rw [a1 hn,decide_eq_true hn];simp only [if_true];split <;> grind
  ·rw [a2 hn,decide_eq_false hn];simp;split <;> grind
 ·rw [W_merge,h.wc,hk.wc]
  by_cases hn:t.2 < 0
  ·rw [a1 hn,decide_eq_true hn];simp only [if_true];grind
  ·rw [a2 hn,decide_eq_false hn];simp;grind
 ·haveI:=h.br;haveI:=hk.fq
  refine (inferInstance:Br (x + t.2 * c.q) _).mono ?_
  simp only [List.length_append,List.length_singleton,Nat.add_mul,Nat.one_mul];omega
theorem box_ok {B F:Nat} {s:Sc} (hs:SB B s) {f:Af} (hf:FL F (s.q.g.inp + s.q.g.us.length) f):∀ n,n≤f.ts.length→∀ x l,boxN s f n = some (x,l)→BoxOk s B F f (f.ts.take n) x l
 | 0,_,x,l,h=>by
  simp only [boxN,List.take_zero,List.foldl_nil,Option.some.injEq,Prod.mk.injEq] at h
  obtain ⟨rfl,rfl⟩:=h
  refine ⟨⟨fun m hm=>by simp at hm,trivial,fun m hm=>by simp at hm,by simp⟩,fun w=>rfl,?_,hf.cb.mono (by omega)⟩
  show (0:Rat) = _
  grind
 | n + 1,hn,x,l,h=>by
  obtain ⟨t,ht⟩:∃ t,f.ts[n]? = some t:=⟨_,List.getElem?_eq_getElem (by omega)⟩
  have htm:=List.mem_of_getElem? ht
  rw [boxN_succ ht] at h
  rw [take_snoc ht]
  cases ho:boxN s f n with
  | none=>rw [ho] at h;simp [boxT] at h
  | some a=>
   obtain ⟨x0,l0⟩:=a
   rw [ho] at h
   have ih:=box_ok hs hf n (by omega) x0 l0 ho
   unfold boxT at h
   simp only at h
   cases hbn:bndM s t.1 (decide (t.2 < 0)) with
   | none=>rw [hbn] at h;simp at h
   | some a=>
    obtain ⟨c,m⟩:=a
    rw [hbn] at h
    simp only [Option.some.injEq,Prod.mk.injEq] at h
    obtain ⟨rfl,rfl⟩:=h
    exact box_step hs (hf.var t htm) (hf.bd t htm) ih hbn
end Rc
set_option linter.unusedSimpArgs false
set_option linter.unusedVariables false
namespace Rc
open Go Go.RowKit
end Rc
set_option linter.unusedSimpArgs false
set_option linter.unusedVariables false
namespace Rc
open Go Go.RowKit
end Rc
set_option linter.unusedSimpArgs false
set_option linter.unusedVariables false
namespace Rc
open Go Go.RowKit
theorem SOk.sb {s:Sc} (h:SOk s):SB 40001 s:=⟨h.q,h.d,h.pl,h.B,by have:=h.ll;omega⟩
theorem af_ext {f g:Af} (h1:f.ts = g.ts) (h2:f.c = g.c):f = g:=by cases f;cases g;simp at *;exact ⟨h1,h2⟩
theorem sum_coB {B:Nat} {s:Sc} (hs:SB B s) {v:Nat}:∀ (l:List Mu) (a:Af),CanT a.ts→CanT (l.foldl (fun a m=>fAdd a (fSc (formM s m.r).1 m.c.q)) a).ts∧co (l.foldl (fun a m=>fAdd a (fSc (formM s m.r).1 m.c.q)) a).ts v = co a.ts v + W (coR s v) l
 | [],a,h=>⟨h,by simp only [List.foldl_nil,W];grind⟩
 | m :: l,a,h=>by
  have hc:=(formM_fl (r:=m.r) hs.q hs.d hs.B).can
  obtain ⟨i1,i2⟩:=sum_coB hs (v:=v) l (fAdd a (fSc (formM s m.r).1 m.c.q)) (sumT_can h)
  refine ⟨i1,?_⟩
  rw [List.foldl_cons,i2,co_add h (can_sc hc),co_fsc hc]
  simp only [W,coR];grind
def DerOf (s:Sc) (f:Af) (x:Rat) (l:List Mu):Prop:=sumM s l = fSub f (fN x)
theorem der_of {B:Nat} {s:Sc} (hs:SB B s) {f:Af} {x:Rat} {l:List Mu} (hf:CanT f.ts) (h1:∀ w,W (coR s w) l = co f.ts w) (h2:W (rowC s) l = f.c - x):DerOf s f x l:=by
 refine af_ext (co_ext (sum_coB hs (v:=0) l fZ trivial).1 (can_sub hf) (fun w=>?_)) ?_
 ·have:=(sum_coB hs (v:=w) l fZ trivial).2
  rw [show (sumM s l).ts = (l.foldl (fun a m=>fAdd a (fSc (formM s m.r).1 m.c.q)) fZ).ts from rfl,this,h1,co_sub hf (can_n _),co_n]
  show (0:Rat) + _ = _
  grind
 ·rw [sumM_c,h2]
  show _ = f.c + x * ((-1:Int):Rat)
  rw [m1];grind
theorem boxO_all {B F:Nat} {s:Sc} (hs:SB B s) {f:Af} (hf:FL F (s.q.g.inp + s.q.g.us.length) f) {x:Rat} {l:List Mu} (h:boxO s f = some (x,l)):BoxOk s B F f f.ts x l:=by
 have:=box_ok hs hf f.ts.length (Nat.le_refl _) x l h
 rwa [List.take_length] at this
theorem FL.len7 {F:Nat} {s:Sc} (hq:QOk s.q) {f:Af} (hf:FL F (s.q.g.inp + s.q.g.us.length) f):f.ts.length≤7:=by
 have:=hq.g.i3;have:=hq.g.u4
 have:=(hf.fm (by omega)).len;have:=hq.g.i3;have:=hq.g.u4;omega
structure Bnd (s:Sc) (B F:Nat) (f:Af) (x:Rat) (l:List Mu):Prop where
 der:DerOk s (7 * (8 * B + 2 * F + 40)) 14 l
 sum:DerOf s f x l
 br:Br x (F + 7 * (B + F + 210))
theorem box_bnd {B F:Nat} {s:Sc} (hs:SB B s) {f:Af} (hf:FL F (s.q.g.inp + s.q.g.us.length) f) {x:Rat} {l:List Mu} (h:boxO s f = some (x,l)):Bnd s B F f x l:=by
 have h1:=boxO_all hs hf h
 have h7:=hf.len7 hs.q
 have h8:=Nat.mul_le_mul_right (8 * B + 2 * F + 40) h7
 have h9:=Nat.mul_le_mul_right (B + F + 210) h7
 exact ⟨⟨h1.der.ok,h1.der.can,h1.der.bd.mono h8,Nat.le_trans h1.der.len (by omega)⟩,der_of hs hf.can (fun w=>by rw [h1.co w,coS_co hf.can]) h1.wc,h1.br.mono (by omega)⟩
theorem boxD_der {B F:Nat} {s:Sc} (hs:SB B s) {f:Af} (hf:FL F (s.q.g.inp + s.q.g.us.length) f):DerOk s (7 * (8 * B + 2 * F + 40)) 14 (boxD s f).2.1:=by
 cases h:boxO s f with
 | none=>rw [boxD_none h];exact ⟨fun m hm=>by simp at hm,trivial,fun m hm=>by simp at hm,by simp⟩
 | some a=>obtain ⟨x,l⟩:=a;rw [boxD_some h];exact (box_bnd hs hf h).der
def wgB (inp v:Nat):Nat:=if v < inp then 204 else KB (v - inp) + 4
def wB (inp:Nat):Nat→Nat
 | 0=>0
 | n + 1=>wB inp n + wgB inp n
theorem wB_mono (inp:Nat) {a b:Nat} (h:a≤b):wB inp a≤wB inp b:=by
 induction b with
 | zero=>
      have:a = 0:=by omega
      subst this;exact Nat.le_refl _
 | succ b ih=>
  by_cases e:a = b + 1
  ·subst e;exact Nat.le_refl _
  ·have:=ih (by omega);simp only [wB];omega
theorem wB_inp (inp:Nat):∀ n,n≤inp→wB inp n = 204 * n
 | 0,_=>rfl
 | n + 1,h=>by have:=wB_inp inp n (by omega);simp only [wB,wgB,this];rw [if_pos (by omega)];omega
theorem wB_unit (inp:Nat):∀ j,wB inp (inp + j) + 5000 = 204 * inp + 4 * j + 5000 * 2 ^ j
 | 0=>by
  have:=wB_inp inp inp (Nat.le_refl _)
  show wB inp inp + 5000 = _
  omega
 | j + 1=>by
  have:=wB_unit inp j
  show wB inp (inp + j) + wgB inp (inp + j) + 5000 = _
  unfold wgB KB
  rw [if_neg (by omega),show inp + j - inp = j by omega,Nat.pow_succ]
  omega
theorem bnd_hb {s:Sc} (hs:SOk s) {v:Nat} (hv:v < s.q.g.inp + s.q.g.us.length) {up:Bool} {b:Qr} {l:List Mu} (h:bndM s v up = some (b,l)):Hb b.q (wgB s.q.g.inp v - 4):=by
 have lvh:∀ {n:Nat} {m:Lm},s.lems[n - 1]? = some m→m.unit = ((v - s.q.g.inp:Nat):Int)→Hb (lvr s.lems n).q (KB (v - s.q.g.inp)):=fun {n m} hm hu=>by
  rw [lvr_get hm]
  have:=(hs.l m (List.mem_of_getElem? hm)).hb
  rw [hu] at this;exact this
 unfold bndM at h
 unfold wgB
 split at h
 ·rename_i hi
  simp only [Option.some.injEq,Prod.mk.injEq] at h
  obtain ⟨rfl,rfl⟩:=h
  rw [if_pos hi,qOf_q]
  exact (inp_ok hs.sb hi up s.path.length (Nat.le_refl _)).hb
 ·rename_i hi
  rw [if_neg hi,Nat.add_sub_cancel]
  split at h
  ·unfold highM at h
   split at h
   ·cases h;rw [qZero_q];exact Hb.z
   ·split at h
    ·cases h
    ·rename_i hh
     obtain ⟨z,hz,zu,_⟩:=best_hi hh
     split at h
     ·simp only [Option.some.injEq,Prod.mk.injEq] at h
      rw [← h.1];exact lvh hz zu
     ·split at h
      ·cases h
      ·simp only [Option.some.injEq,Prod.mk.injEq] at h
       rw [← h.1];exact lvh hz zu
  ·simp only [Option.some.injEq] at h
   unfold lowM at h
   split at h
   ·rename_i hl
    obtain ⟨y,hy,yu,_⟩:=best_lo hl.1
    simp only [Prod.mk.injEq] at h
    rw [← h.1];exact lvh hy yu
   ·simp only [Prod.mk.injEq] at h
    rw [← h.1,qZero_q];exact Hb.z
def lastV (ts:List Tm) (n:Nat):Nat:=match n with | 0=>0 | k + 1=>match ts[k]? with | some t=>t.1 + 1 | none=>0
theorem box_hb {s:Sc} (hs:SOk s) {f:Af} {m:Nat} (hm:m≤s.q.g.inp + s.q.g.us.length) (hf:FOk 3 m f):∀ n,n≤f.ts.length→∀ x l,boxN s f n = some (x,l)→Hb x (4 + wB s.q.g.inp (lastV f.ts n))
 | 0,_,x,l,h=>by
  simp only [boxN,List.take_zero,List.foldl_nil,Option.some.injEq,Prod.mk.injEq] at h
  obtain ⟨rfl,rfl⟩:=h
  exact hf.cb.mono (by omega)
 | n + 1,hn,x,l,h=>by
  obtain ⟨t,ht⟩:∃ t,f.ts[n]? = some t:=⟨_,List.getElem?_eq_getElem (by omega)⟩
  have htm:=List.mem_of_getElem? ht
  rw [boxN_succ ht] at h
  cases ho:boxN s f n with
  | none=>rw [ho] at h;simp [boxT] at h
  | some a=>
   obtain ⟨x0,l0⟩:=a
   rw [ho] at h
   have ih:=box_hb hs hm hf n (by omega) x0 l0 ho
   unfold boxT at h
   simp only at h
   cases hbn:bndM s t.1 (decide (t.2 < 0)) with
   | none=>rw [hbn] at h;simp at h
   | some a=>
    obtain ⟨c,k⟩:=a
    rw [hbn] at h
    simp only [Option.some.injEq,Prod.mk.injEq] at h
    obtain ⟨rfl,rfl⟩:=h
    have hv:=hf.var t htm
    haveI:=ih
    haveI:=bnd_hb hs (Nat.lt_of_lt_of_le hv hm) hbn
    haveI:=hf.bd t htm
    have hw:lastV f.ts n≤t.1:=by
     cases n with
     | zero=>exact Nat.zero_le _
     | succ k=>
      obtain ⟨y,hy⟩:∃ y,f.ts[k]? = some y:=⟨_,List.getElem?_eq_getElem (by omega)⟩
      simp only [lastV,hy]
      exact hf.can.prev (by omega) ht hy
    have h1:=wB_mono s.q.g.inp hw
    have h2:4≤wgB s.q.g.inp t.1:=by unfold wgB;split <;> omega
    have h3:lastV f.ts (n + 1) = t.1 + 1:=by simp only [lastV,ht]
    rw [h3]
    refine (inferInstance:Hb (x0 + t.2 * c.q) _).mono ?_
    simp only [wB];omega
theorem boxD_ok:DomOk boxD:=by
 intro s hs j f hj hf hb
 cases ho:boxO s f with
 | none=>rw [boxD_none ho] at hb;simp at hb
 | some a=>
  obtain ⟨x,l⟩:=a
  rw [boxD_some ho]
  have h:=box_hb hs (m:=s.q.g.inp + j) (by omega) hf f.ts.length (Nat.le_refl _) x l ho
  refine h.mono ?_
  have h1:lastV f.ts f.ts.length≤s.q.g.inp + j:=by
   unfold lastV
   split
   ·exact Nat.zero_le _
   ·rename_i k hk
    obtain ⟨t,ht⟩:∃ t,f.ts[k]? = some t:=⟨_,List.getElem?_eq_getElem (by omega)⟩
    rw [ht]
    exact hf.var t (List.mem_of_getElem? ht)
  have h2:=wB_mono s.q.g.inp h1
  have h3:=wB_unit s.q.g.inp j
  have h4:=hs.q.g.i3;have h5:=hs.q.g.u4
  unfold KB
  have:=Nat.one_le_two_pow (n:=j)
  omega
end Rc
set_option linter.unusedSimpArgs false
set_option linter.unusedVariables false
namespace Rc
open Go Go.RowKit
end Rc
set_option linter.unusedSimpArgs false
set_option linter.unusedVariables false
namespace Rc
open Go Go.RowKit
def boE:El Bool:=⟨fun b=>[Leaf.val (.bool b)],1,fun _=>rfl,fun _=>rfl⟩
@[reducible] def vwL (s:Sc):List Leaf:=[Leaf.val (.int .i64 (s.q.g.inp:Int)),afE.row s.q.g.us,afE.row s.q.g.os,ratE.row s.q.r.lo,ratE.row s.q.r.hi,afE.row s.q.r.rows,tmE.row s.q.goal.ts,Leaf.val (.bool (cneg s.q.goal.c)),natL (limbs (cnum s.q.goal.c)),natL (limbs (cden s.q.goal.c)),dcE.row s.path,lmE.row s.lems,boE.row (List.replicate s.path.length true)]
@[reducible] def vwV (s:Sc):V:=V.one (Leaf.rep (ptrRep (vwL s)))
theorem rep_get {n i:Nat} (h:i < n):(List.replicate n true)[i]? = some true:=by rw [List.getElem?_replicate,if_pos h]
theorem rep_snoc (n:Nat):List.replicate n true ++ [true] = List.replicate (n + 1) true:=by rw [← List.replicate_succ']
theorem lvr_q (l:List Lm) (n:Nat):(lvr l n).q = lv l n:=by
 unfold lvr lv;split <;> rename_i h
 ·rw [h]
 ·rw [h];exact qZero_q
theorem lvr_fq {B:Nat} {l:List Lm} (h:∀ m∈l,Fq m.v B) (n:Nat):Fq (lvr l n) B:=by
 unfold lvr;split
 ·rename_i m hm;exact h m (List.mem_of_getElem? hm)
 ·exact ⟨qZero_fit⟩
def highP (s:Sc) (j:Nat):Qr × List Mu × Bool:=match highM s j with | some (b,l)=>(b,l,true) | none=>(qZero,[],false)
def bndP (s:Sc) (v:Nat) (up:Bool):Qr × List Mu × Bool:=match bndM s v up with | some (b,l)=>(b,l,true) | none=>(qZero,[],false)
def hiOff (s:Sc) (j:Nat):Bool:=decF s j || (decide (bHi s j≠0) && decide (lv s.lems (bHi s j)≤0))
def hiOn (s:Sc) (j:Nat):Bool:=decO s j || (decide (bLo s j≠0) && decide (0≤lv s.lems (bLo s j)))
theorem hiOff_iff {s:Sc} {j:Nat}:hiOff s j = true↔(decF s j = true ∨ (bHi s j≠0∧lv s.lems (bHi s j)≤0)):=by
 unfold hiOff;rw [Bool.or_eq_true,Bool.and_eq_true,decide_eq_true_iff,decide_eq_true_iff]
theorem hiOn_iff {s:Sc} {j:Nat}:hiOn s j = true↔(decO s j = true ∨ (bLo s j≠0∧0≤lv s.lems (bLo s j))):=by
 unfold hiOn;rw [Bool.or_eq_true,Bool.and_eq_true,decide_eq_true_iff,decide_eq_true_iff]
section
variable {s:Sc} {j:Nat}
@[reducible] def offRow (s:Sc) (j:Nat):Rw:=⟨10,(j:Int),0,if decF s j = true then 0 else (bHi s j:Int)⟩
@[reducible] def onRow (s:Sc) (j:Nat):Rw:=⟨8,(j:Int),if decO s j = true then 0 else (bLo s j:Int),0⟩
theorem offRow_t (h:decF s j = true):offRow s j = ⟨10,(j:Int),0,0⟩:=by unfold offRow;rw [if_pos h]
theorem offRow_f (h:decF s j = false):offRow s j = ⟨10,(j:Int),0,(bHi s j:Int)⟩:=by unfold offRow;rw [if_neg (by rw [h];decide)]
theorem onRow_t (h:decO s j = true):onRow s j = ⟨8,(j:Int),0,0⟩:=by unfold onRow;rw [if_pos h]
theorem onRow_f (h:decO s j = false):onRow s j = ⟨8,(j:Int),(bLo s j:Int),0⟩:=by unfold onRow;rw [if_neg (by rw [h];decide)]
theorem highM_off (h:hiOff s j = true):highM s j = some (qZero,one1 (offRow s j)):=by
 unfold highM;rw [if_pos (hiOff_iff.1 h)]
theorem highM_n1 (h:hiOff s j = false) (h1:bHi s j = 0):highM s j = none:=by
 unfold highM;rw [if_neg (fun e=>by rw [hiOff_iff.2 e] at h;cases h),if_pos h1]
theorem highM_on (h:hiOff s j = false) (h1:bHi s j≠0) (h2:hiOn s j = true):highM s j = some (lvr s.lems (bHi s j),[⟨onRow s j,qOf ((1:Int):Rat)⟩,⟨⟨12,(j:Int),0,(bHi s j:Int)⟩,qOf ((1:Int):Rat)⟩]):=by
 unfold highM;rw [if_neg (fun e=>by rw [hiOff_iff.2 e] at h;cases h),if_neg h1,if_pos (hiOn_iff.1 h2)]
theorem highM_n2 (h:hiOff s j = false) (h1:bHi s j≠0) (h2:hiOn s j = false) (h3:bLo s j = 0):highM s j = none:=by
 unfold highM;rw [if_neg (fun e=>by rw [hiOff_iff.2 e] at h;cases h),if_neg h1,if_neg (fun e=>by rw [hiOn_iff.2 e] at h2;cases h2),if_pos h3]
theorem highM_tri (h:hiOff s j = false) (h1:bHi s j≠0) (h2:hiOn s j = false) (h3:bLo s j≠0):highM s j = some (lvr s.lems (bHi s j),[⟨⟨12,(j:Int),0,(bHi s j:Int)⟩,qOf ((lvr s.lems (bHi s j)).q * (((1:Int):Rat) / ((lvr s.lems (bHi s j)).q - (lvr s.lems (bLo s j)).q)))⟩,⟨⟨13,(j:Int),(bLo s j:Int),(bHi s j:Int)⟩,qOf (((1:Int):Rat) / ((lvr s.lems (bHi s j)).q - (lvr s.lems (bLo s j)).q))⟩]):=by
 rw [lvr_q,lvr_q]
 unfold highM;rw [if_neg (fun e=>by rw [hiOff_iff.2 e] at h;cases h),if_neg h1,if_neg (fun e=>by rw [hiOn_iff.2 e] at h2;cases h2),if_neg h3]
theorem highP_some {b:Qr} {l:List Mu} (h:highM s j = some (b,l)):highP s j = (b,l,true):=by unfold highP;rw [h]
theorem highP_none (h:highM s j = none):highP s j = (qZero,[],false):=by unfold highP;rw [h]
theorem tri_ne (h:hiOff s j = false) (h1:bHi s j≠0) (h2:hiOn s j = false) (h3:bLo s j≠0):(lvr s.lems (bHi s j)).q - (lvr s.lems (bLo s j)).q≠0:=by
 rw [lvr_q,lvr_q]
 have a1:¬ lv s.lems (bHi s j)≤0:=fun e=>by rw [hiOff_iff.2 (.inr ⟨h1,e⟩)] at h;cases h
 have a2:¬ 0≤lv s.lems (bLo s j):=fun e=>by rw [hiOn_iff.2 (.inr ⟨h3,e⟩)] at h2;cases h2
 grind
theorem bndP_in {v:Nat} {up:Bool} (h:v < s.q.g.inp):bndP s v up = (qOf (inpM s v up).1,one1 (inpM s v up).2,true):=by unfold bndP bndM;rw [if_pos h]
theorem bndP_up {v:Nat} (h:¬ v < s.q.g.inp):bndP s v true = highP s (v - s.q.g.inp):=by unfold bndP bndM highP;rw [if_neg h,if_pos rfl]
theorem bndP_lo {v:Nat} (h:¬ v < s.q.g.inp):bndP s v false = ((lowM s (v - s.q.g.inp)).1,(lowM s (v - s.q.g.inp)).2,true):=by unfold bndP bndM;rw [if_neg h,if_neg (by decide)]
theorem bndP_t {v:Nat} {up:Bool} (h:(bndP s v up).2.2 = true):bndM s v up = some ((bndP s v up).1,(bndP s v up).2.1):=by
 unfold bndP at *;split at h
 ·rename_i b l e;rw [e]
 ·cases h
theorem bndP_f {v:Nat} {up:Bool} (h:(bndP s v up).2.2 = false):bndM s v up = none:=by
 unfold bndP at *;split at h
 ·cases h
 ·rename_i e;rw [e]
theorem lowM_t (h:bLo s j≠0∧0 < lv s.lems (bLo s j)):lowM s j = (lvr s.lems (bLo s j),[⟨⟨6,(j:Int),0,0⟩,qOf ((1:Int):Rat)⟩,⟨⟨11,(j:Int),(bLo s j:Int),0⟩,qOf ((1:Int):Rat)⟩]):=if_pos h
theorem lowM_f (h:¬ (bLo s j≠0∧0 < lv s.lems (bLo s j))):lowM s j = (qZero,one1 ⟨5,(j:Int),0,0⟩):=if_neg h
end
theorem inpN_t {s:Sc} {i n:Nat} {up:Bool} {d:Dc} (hd:s.path[n]? = some d) (h:d.kind = (if up = true then 4 else 3)∧d.idx = i∧(if up = true then d.pt < (inpN s i up n).1 else (inpN s i up n).1 < d.pt)):inpN s i up (n + 1) = (d.pt,⟨4,(n:Int),0,0⟩):=by rw [inpN_succ hd];exact if_pos h
theorem inpN_f {s:Sc} {i n:Nat} {up:Bool} {d:Dc} (hd:s.path[n]? = some d) (h:¬ (d.kind = (if up = true then 4 else 3)∧d.idx = i∧(if up = true then d.pt < (inpN s i up n).1 else (inpN s i up n).1 < d.pt))):inpN s i up (n + 1) = inpN s i up n:=by rw [inpN_succ hd];exact if_neg h
theorem inpN_hb {B:Nat} {s:Sc} (hs:SB B s) {i:Nat} (hi:i < s.q.g.inp) (up:Bool) {n:Nat} (hn:n≤s.path.length):Br (inpN s i up n).1 201:=(inp_ok hs hi up n hn).hb.br
@[reducible] def absM (c:Rat):Rat:=mx c (-c)
theorem absM_eq (c:Rat):absM c = rq false (cnum c) (cden c):=by
 obtain ⟨a1,a2⟩:=abs_cases c
 by_cases h:c < 0
 ·rw [a1 h];unfold absM mx;split <;> grind
 ·rw [a2 h];unfold absM mx;split <;> grind
def boxQ (s:Sc) (a:Option (Rat × List Mu)) (t:Tm):Option (Rat × List Mu):=
 match a with
 | none=>none
 | some (x,l)=>match bndM s t.1 (decide (t.2 < 0)) with
  | none=>none
  | some (b,m)=>some (x + t.2 * b.q,l ++ sclM (absM t.2) m)
def boxR (s:Sc) (f:Af) (n:Nat):Option (Rat × List Mu):=(f.ts.take n).foldl (boxQ s) (some (f.c,[]))
theorem boxR_succ {s:Sc} {f:Af} {n:Nat} {t:Tm} (h:f.ts[n]? = some t):boxR s f (n + 1) = boxQ s (boxR s f n) t:=by
 unfold boxR;rw [take_snoc h,List.foldl_append];rfl
theorem boxQ_coll {s:Sc} {a:Option (Rat × List Mu)} {t:Tm}:(boxQ s a t).map (fun p=>(p.1,collM p.2)) = boxT s (a.map fun p=>(p.1,collM p.2)) t:=by
 cases a with
 | none=>rfl
 | some p=>
  obtain ⟨x,l⟩:=p
  unfold boxQ boxT
  simp only [Option.map_some]
  cases bndM s t.1 (decide (t.2 < 0)) with
  | none=>rfl
  | some b=>simp only [Option.map_some];rw [coll_scl,absM_eq]
theorem boxR_coll {s:Sc} {f:Af} (n:Nat):(boxR s f n).map (fun p=>(p.1,collM p.2)) = boxN s f n:=by
 unfold boxR boxN
 have:∀ (ts:List Tm) (a:Option (Rat × List Mu)),(ts.foldl (boxQ s) a).map (fun p=>(p.1,collM p.2)) = ts.foldl (boxT s) (a.map fun p=>(p.1,collM p.2)):=by
  intro ts
  induction ts with
  | nil=>intro a;rfl
  | cons t ts ih=>intro a;rw [List.foldl_cons,List.foldl_cons,ih,boxQ_coll]
 exact this _ _
structure PlOk (B F n:Nat) (l:List Mu):Prop where
 len:l.length≤2 * n
 mb:MB (4 * B + F + 20) l
 cof:CofOk l
theorem abs_nn (c:Rat):0≤absM c:=by rw [absM_eq];exact abs_nonneg c
theorem absM_br {c:Rat} {B:Nat} (h:Br c B):Br (absM c) (B + 1):=by
 unfold absM mx;split
 ·exact h.mono (by omega)
 ·haveI:=h;exact (inferInstance:Br (-c) _).mono (by omega)
theorem scl_mem {c:Rat} {m:Mu} {l:List Mu} (h:m∈sclM c l):∃ x∈l,m = ⟨x.r,qOf (c * x.c.q)⟩:=by
 obtain ⟨x,hx,rfl⟩:=List.mem_map.1 h;exact ⟨x,hx,rfl⟩
theorem PlOk.next {B F n:Nat} {l:List Mu} (h:PlOk B F n l) {s:Sc} {m:List Mu} (hm:StepOk s (4 * B + 12) m) {c:Rat} (hc:Br c F):PlOk B F (n + 1) (l ++ sclM (absM c) m):=by
 refine ⟨?_,fun x hx=>?_,fun x hx=>?_⟩
 ·have h1:=h.len;have h2:=hm.len
  simp only [List.length_append,sclM,List.length_map];omega
 ·rcases List.mem_append.1 hx with hx | hx
  ·exact h.mb x hx
  ·obtain ⟨y,hy,rfl⟩:=scl_mem hx
   haveI:=absM_br hc;haveI:=hm.bd y hy
   exact (Fq.of (r:=absM c * y.c.q)).mono (by omega)
 ·rcases List.mem_append.1 hx with hx | hx
  ·exact h.cof x hx
  ·obtain ⟨y,hy,rfl⟩:=scl_mem hx
   show qOf _ = qOf (qOf _).q∧0≤(qOf _).q
   rw [qOf_q]
   exact ⟨rfl,Rat.mul_nonneg (abs_nn c) (Rat.le_of_lt (hm.pos y hy))⟩
theorem scl_take {c:Rat} {m:List Mu} {k:Nat} {x:Mu} (h:m[k]? = some x):sclM c (m.take k) ++ [⟨x.r,qOf (c * x.c.q)⟩] = sclM c (m.take (k + 1)):=by
 unfold sclM;rw [take_snoc h,List.map_append];rfl
theorem boxR_get {s:Sc} {f:Af} {n:Nat} {x:Rat} {l:List Mu} (h:boxR s f n = some (x,l)):boxN s f n = some (x,collM l):=by rw [← boxR_coll,h];rfl
theorem boxR_step {s:Sc} {f:Af} {n:Nat} {t:Tm} {x:Rat} {l:List Mu} (ht:f.ts[n]? = some t) (h:boxR s f n = some (x,l)) (hb:(bndP s t.1 (decide (t.2 < 0))).2.2 = true) :
  boxR s f (n + 1) = some (x + t.2 * (bndP s t.1 (decide (t.2 < 0))).1.q,l ++ sclM (absM t.2) (bndP s t.1 (decide (t.2 < 0))).2.1):=by
 rw [boxR_succ ht,h];unfold boxQ;simp only [bndP_t hb]
theorem boxR_stop {s:Sc} {f:Af} {n:Nat} {t:Tm} {x:Rat} {l:List Mu} (ht:f.ts[n]? = some t) (h:boxR s f n = some (x,l)) (hb:(bndP s t.1 (decide (t.2 < 0))).2.2 = false):boxD s f = (0,[],false):=by
 refine boxD_none (boxO_none (n:=n + 1) ?_)
 rw [boxN_succ ht,boxR_get h];unfold boxT;simp only [bndP_f hb]
theorem boxR_end {s:Sc} {f:Af} {x:Rat} {l:List Mu} (h:boxR s f f.ts.length = some (x,l)):boxD s f = (x,collM l,true):=boxD_some (boxR_get h)
theorem boxN_step {s:Sc} {f:Af} {n:Nat} {t:Tm} {x:Rat} {l:List Mu} (ht:f.ts[n]? = some t) (h:boxN s f n = some (x,l)) (hb:(bndP s t.1 (decide (t.2 < 0))).2.2 = true) :
  boxN s f (n + 1) = some (x + t.2 * (bndP s t.1 (decide (t.2 < 0))).1.q,mergeM l (bndP s t.1 (decide (t.2 < 0))).2.1 (rq false (cnum t.2) (cden t.2))):=by
 rw [boxN_succ ht,h];unfold boxT;simp only [bndP_t hb]
theorem boxN_stop {s:Sc} {f:Af} {n:Nat} {t:Tm} {x:Rat} {l:List Mu} (ht:f.ts[n]? = some t) (h:boxN s f n = some (x,l)) (hb:(bndP s t.1 (decide (t.2 < 0))).2.2 = false):boxD s f = (0,[],false):=by
 refine boxD_none (boxO_none (n:=n + 1) ?_)
 rw [boxN_succ ht,h];unfold boxT;simp only [bndP_f hb]
theorem inp_sg {up:Bool} {a b:Rat}:cmpq a b = (if up = true then (-1:Int) else 1)↔(if up = true then a < b else b < a):=by
 cases up
 ·simp only [Bool.false_eq_true,if_false];exact cmpq_gt1
 ·simp only [if_true];exact cmpq_lt1
theorem PlOk.start {B F:Nat}:PlOk B F 0 []:=⟨by simp,fun m hm=>by simp at hm,fun m hm=>by simp at hm⟩
@[reducible] def bdL (x:Rat) (l:List Mu) (b:Bool):List Leaf:=[Leaf.val (.bool (cneg x)),natL (limbs (cnum x)),natL (limbs (cden x)),muE.row l,Leaf.val (.bool b)]
@[reducible] def bdV (x:Rat) (l:List Mu) (b:Bool):V:=V.agg (bdL x l b)
theorem bdZ:D.agg [Leaf.val (.bool false),nilL,nilL,nilL,Leaf.val (.bool false)] = D.agg (bdL 0 [] false):=by
 unfold bdL;rw [cneg_nonneg Rat.le_refl,cnum_zero,cden_zero,limbs_zero];rfl
theorem inp_sg2 {up:Bool} {a b:Rat}:0 < (if up = true then (-1:Int) else 1) * cmpq a b↔(if up = true then a < b else b < a):=by
 cases up
 ·simp only [Bool.false_eq_true,if_false,Int.one_mul];exact cmpq_gt
 ·simp only [if_true]
  rw [← cmpq_lt];omega
theorem inp_rg {up:Bool} {a b:Rat}:-1≤(if up = true then (-1:Int) else 1) * cmpq a b∧(if up = true then (-1:Int) else 1) * cmpq a b≤1:=by
 have h:cmpq a b = -1 ∨ cmpq a b = 0 ∨ cmpq a b = 1:=by unfold cmpq;(repeat' split) <;> decide
 cases up
 ·simp only [Bool.false_eq_true,if_false,Int.one_mul];omega
 ·simp only [if_true];omega
end Rc
