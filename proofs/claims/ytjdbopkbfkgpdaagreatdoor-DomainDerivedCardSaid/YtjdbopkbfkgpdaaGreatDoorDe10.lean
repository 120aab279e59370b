/- Parts of the proof, 10: the texts WlT, WlS, Best, Awk, WlU, Lw23, Der, WlY, WkDomainDerived, FwZ, FactsZ, FwX, FactsX, FactsT, as far as they are used. -/
import Derived.Test.YtjdbopkbfkgpdaaGreatDoorDe09
import Derived.WalkKit
import Derived.ProofKit
import Derived.OpenShut
import Derived.ShutString
import Derived.ChangeOld
import Derived.Below
import Derived.Test.YtjdbopkbfkgpdaaGreatDoorProg
import Derived.KernelRfl
import Derived.Test.YtjdbopkbfkgpdaaGreatDoorRows
import Derived.LaidMore
import Derived.LaidLaws
import Derived.LaidHandle
import Derived.JoinedOf
import Derived.ChangeSame
import Derived.ChangeVars
import Derived.Stop.Joined
set_option linter.unusedSimpArgs false
set_option linter.unusedVariables false
namespace Go.Proofs.YtjdbopkbfkgpdaaGreatDoor
open Go Go.RowKit Rc
set_option maxRecDepth 10000 in
theorem round_p (x:Rat) (up:Bool) (bits:Int) {H:Nat} (hx:Hb x H) (hH:H < 35200) (h0:0≤bits) (h4:bits≤4096):Ctr Tryz.prog 44 [V.agg (qL (x)),V.one (Leaf.val (.bool up)),V.one (Leaf.val (.int .i64 (bits)))] (R.one (V.agg (qL (rndB x up bits)))):=by
 refine bd_ Tryz.func44 Tryz.ntmps44 rfl (fun w0 A0=>?_)
 haveI hbr:Br x 1100:=hx.limb (by omega)
 refine zc 10 rfl ?_
 by_cases hb0:bits = 0
 ·refine tq_ rfl (eqT rfl) (zl 9 rfl ?_)
  exact r1_ hq_ rfl (by unfold rndB;rw [if_pos hb0] <;> rfl)
 ·refine tq_ rfl (eqF rfl) (zl 16 rfl ?_)
  refine Tc_cond rfl (fun hup=>?_) (fun hup=>?_)
  ·refine zc 9 rfl (te_ rfl (Je_callV rfl rfl fn88 rfl (dup (qOf x) x (qOf_q _) (Br.use (by omega)) bits)) (zl 3 rfl (eq_ (D.val (.int .i64 0)) rfl (by unfold rndE;rw [if_neg (by omega)]) (zl 18 rfl (tc_ fn89 rfl (drat (rndD x bits (decide (0 < sg x))) (Bd.use (by omega))) (zl 3 rfl ?_))))))
   exact r1_ hq_ rfl (by unfold rndB;rw [if_neg hb0,if_pos hup] <;> rfl)
  ·refine zc 7 rfl (te_ rfl (Je_callV rfl rfl fn87 rfl (ddown (qOf x) x (qOf_q _) (Br.use (by omega)) bits)) (zl 3 rfl (eq_ (D.val (.int .i64 0)) rfl (by unfold rndE;rw [if_neg (by omega)]) (zl 18 rfl (tc_ fn89 rfl (drat (rndD x bits (decide (sg x < 0))) (Bd.use (by omega))) (zl 3 rfl ?_))))))
   exact r1_ hq_ rfl (by unfold rndB;rw [if_neg hb0,if_neg (by rw [hup];decide)] <;> rfl)
set_option maxRecDepth 10000 in
set_option maxHeartbeats 2000000 in
theorem drun (d:Dom) (hdm:DomOk d) (tD fL:Nat) (cs:List Value) (hone:cs.all Value.oneCell' = true) (hm:methF Tryz.prog tD "Lower" = some fL) (hfL:FnOk Tryz.prog fL) (hL:∀ (s:Sc) (f:Af),SOk s→FOk 3 (s.q.g.inp + s.q.g.us.length) f→Ctr Tryz.prog fL [V.agg (vals cs),scV s,afV f] (R.tup [qV (qOf (d s f).1),V.one (El.row muE (d s f).2.1),V.one (Leaf.val (.bool (d s f).2.2))])) (s:Sc) (hs:SOk s) (h80:s.lems.length≤80) (bits:Int) (h0:0≤bits) (h4:bits≤4096):Ctr Tryz.prog 12 [V.one (Leaf.val (ifV tD cs)),scV s,V.one (Leaf.val (.int .i64 (bits)))] (R.tup [scV (runM d s bits),V.one (Leaf.val (.int .i64 0))]):=by
 refine bd_ Tryz.func12 Tryz.ntmps12 rfl (fun w0 A0=>?_)
 have hq:=hs.q;have hd:=hs.d;have hpl:=hs.pl;have hB:=hs.B;have hll:=hs.ll
 have hg:=hq.g;have hr:=hq.r;have hlo:=hr.lo;have hhi:=hr.hi
 have g1:=hg.i1;have g2:=hg.i3;have g3:=hg.u4;have g4:=hg.o1;have g5:=hg.o3
 refine zc 13 rfl (tq_ rfl (Jq_eql_if rfl rfl rfl (by kernel_rfl)) (zl 3 rfl (tc_ fn36 rfl (qvalid_p s.q hq) (zl 4 rfl (tq_ rfl (ltF rfl) (zl 3 rfl (tq_ rfl (gtF rfl) (zl 7 rfl (nz_ [so 3 (D.ptr 0 0),so 4 (D.ptr 1 0),so 5 (D.ptr 2 0),so 6 (D.ptr 3 0)] [hb_ 83 [Leaf.val (ifV tD cs)],hb_ 42 (scL s),hb_ 3 [Leaf.val (.int .i64 bits)],hb_ 42 scZ] rfl rfl ?_)))))))))
 refine dr_ 1 [(5,4),(7,1),(9,1)] [4,1] (dz 1 rfl (kp_ [4] rfl (jld rfl) (kc_ fn37 rfl (clone_dc s.path (by omega)) (dz 1 rfl (kp_ [4] rfl (jld rfl) (ki_ 4 rfl (Jd_callG (i:=4) rfl fn38 rfl (clone_lm s.lems (by omega)) (by decide) rfl) (dz 4 rfl (DK_nil (za 3 rfl ?_)))))))))
 refine nz_ [so 3 _,so 4 _,so 5 _,so 6 _] [_,hb_ 42 (quL s.q ++ [El.row dcE s.path,Leaf.own 4 0]),_,_,hgr 64 6 lmE s.lems 0] rfl rfl ?_
 refine Tc_pin 0 rfl (fun q1=>?_)
 refine Tc_pin 1 rfl (fun q2=>?_)
 refine Tc_pin 2 rfl (fun q3=>?_)
 refine zc 5 rfl (tq_ rfl (jln rfl) (zl 4 rfl ?_))
 refine lpR_ (fun m Γ H=>∃ (i:Nat) (n:Nat) (out:List Lm),s.q.g.us.length - i = m∧Γ = [(3,some (D.ptr 0 0)),(4,some (D.ptr 1 0)),(5,some (D.ptr 2 0)),(6,some (D.ptr 3 0)),(39,some (D.v (V.one (El.row afE s.q.g.us)))),(40,some (D.val (.int .i64 ((s.q.g.us.length:Nat):Int)))),(41,some (D.val (.int .i64 ((i:Nat):Int))))]∧H = [hbq 83 [Leaf.val (ifV tD cs)] q1,hbq 42 (quL s.q ++ [El.row dcE s.path,Leaf.own 4 n]) q2,hbq 3 [Leaf.val (.int .i64 bits)] q3,hb_ 42 scZ,hgr 64 6 lmE out n]∧i≤s.q.g.us.length∧out = Rc.runN d s bits i) ⟨0,0,s.lems,rfl,rfl,rfl,Nat.zero_le _,rfl⟩ rfl ?_
 rintro m Γ H ⟨i,n,out,rfl,rfl,rfl,hi0,hout⟩
 refine zc 2 rfl ?_
 by_cases hi:i < s.q.g.us.length
 ·refine tq_ rfl (ltT rfl) (zl 9 rfl ?_)
  obtain ⟨p,hp⟩:∃ p,s.q.g.us[i]? = some p:=⟨_,List.getElem?_eq_getElem hi⟩
  have hso:=runN_sok hdm hs h80 (bits:=bits) (n:=i) (by omega)
  have hln:=(runN_ok hdm hs h80 bits i (by omega)).2
  rw [← hout] at hso hln
  have hpf:=hq.g.us i p hp
  have hpf2:FOk 3 (s.q.g.inp + s.q.g.us.length) p:=hpf.mono (Nat.le_refl _) (by omega)
  have hnf:=hpf.neg
  have hnf2:=hpf2.neg
  have hpl_:=hpf2.fl
  haveI:=hpl_.fm (by omega);haveI:=hpl_.cb
  have hK:=KB_le (j:=i) (by omega)
  have hrA:=runA_ok hdm hs (bits:=bits) hso hp
  refine nz_ [so 3 (D.ptr 0 0),so 4 (D.ptr 1 0),so 5 (D.ptr 2 0),so 6 (D.ptr 3 0),so 39 (D.v (V.one (El.row afE s.q.g.us))),so 40 (D.val (.int .i64 ((s.q.g.us.length:Nat):Int))),so 41 (D.val (.int .i64 ((i:Nat):Int)))] [hbq 83 [Leaf.val (ifV tD cs)] q1,hbq 42 (quL s.q ++ [El.row dcE s.path,Leaf.own 4 n]) q2,hbq 3 [Leaf.val (.int .i64 bits)] q3,hb_ 42 scZ,hgr 64 6 lmE out n] rfl rfl ?_
  refine zc 2 rfl (tq_ rfl (jix i hp rfl) (tq_ rfl (jlr rfl) (zl 7 rfl ?_)))
  refine Tc_pin 5 rfl (fun q6=>?_)
  refine Tc_pin 6 rfl (fun q7=>?_)
  refine zc 1 rfl ?_
  refine te_ rfl (Je_makeFunc (vs:=[.pointer (some ⟨q7,0,none⟩),.pointer (some ⟨q1,0,none⟩),.pointer (some ⟨q2,0,none⟩),.pointer (some ⟨q6,0,none⟩),.pointer (some ⟨q3,0,none⟩)]) rfl ⟨⟨_,rfl,.inr ⟨_,_,_,rfl,rfl,rfl,rfl,rfl⟩⟩,⟨_,rfl,.inr ⟨_,_,_,rfl,rfl,rfl,rfl,rfl⟩⟩,⟨_,rfl,.inr ⟨_,_,_,rfl,rfl,rfl,rfl,rfl⟩⟩,⟨_,rfl,.inr ⟨_,_,_,rfl,rfl,rfl,rfl,rfl⟩⟩,⟨_,rfl,.inr ⟨_,_,_,rfl,rfl,rfl,rfl,rfl⟩⟩,trivial⟩) ?_
  refine zl 4 rfl (nz_ [so 3 _,so 4 _,so 5 _,so 6 _,so 10 (D.val (.func (.func 39) #[] #[.pointer (some ⟨q7,0,none⟩),.pointer (some ⟨q1,0,none⟩),.pointer (some ⟨q2,0,none⟩),.pointer (some ⟨q6,0,none⟩),.pointer (some ⟨q3,0,none⟩)])),so 39 _,so 40 _,so 41 _] [_,_,_,_,_,hbq 3 [Leaf.val (.int .i64 ((i:Nat):Int))] q6,hbq 36 (afL p) q7] rfl rfl (zc 2 rfl ?_))
  refine Tl_inlineF (dc:=[D.ptr 6 0,D.ptr 0 0,D.ptr 1 0,D.ptr 5 0,D.ptr 2 0]) rfl rfl rfl ⟨.inr ⟨_,_,_,rfl,rfl,rfl,rfl,rfl⟩,.inr ⟨_,_,_,rfl,rfl,rfl,rfl,rfl⟩,.inr ⟨_,_,_,rfl,rfl,rfl,rfl,rfl⟩,.inr ⟨_,_,_,rfl,rfl,rfl,rfl,rfl⟩,.inr ⟨_,_,_,rfl,rfl,rfl,rfl,rfl⟩,trivial⟩ Tryz.func39 rfl rfl Tryz.ntmps39 (Nat.le_of_ble_eq_true rfl) rfl (fun a8 d8 s8=>?_)
  refine qc_ (zc 19 rfl (tq_ rfl (jvl 11 rfl rfl) (zl 1 rfl (te_ rfl (Je_invoke rfl rfl hm hfL rfl (hL (withL s out) p hso hpf2) hone) (zl 17 rfl ?_)))))
  refine Tc_cond rfl (fun hb1n=>?_) (fun hb1n=>?_)
  ·refine Tc_retI0 [(3,some (D.ptr 0 0)),(4,some (D.ptr 1 0)),(5,some (D.ptr 2 0)),(6,some (D.ptr 3 0)),(10,some (D.val (.func (.func 39) #[] #[.pointer (some ⟨q7,0,none⟩),.pointer (some ⟨q1,0,none⟩),.pointer (some ⟨q2,0,none⟩),.pointer (some ⟨q6,0,none⟩),.pointer (some ⟨q3,0,none⟩)]))),(39,some (D.v (V.one (El.row afE s.q.g.us)))),(40,some (D.val (.int .i64 ((s.q.g.us.length:Nat):Int)))),(41,some (D.val (.int .i64 ((i:Nat):Int))))] (fun _ _ h=>h) d8 s8 rfl rfl ⟨rfl,rfl,rfl,rfl,rfl,rfl,rfl,rfl,trivial⟩ ?_
   refine zl 2 rfl ?_
   have hA:runA d s bits out i p = out:=by unfold runA;rw [sideN_f1 (by have h:(d (withL s out) p).2.2 = false:=(by simpa using hb1n);exact h),List.append_nil]
   have hso1:SOk (withL s out):=by rw [← hA];exact LOk.withL hs hrA.1 (by have:=hrA.2;have hl2:out.length≤s.lems.length + 2 * i:=hln;omega)
   refine zc 2 rfl ?_
   refine Tl_inlineF (dc:=[D.ptr 6 0,D.ptr 0 0,D.ptr 1 0,D.ptr 5 0,D.ptr 2 0]) rfl rfl rfl ⟨.inr ⟨_,_,_,rfl,rfl,rfl,rfl,rfl⟩,.inr ⟨_,_,_,rfl,rfl,rfl,rfl,rfl⟩,.inr ⟨_,_,_,rfl,rfl,rfl,rfl,rfl⟩,.inr ⟨_,_,_,rfl,rfl,rfl,rfl,rfl⟩,.inr ⟨_,_,_,rfl,rfl,rfl,rfl,rfl⟩,trivial⟩ Tryz.func39 rfl rfl Tryz.ntmps39 (Nat.le_of_ble_eq_true rfl) rfl (fun a9 d9 s9=>?_)
   refine qc_ (zc 14 rfl (dr_ 0 [(3,9)] [9] (dz 1 rfl (kc_ fn41 rfl (qof_spec (-1) (by decide) (by decide)) (kc_ fn40 rfl (scale_p p ((-1:Int):Rat) hpl_ (by omega) (by omega) (by omega)) (dz 1 rfl (DK_nil (za 4 rfl (tq_ rfl (jvl 11 rfl rfl) ?_)))))))))
   refine zl 1 rfl (te_ rfl (Je_invoke rfl rfl hm hfL rfl (hL (withL s out) (negF p) hso1 hnf2) hone) (zl 17 rfl ?_))
   refine Tc_cond rfl (fun hb2n=>?_) (fun hb2n=>?_)
   ·refine Tc_retI0 [(3,some (D.ptr 0 0)),(4,some (D.ptr 1 0)),(5,some (D.ptr 2 0)),(6,some (D.ptr 3 0)),(39,some (D.v (V.one (El.row afE s.q.g.us)))),(40,some (D.val (.int .i64 ((s.q.g.us.length:Nat):Int)))),(41,some (D.val (.int .i64 ((i:Nat):Int))))] (fun _ _ h=>h) d9 s9 rfl rfl ⟨rfl,rfl,rfl,rfl,rfl,rfl,rfl,trivial⟩ (zl 4 rfl (tq_ rfl (jad (i + 1) rfl) ?_))
    refine zl 2 rfl (At_free 5 (At_free 6 (At_free 7 (At_free 8 (At_free 9 (At_free 10 (trim_ 5 rfl ?_)))))))
    exact nx_ ⟨i + 1,_,_,rfl,rfl,rfl,hi,by rw [runN_get hp,← hout,hA,sideN_f1 (by have h:(d (withL s out) (negF p)).2.2 = false:=(by simpa using hb2n);exact h)];simp only [List.append_nil]⟩ rfl
   ·refine zc 3 rfl ?_
    have hb2:(d (withL s out) (negF p)).2.2 = true:=by simpa using hb2n
    haveI h1hb2:Hb (d (withL s out) (negF p)).1 (KB i - 4200):=hdm (withL s out) hso1 i (negF p) (by exact hi) (by exact hnf) (by exact hb2)
    have h2hb2:Hb (-(d (withL s out) (negF p)).1) (KB i - 4200):=Hb.neg
    haveI h3hb2:Br (d (withL s out) (negF p)).1 34402:=h1hb2.limb (by omega)
    haveI:Br (rndB (-(d (withL s out) (negF p)).1) true bits) 38501:=((rndB_hb (up:=true) (bits:=bits) h2hb2 (by omega)).mono (show _≤38500 by omega)).br
    have hso_B_2:∀ m∈out,Fq m.v 34401:=hso1.B
    have hso_L_2:(out).length≤100:=hso1.ll
    refine zc 1 rfl (tq_ rfl (jvl 11 rfl rfl) (zl 1 rfl (tc_ fn42 rfl (best_p (withL s out) hso_B_2 (by omega) (by show (out).length≤_;omega) ((i:Nat):Int)) (zl 8 rfl ?_))))
    refine nf_ [7,8,9] [so 0 (D.bool true),so 3 (D.ptr 1 0),so 4 (D.ptr 5 0),so 5 _,so 8 (D.ptr 10 0),so 9 (D.v (V.one (El.row muE ((d (withL s out) (negF p)).2.1)))),so 11 (D.val (.int .i64 (((best out ((i:Nat):Int)).1:Nat):Int))),so 12 (D.val (.int .i64 (((best out ((i:Nat):Int)).2:Nat):Int))),so 2003 (D.ptr 0 0),so 2004 (D.ptr 1 0),so 2005 (D.ptr 2 0),so 2006 (D.ptr 3 0),so 2039 (D.v (V.one (El.row afE s.q.g.us))),so 2040 (D.val (.int .i64 ((s.q.g.us.length:Nat):Int))),so 2041 (D.val (.int .i64 ((i:Nat):Int)))] [_,_,_,_,_,_,_,none,none,none,hb_ 34 (qL ((d (withL s out) (negF p)).1))] rfl rfl rfl ?_
    refine zc 15 rfl (tc_ fn43 rfl (qneg (qOf ((d (withL s out) (negF p)).1)) ((d (withL s out) (negF p)).1) (qOf_q _) (Br.use (by omega))) (zl 7 rfl ?_))
    refine nz_ [so 0 _,so 3 _,so 4 _,so 5 _,so 8 _,so 9 _,so 13 (D.val (.int .i64 (((best out ((i:Nat):Int)).2:Nat):Int))),so 14 (D.val (.int .i64 (-1))),so 2003 _,so 2004 _,so 2005 _,so 2006 _,so 2039 _,so 2040 _,so 2041 _] [_,_,_,_,_,_,_,none,none,none,hb_ 34 (qL (-((d (withL s out) (negF p)).1)))] rfl rfl (zc 4 rfl ?_)
    refine tc_ fn44 rfl (round_p (-(d (withL s out) (negF p)).1) true bits h2hb2 (by omega) h0 h4) (zl 3 rfl ?_)
    refine mt_ [so 0 (D.bool true),so 3 (D.ptr 1 0),so 4 (D.ptr 5 0),so 8 (D.ptr 10 0),so 9 (D.v (V.one (El.row muE ((d (withL s out) (negF p)).2.1)))),so 59 (D.bool (strong out i true (rndB (-(d (withL s out) (negF p)).1) true bits))),so 2003 (D.ptr 0 0),so 2004 (D.ptr 1 0),so 2005 (D.ptr 2 0),so 2006 (D.ptr 3 0),so 2039 (D.v (V.one (El.row afE s.q.g.us))),so 2040 (D.val (.int .i64 ((s.q.g.us.length:Nat):Int))),so 2041 (D.val (.int .i64 ((i:Nat):Int)))] [hbq 83 [Leaf.val (ifV tD cs)] q1,hbq 42 (quL s.q ++ [El.row dcE s.path,Leaf.own 4 n]) q2,hbq 3 [Leaf.val (.int .i64 bits)] q3,hb_ 42 scZ,hgr 64 6 lmE out n,hbq 3 [Leaf.val (.int .i64 ((i:Nat):Int))] q6,hbq 36 (afL p) q7,none,none,none,hb_ 34 (qL (rndB (-(d (withL s out) (negF p)).1) true bits))] ?_ ?_
    ·refine dr_ 0 [] [] (dz 1 rfl ?_)
     by_cases hk2:(best out ((i:Nat):Int)).2 = 0
     ·refine kq_ rfl (eqT rfl) (dz 13 rfl (kis_ (strong out i true (rndB (-(d (withL s out) (negF p)).1) true bits)) rfl (by exact (strong_ut (.inl hk2)).symm) (DK_nil ?_)))
      exact mx_ rfl
     ·refine kq_ rfl (eqF rfl) (dz 3 rfl ?_)
      obtain ⟨y,hy,_,_,hly,hy0,hyl⟩:=best_hi hk2
      haveI hyB:=hso_B_2 y (List.mem_of_getElem? hy)
      refine kq_ rfl (Jq_view (r:=4) (n:=n) (x:=V.one (Leaf.own 4 n)) (x':=V.one (El.row lmE out)) (Jq_load rfl rfl rfl (by decide) ty40 rfl) (RowAt.ofE lmE out rfl (by decide)) (by decide) (.inr ⟨rfl,rfl⟩)) (dz 1 rfl (kq_ rfl (jsb ((best out ((i:Nat):Int)).2 - 1) rfl) (kq_ rfl (jix ((best out ((i:Nat):Int)).2 - 1) hy rfl) (kq_ rfl (jft rfl) (kq_ rfl (jlr rfl) ?_)))))
      refine kc_ fn45 rfl (qcmp (qOf ((rndB (-(d (withL s out) (negF p)).1) true bits))) ((rndB (-(d (withL s out) (negF p)).1) true bits)) (qOf_q _) (Br.use (by omega)) y.v (y.v.q) rfl (Fq.use (x:=y.v) (by omega))) (dz 1 rfl ?_)
      by_cases hc2:rndB (-(d (withL s out) (negF p)).1) true bits < lv out (best out ((i:Nat):Int)).2
      ·refine kq_ rfl (eqT rfl (by rw [cmpq_lt1,← hly];exact hc2)) (dz 1 rfl (kis_ (strong out i true (rndB (-(d (withL s out) (negF p)).1) true bits)) rfl (by exact (strong_ut (.inr hc2)).symm) (DK_nil ?_)))
       exact mx_ rfl
      ·refine kq_ rfl (eqF rfl (fun e=>hc2 (by rw [hly];exact cmpq_lt1.1 e))) (dz 1 rfl (kis_ (strong out i true (rndB (-(d (withL s out) (negF p)).1) true bits)) rfl (by exact (strong_uf hk2 hc2).symm) (DK_nil ?_)))
       exact mx_ rfl
    ·refine Tc_cond rfl (fun hs2=>?_) (fun hs2=>?_)
     ·refine zc 8 rfl (te_ rfl (Je_buildSlice rfl un40 ty64 tz64 rfl (by decide) (by decide) rfl (by decide) rfl) (te_ rfl (jap (e:=lmE) (⟨((i:Nat):Int),true,(qOf ((rndB (-(d (withL s out) (negF p)).1) true bits))),(d (withL s out) (negF p)).2.1⟩) rfl rfl) (zl 3 rfl ?_)))
      refine At_retI0 [(3,some (D.ptr 0 0)),(4,some (D.ptr 1 0)),(5,some (D.ptr 2 0)),(6,some (D.ptr 3 0)),(39,some (D.v (V.one (El.row afE s.q.g.us)))),(40,some (D.val (.int .i64 ((s.q.g.us.length:Nat):Int)))),(41,some (D.val (.int .i64 ((i:Nat):Int))))] d9 s9 rfl rfl ⟨rfl,rfl,rfl,rfl,rfl,rfl,rfl,trivial⟩ (zl 4 rfl (tq_ rfl (jad (i + 1) rfl) (zl 2 rfl ?_)))
      refine At_free 5 (At_free 6 (At_free 10 (trim_ 5 rfl ?_)))
      exact nx_ ⟨i + 1,_,_,rfl,rfl,rfl,hi,by rw [runN_get hp,← hout,hA,sideN_t (by exact hb2) (by exact hs2)];rfl⟩ rfl
     ·refine zc 1 rfl (At_retI0 [(3,some (D.ptr 0 0)),(4,some (D.ptr 1 0)),(5,some (D.ptr 2 0)),(6,some (D.ptr 3 0)),(39,some (D.v (V.one (El.row afE s.q.g.us)))),(40,some (D.val (.int .i64 ((s.q.g.us.length:Nat):Int)))),(41,some (D.val (.int .i64 ((i:Nat):Int))))] d9 s9 rfl rfl ⟨rfl,rfl,rfl,rfl,rfl,rfl,rfl,trivial⟩ (zl 4 rfl (tq_ rfl (jad (i + 1) rfl) ?_)))
      refine zl 2 rfl (At_free 5 (At_free 6 (At_free 10 (trim_ 5 rfl ?_))))
      exact nx_ ⟨i + 1,_,_,rfl,rfl,rfl,hi,by rw [runN_get hp,← hout,hA,sideN_f2 (by exact hs2)];simp only [List.append_nil]⟩ rfl
  ·refine zc 3 rfl ?_
   have hb1:(d (withL s out) p).2.2 = true:=by simpa using hb1n
   haveI h1hb1:Hb (d (withL s out) p).1 (KB i - 4200):=hdm (withL s out) hso i p (by exact hi) (by exact hpf) (by exact hb1)
   have h2hb1:=h1hb1
   haveI h3hb1:Br (d (withL s out) p).1 34402:=h1hb1.limb (by omega)
   haveI:Br (rndB (d (withL s out) p).1 false bits) 38501:=((rndB_hb (up:=false) (bits:=bits) h2hb1 (by omega)).mono (show _≤38500 by omega)).br
   have hso_B_1:∀ m∈out,Fq m.v 34401:=hso.B
   have hso_L_1:(out).length≤100:=hso.ll
   refine zc 1 rfl (tq_ rfl (jvl 11 rfl rfl) (zl 1 rfl (tc_ fn42 rfl (best_p (withL s out) hso_B_1 (by omega) (by show (out).length≤_;omega) ((i:Nat):Int)) (zl 8 rfl ?_))))
   refine nf_ [7] [so 0 (D.bool false),so 3 (D.ptr 1 0),so 4 (D.ptr 5 0),so 5 _,so 8 (D.ptr 8 0),so 9 (D.v (V.one (El.row muE ((d (withL s out) p).2.1)))),so 11 (D.val (.int .i64 (((best out ((i:Nat):Int)).1:Nat):Int))),so 12 (D.val (.int .i64 (((best out ((i:Nat):Int)).2:Nat):Int))),so 2003 (D.ptr 0 0),so 2004 (D.ptr 1 0),so 2005 (D.ptr 2 0),so 2006 (D.ptr 3 0),so 2010 (D.val (.func (.func 39) #[] #[.pointer (some ⟨q7,0,none⟩),.pointer (some ⟨q1,0,none⟩),.pointer (some ⟨q2,0,none⟩),.pointer (some ⟨q6,0,none⟩),.pointer (some ⟨q3,0,none⟩)])),so 2039 (D.v (V.one (El.row afE s.q.g.us))),so 2040 (D.val (.int .i64 ((s.q.g.us.length:Nat):Int))),so 2041 (D.val (.int .i64 ((i:Nat):Int)))] [_,_,_,_,_,_,_,none,hb_ 34 (qL ((d (withL s out) p).1))] rfl rfl rfl ?_
   refine zc 20 rfl (tc_ fn44 rfl (round_p ((d (withL s out) p).1) false bits h2hb1 (by omega) h0 h4) (zl 3 rfl ?_))
   refine mt_ [so 0 (D.bool false),so 3 (D.ptr 1 0),so 4 (D.ptr 5 0),so 8 (D.ptr 8 0),so 9 (D.v (V.one (El.row muE ((d (withL s out) p).2.1)))),so 59 (D.bool (strong out i false (rndB (d (withL s out) p).1 false bits))),so 2003 (D.ptr 0 0),so 2004 (D.ptr 1 0),so 2005 (D.ptr 2 0),so 2006 (D.ptr 3 0),so 2010 (D.val (.func (.func 39) #[] #[.pointer (some ⟨q7,0,none⟩),.pointer (some ⟨q1,0,none⟩),.pointer (some ⟨q2,0,none⟩),.pointer (some ⟨q6,0,none⟩),.pointer (some ⟨q3,0,none⟩)])),so 2039 (D.v (V.one (El.row afE s.q.g.us))),so 2040 (D.val (.int .i64 ((s.q.g.us.length:Nat):Int))),so 2041 (D.val (.int .i64 ((i:Nat):Int)))] [hbq 83 [Leaf.val (ifV tD cs)] q1,hbq 42 (quL s.q ++ [El.row dcE s.path,Leaf.own 4 n]) q2,hbq 3 [Leaf.val (.int .i64 bits)] q3,hb_ 42 scZ,hgr 64 6 lmE out n,hbq 3 [Leaf.val (.int .i64 ((i:Nat):Int))] q6,hbq 36 (afL p) q7,none,hb_ 34 (qL (rndB (d (withL s out) p).1 false bits))] ?_ ?_
   ·refine nz_ [so 0 _,so 3 _,so 4 _,so 8 _,so 9 _,so 13 (D.val (.int .i64 (((best out ((i:Nat):Int)).1:Nat):Int))),so 14 (D.val (.int .i64 1)),so 2003 _,so 2004 _,so 2005 _,so 2006 _,so 2010 _,so 2039 _,so 2040 _,so 2041 _] [_,_,_,_,_,_,_,none,hb_ 34 (qL (rndB (d (withL s out) p).1 false bits))] rfl rfl (dr_ 0 [] [] (dz 1 rfl ?_))
    by_cases hk1:(best out ((i:Nat):Int)).1 = 0
    ·refine kq_ rfl (eqT rfl) (dz 13 rfl (kis_ (strong out i false (rndB (d (withL s out) p).1 false bits)) rfl (by exact (strong_lt (.inl hk1)).symm) (DK_nil ?_)))
     exact mx_ rfl
    ·refine kq_ rfl (eqF rfl) (dz 3 rfl ?_)
     obtain ⟨y,hy,_,_,hly,hy0,hyl⟩:=best_lo hk1
     haveI hyB:=hso_B_1 y (List.mem_of_getElem? hy)
     refine kq_ rfl (Jq_view (r:=4) (n:=n) (x:=V.one (Leaf.own 4 n)) (x':=V.one (El.row lmE out)) (Jq_load rfl rfl rfl (by decide) ty40 rfl) (RowAt.ofE lmE out rfl (by decide)) (by decide) (.inr ⟨rfl,rfl⟩)) (dz 1 rfl (kq_ rfl (jsb ((best out ((i:Nat):Int)).1 - 1) rfl) (kq_ rfl (jix ((best out ((i:Nat):Int)).1 - 1) hy rfl) (kq_ rfl (jft rfl) (kq_ rfl (jlr rfl) ?_)))))
     refine kc_ fn45 rfl (qcmp (qOf ((rndB (d (withL s out) p).1 false bits))) ((rndB (d (withL s out) p).1 false bits)) (qOf_q _) (Br.use (by omega)) y.v (y.v.q) rfl (Fq.use (x:=y.v) (by omega))) (dz 1 rfl ?_)
     by_cases hc1:lv out (best out ((i:Nat):Int)).1 < rndB (d (withL s out) p).1 false bits
     ·refine kq_ rfl (eqT rfl (by rw [cmpq_gt1,← hly];exact hc1)) (dz 1 rfl (kis_ (strong out i false (rndB (d (withL s out) p).1 false bits)) rfl (by exact (strong_lt (.inr hc1)).symm) (DK_nil ?_)))
      exact mx_ rfl
     ·refine kq_ rfl (eqF rfl (fun e=>hc1 (by rw [hly];exact cmpq_gt1.1 e))) (dz 1 rfl (kis_ (strong out i false (rndB (d (withL s out) p).1 false bits)) rfl (by exact (strong_lf hk1 hc1).symm) (DK_nil ?_)))
      exact mx_ rfl
   ·refine Tc_cond rfl (fun hs1=>?_) (fun hs1=>?_)
    ·refine zc 8 rfl (te_ rfl (Je_buildSlice rfl un40 ty64 tz64 rfl (by decide) (by decide) rfl (by decide) rfl) (te_ rfl (jap (e:=lmE) (⟨((i:Nat):Int),false,(qOf ((rndB (d (withL s out) p).1 false bits))),(d (withL s out) p).2.1⟩) rfl rfl) (zl 3 rfl ?_)))
     refine At_retI0 [(3,some (D.ptr 0 0)),(4,some (D.ptr 1 0)),(5,some (D.ptr 2 0)),(6,some (D.ptr 3 0)),(10,some (D.val (.func (.func 39) #[] #[.pointer (some ⟨q7,0,none⟩),.pointer (some ⟨q1,0,none⟩),.pointer (some ⟨q2,0,none⟩),.pointer (some ⟨q6,0,none⟩),.pointer (some ⟨q3,0,none⟩)]))),(39,some (D.v (V.one (El.row afE s.q.g.us)))),(40,some (D.val (.int .i64 ((s.q.g.us.length:Nat):Int)))),(41,some (D.val (.int .i64 ((i:Nat):Int))))] d8 s8 rfl rfl ⟨rfl,rfl,rfl,rfl,rfl,rfl,rfl,rfl,trivial⟩ ?_
     refine zl 2 rfl ?_
     have hA:runA d s bits out i p = out ++ [(⟨(i:Int),false,qOf (rndB (d (withL s out) p).1 false bits),(d (withL s out) p).2.1⟩:Lm)]:=by unfold runA;rw [sideN_t (by exact hb1) (by exact hs1)];rfl
     have hso1:SOk (withL s (out ++ [(⟨(i:Int),false,qOf (rndB (d (withL s out) p).1 false bits),(d (withL s out) p).2.1⟩:Lm)])):=by rw [← hA];exact LOk.withL hs hrA.1 (by have:=hrA.2;have hl2:out.length≤s.lems.length + 2 * i:=hln;omega)
     refine zc 2 rfl ?_
     refine Tl_inlineF (dc:=[D.ptr 6 0,D.ptr 0 0,D.ptr 1 0,D.ptr 5 0,D.ptr 2 0]) rfl rfl rfl ⟨.inr ⟨_,_,_,rfl,rfl,rfl,rfl,rfl⟩,.inr ⟨_,_,_,rfl,rfl,rfl,rfl,rfl⟩,.inr ⟨_,_,_,rfl,rfl,rfl,rfl,rfl⟩,.inr ⟨_,_,_,rfl,rfl,rfl,rfl,rfl⟩,.inr ⟨_,_,_,rfl,rfl,rfl,rfl,rfl⟩,trivial⟩ Tryz.func39 rfl rfl Tryz.ntmps39 (Nat.le_of_ble_eq_true rfl) rfl (fun a16 d16 s16=>?_)
     refine qc_ (zc 14 rfl (dr_ 0 [(3,9)] [9] (dz 1 rfl (kc_ fn41 rfl (qof_spec (-1) (by decide) (by decide)) (kc_ fn40 rfl (scale_p p ((-1:Int):Rat) hpl_ (by omega) (by omega) (by omega)) (dz 1 rfl (DK_nil (za 4 rfl (tq_ rfl (jvl 11 rfl rfl) ?_)))))))))
     refine zl 1 rfl (te_ rfl (Je_invoke rfl rfl hm hfL rfl (hL (withL s (out ++ [(⟨(i:Int),false,qOf (rndB (d (withL s out) p).1 false bits),(d (withL s out) p).2.1⟩:Lm)])) (negF p) hso1 hnf2) hone) (zl 17 rfl ?_))
     refine Tc_cond rfl (fun hb2n=>?_) (fun hb2n=>?_)
     ·refine Tc_retI0 [(3,some (D.ptr 0 0)),(4,some (D.ptr 1 0)),(5,some (D.ptr 2 0)),(6,some (D.ptr 3 0)),(39,some (D.v (V.one (El.row afE s.q.g.us)))),(40,some (D.val (.int .i64 ((s.q.g.us.length:Nat):Int)))),(41,some (D.val (.int .i64 ((i:Nat):Int))))] (fun _ _ h=>h) d16 s16 rfl rfl ⟨rfl,rfl,rfl,rfl,rfl,rfl,rfl,trivial⟩ (zl 4 rfl (tq_ rfl (jad (i + 1) rfl) ?_))
      refine zl 2 rfl (At_free 5 (At_free 6 (At_free 8 (At_free 9 (At_free 10 (trim_ 5 rfl ?_))))))
      exact nx_ ⟨i + 1,_,_,rfl,rfl,rfl,hi,by rw [runN_get hp,← hout,hA,sideN_f1 (by have h:(d (withL s (out ++ [(⟨(i:Int),false,qOf (rndB (d (withL s out) p).1 false bits),(d (withL s out) p).2.1⟩:Lm)])) (negF p)).2.2 = false:=(by simpa using hb2n);exact h)];simp only [List.append_nil]⟩ rfl
     ·refine zc 3 rfl ?_
      have hb2:(d (withL s (out ++ [(⟨(i:Int),false,qOf (rndB (d (withL s out) p).1 false bits),(d (withL s out) p).2.1⟩:Lm)])) (negF p)).2.2 = true:=by simpa using hb2n
      haveI h1hb2:Hb (d (withL s (out ++ [(⟨(i:Int),false,qOf (rndB (d (withL s out) p).1 false bits),(d (withL s out) p).2.1⟩:Lm)])) (negF p)).1 (KB i - 4200):=hdm (withL s (out ++ [(⟨(i:Int),false,qOf (rndB (d (withL s out) p).1 false bits),(d (withL s out) p).2.1⟩:Lm)])) hso1 i (negF p) (by exact hi) (by exact hnf) (by exact hb2)
      have h2hb2:Hb (-(d (withL s (out ++ [(⟨(i:Int),false,qOf (rndB (d (withL s out) p).1 false bits),(d (withL s out) p).2.1⟩:Lm)])) (negF p)).1) (KB i - 4200):=Hb.neg
      haveI h3hb2:Br (d (withL s (out ++ [(⟨(i:Int),false,qOf (rndB (d (withL s out) p).1 false bits),(d (withL s out) p).2.1⟩:Lm)])) (negF p)).1 34402:=h1hb2.limb (by omega)
      haveI:Br (rndB (-(d (withL s (out ++ [(⟨(i:Int),false,qOf (rndB (d (withL s out) p).1 false bits),(d (withL s out) p).2.1⟩:Lm)])) (negF p)).1) true bits) 38501:=((rndB_hb (up:=true) (bits:=bits) h2hb2 (by omega)).mono (show _≤38500 by omega)).br
      have hso_B_2:∀ m∈out ++ [(⟨(i:Int),false,qOf (rndB (d (withL s out) p).1 false bits),(d (withL s out) p).2.1⟩:Lm)],Fq m.v 34401:=hso1.B
      have hso_L_2:(out ++ [(⟨(i:Int),false,qOf (rndB (d (withL s out) p).1 false bits),(d (withL s out) p).2.1⟩:Lm)]).length≤100:=hso1.ll
      refine zc 1 rfl (tq_ rfl (jvl 11 rfl rfl) (zl 1 rfl (tc_ fn42 rfl (best_p (withL s (out ++ [(⟨(i:Int),false,qOf (rndB (d (withL s out) p).1 false bits),(d (withL s out) p).2.1⟩:Lm)])) hso_B_2 (by omega) (by show (out ++ [(⟨(i:Int),false,qOf (rndB (d (withL s out) p).1 false bits),(d (withL s out) p).2.1⟩:Lm)]).length≤_;omega) ((i:Nat):Int)) (zl 8 rfl ?_))))
      refine nf_ [8,9] [so 0 (D.bool true),so 3 _,so 4 _,so 5 _,so 8 (D.ptr 10 0),so 9 (D.v (V.one (El.row muE ((d (withL s (out ++ [(⟨(i:Int),false,qOf (rndB (d (withL s out) p).1 false bits),(d (withL s out) p).2.1⟩:Lm)])) (negF p)).2.1)))),so 11 (D.val (.int .i64 (((best (out ++ [(⟨(i:Int),false,qOf (rndB (d (withL s out) p).1 false bits),(d (withL s out) p).2.1⟩:Lm)]) ((i:Nat):Int)).1:Nat):Int))),so 12 (D.val (.int .i64 (((best (out ++ [(⟨(i:Int),false,qOf (rndB (d (withL s out) p).1 false bits),(d (withL s out) p).2.1⟩:Lm)]) ((i:Nat):Int)).2:Nat):Int))),so 2003 _,so 2004 _,so 2005 _,so 2006 _,so 2039 _,so 2040 _,so 2041 _] [_,hbq 42 (quL s.q ++ [El.row dcE s.path,Leaf.own 4 (n + 1)]) q2,_,_,hgr 64 6 lmE (out ++ [⟨((i:Nat):Int),false,(qOf ((rndB (d (withL s out) p).1 false bits))),(d (withL s out) p).2.1⟩]) (n + 1),_,_,none,none,none,hb_ 34 (qL ((d (withL s (out ++ [(⟨(i:Int),false,qOf (rndB (d (withL s out) p).1 false bits),(d (withL s out) p).2.1⟩:Lm)])) (negF p)).1))] rfl rfl rfl ?_
      refine zc 15 rfl (tc_ fn43 rfl (qneg (qOf ((d (withL s (out ++ [(⟨(i:Int),false,qOf (rndB (d (withL s out) p).1 false bits),(d (withL s out) p).2.1⟩:Lm)])) (negF p)).1)) ((d (withL s (out ++ [(⟨(i:Int),false,qOf (rndB (d (withL s out) p).1 false bits),(d (withL s out) p).2.1⟩:Lm)])) (negF p)).1) (qOf_q _) (Br.use (by omega))) (zl 7 rfl ?_))
      refine nz_ [so 0 _,so 3 _,so 4 _,so 5 _,so 8 _,so 9 _,so 13 (D.val (.int .i64 (((best (out ++ [(⟨(i:Int),false,qOf (rndB (d (withL s out) p).1 false bits),(d (withL s out) p).2.1⟩:Lm)]) ((i:Nat):Int)).2:Nat):Int))),so 14 (D.val (.int .i64 (-1))),so 2003 _,so 2004 _,so 2005 _,so 2006 _,so 2039 _,so 2040 _,so 2041 _] [_,_,_,_,_,_,_,none,none,none,hb_ 34 (qL (-((d (withL s (out ++ [(⟨(i:Int),false,qOf (rndB (d (withL s out) p).1 false bits),(d (withL s out) p).2.1⟩:Lm)])) (negF p)).1)))] rfl rfl ?_
      refine zc 4 rfl (tc_ fn44 rfl (round_p (-(d (withL s (out ++ [(⟨(i:Int),false,qOf (rndB (d (withL s out) p).1 false bits),(d (withL s out) p).2.1⟩:Lm)])) (negF p)).1) true bits h2hb2 (by omega) h0 h4) (zl 3 rfl ?_))
      refine mt_ [so 0 (D.bool true),so 3 (D.ptr 1 0),so 4 (D.ptr 5 0),so 8 (D.ptr 10 0),so 9 (D.v (V.one (El.row muE ((d (withL s (out ++ [(⟨(i:Int),false,qOf (rndB (d (withL s out) p).1 false bits),(d (withL s out) p).2.1⟩:Lm)])) (negF p)).2.1)))),so 59 (D.bool (strong (out ++ [(⟨(i:Int),false,qOf (rndB (d (withL s out) p).1 false bits),(d (withL s out) p).2.1⟩:Lm)]) i true (rndB (-(d (withL s (out ++ [(⟨(i:Int),false,qOf (rndB (d (withL s out) p).1 false bits),(d (withL s out) p).2.1⟩:Lm)])) (negF p)).1) true bits))),so 2003 (D.ptr 0 0),so 2004 (D.ptr 1 0),so 2005 (D.ptr 2 0),so 2006 (D.ptr 3 0),so 2039 (D.v (V.one (El.row afE s.q.g.us))),so 2040 (D.val (.int .i64 ((s.q.g.us.length:Nat):Int))),so 2041 (D.val (.int .i64 ((i:Nat):Int)))] [hbq 83 [Leaf.val (ifV tD cs)] q1,hbq 42 (quL s.q ++ [El.row dcE s.path,Leaf.own 4 (n + 1)]) q2,hbq 3 [Leaf.val (.int .i64 bits)] q3,hb_ 42 scZ,hgr 64 6 lmE (out ++ [⟨((i:Nat):Int),false,(qOf ((rndB (d (withL s out) p).1 false bits))),(d (withL s out) p).2.1⟩]) (n + 1),hbq 3 [Leaf.val (.int .i64 ((i:Nat):Int))] q6,hbq 36 (afL p) q7,none,none,none,hb_ 34 (qL (rndB (-(d (withL s (out ++ [(⟨(i:Int),false,qOf (rndB (d (withL s out) p).1 false bits),(d (withL s out) p).2.1⟩:Lm)])) (negF p)).1) true bits))] ?_ ?_
      ·refine dr_ 0 [] [] (dz 1 rfl ?_)
       by_cases hk2:(best (out ++ [(⟨(i:Int),false,qOf (rndB (d (withL s out) p).1 false bits),(d (withL s out) p).2.1⟩:Lm)]) ((i:Nat):Int)).2 = 0
       ·refine kq_ rfl (eqT rfl) (dz 13 rfl (kis_ (strong (out ++ [(⟨(i:Int),false,qOf (rndB (d (withL s out) p).1 false bits),(d (withL s out) p).2.1⟩:Lm)]) i true (rndB (-(d (withL s (out ++ [(⟨(i:Int),false,qOf (rndB (d (withL s out) p).1 false bits),(d (withL s out) p).2.1⟩:Lm)])) (negF p)).1) true bits)) rfl (by exact (strong_ut (.inl hk2)).symm) (DK_nil ?_)))
        exact mx_ rfl
       ·refine kq_ rfl (eqF rfl) (dz 3 rfl ?_)
        obtain ⟨y,hy,_,_,hly,hy0,hyl⟩:=best_hi hk2
        haveI hyB:=hso_B_2 y (List.mem_of_getElem? hy)
        refine kq_ rfl (Jq_view (r:=4) (n:=(n + 1)) (x:=V.one (Leaf.own 4 (n + 1))) (x':=V.one (El.row lmE (out ++ [⟨((i:Nat):Int),false,(qOf ((rndB (d (withL s out) p).1 false bits))),(d (withL s out) p).2.1⟩]))) (Jq_load rfl rfl rfl (by decide) ty40 rfl) (RowAt.ofE lmE (out ++ [⟨((i:Nat):Int),false,(qOf ((rndB (d (withL s out) p).1 false bits))),(d (withL s out) p).2.1⟩]) rfl (by decide)) (by decide) (.inr ⟨rfl,rfl⟩)) ?_
        refine dz 1 rfl (kq_ rfl (jsb ((best (out ++ [(⟨(i:Int),false,qOf (rndB (d (withL s out) p).1 false bits),(d (withL s out) p).2.1⟩:Lm)]) ((i:Nat):Int)).2 - 1) rfl) (kq_ rfl (jix ((best (out ++ [(⟨(i:Int),false,qOf (rndB (d (withL s out) p).1 false bits),(d (withL s out) p).2.1⟩:Lm)]) ((i:Nat):Int)).2 - 1) hy rfl) (kq_ rfl (jft rfl) (kq_ rfl (jlr rfl) ?_))))
        refine kc_ fn45 rfl (qcmp (qOf ((rndB (-(d (withL s (out ++ [(⟨(i:Int),false,qOf (rndB (d (withL s out) p).1 false bits),(d (withL s out) p).2.1⟩:Lm)])) (negF p)).1) true bits))) ((rndB (-(d (withL s (out ++ [(⟨(i:Int),false,qOf (rndB (d (withL s out) p).1 false bits),(d (withL s out) p).2.1⟩:Lm)])) (negF p)).1) true bits)) (qOf_q _) (Br.use (by omega)) y.v (y.v.q) rfl (Fq.use (x:=y.v) (by omega))) ?_
        refine dz 1 rfl ?_
        by_cases hc2:rndB (-(d (withL s (out ++ [(⟨(i:Int),false,qOf (rndB (d (withL s out) p).1 false bits),(d (withL s out) p).2.1⟩:Lm)])) (negF p)).1) true bits < lv (out ++ [(⟨(i:Int),false,qOf (rndB (d (withL s out) p).1 false bits),(d (withL s out) p).2.1⟩:Lm)]) (best (out ++ [(⟨(i:Int),false,qOf (rndB (d (withL s out) p).1 false bits),(d (withL s out) p).2.1⟩:Lm)]) ((i:Nat):Int)).2
        ·refine kq_ rfl (eqT rfl (by rw [cmpq_lt1,← hly];exact hc2)) (dz 1 rfl ?_)
         refine kis_ (strong (out ++ [(⟨(i:Int),false,qOf (rndB (d (withL s out) p).1 false bits),(d (withL s out) p).2.1⟩:Lm)]) i true (rndB (-(d (withL s (out ++ [(⟨(i:Int),false,qOf (rndB (d (withL s out) p).1 false bits),(d (withL s out) p).2.1⟩:Lm)])) (negF p)).1) true bits)) rfl (by exact (strong_ut (.inr hc2)).symm) (DK_nil ?_)
         exact mx_ rfl
        ·refine kq_ rfl (eqF rfl (fun e=>hc2 (by rw [hly];exact cmpq_lt1.1 e))) (dz 1 rfl ?_)
         refine kis_ (strong (out ++ [(⟨(i:Int),false,qOf (rndB (d (withL s out) p).1 false bits),(d (withL s out) p).2.1⟩:Lm)]) i true (rndB (-(d (withL s (out ++ [(⟨(i:Int),false,qOf (rndB (d (withL s out) p).1 false bits),(d (withL s out) p).2.1⟩:Lm)])) (negF p)).1) true bits)) rfl (by exact (strong_uf hk2 hc2).symm) (DK_nil ?_)
         exact mx_ rfl
      ·refine Tc_cond rfl (fun hs2=>?_) (fun hs2=>?_)
       ·refine zc 8 rfl (te_ rfl (Je_buildSlice rfl un40 ty64 tz64 rfl (by decide) (by decide) rfl (by decide) rfl) ?_)
        refine te_ rfl (jap (e:=lmE) (⟨((i:Nat):Int),true,(qOf ((rndB (-(d (withL s (out ++ [(⟨(i:Int),false,qOf (rndB (d (withL s out) p).1 false bits),(d (withL s out) p).2.1⟩:Lm)])) (negF p)).1) true bits))),(d (withL s (out ++ [(⟨(i:Int),false,qOf (rndB (d (withL s out) p).1 false bits),(d (withL s out) p).2.1⟩:Lm)])) (negF p)).2.1⟩) rfl rfl) (zl 3 rfl ?_)
        refine At_retI0 [(3,some (D.ptr 0 0)),(4,some (D.ptr 1 0)),(5,some (D.ptr 2 0)),(6,some (D.ptr 3 0)),(39,some (D.v (V.one (El.row afE s.q.g.us)))),(40,some (D.val (.int .i64 ((s.q.g.us.length:Nat):Int)))),(41,some (D.val (.int .i64 ((i:Nat):Int))))] d16 s16 rfl rfl ⟨rfl,rfl,rfl,rfl,rfl,rfl,rfl,trivial⟩ (zl 4 rfl (tq_ rfl (jad (i + 1) rfl) (zl 2 rfl ?_)))
        refine At_free 5 (At_free 6 (At_free 10 (trim_ 5 rfl ?_)))
        exact nx_ ⟨i + 1,_,_,rfl,rfl,rfl,hi,by rw [runN_get hp,← hout,hA,sideN_t (by exact hb2) (by exact hs2)];rfl⟩ rfl
       ·refine zc 1 rfl (At_retI0 [(3,some (D.ptr 0 0)),(4,some (D.ptr 1 0)),(5,some (D.ptr 2 0)),(6,some (D.ptr 3 0)),(39,some (D.v (V.one (El.row afE s.q.g.us)))),(40,some (D.val (.int .i64 ((s.q.g.us.length:Nat):Int)))),(41,some (D.val (.int .i64 ((i:Nat):Int))))] d16 s16 rfl rfl ⟨rfl,rfl,rfl,rfl,rfl,rfl,rfl,trivial⟩ (zl 4 rfl (tq_ rfl (jad (i + 1) rfl) ?_)))
        refine zl 2 rfl (At_free 5 (At_free 6 (At_free 10 (trim_ 5 rfl ?_))))
        exact nx_ ⟨i + 1,_,_,rfl,rfl,rfl,hi,by rw [runN_get hp,← hout,hA,sideN_f2 (by exact hs2)];simp only [List.append_nil]⟩ rfl
    ·refine zc 1 rfl ?_
     refine At_retI0 [(3,some (D.ptr 0 0)),(4,some (D.ptr 1 0)),(5,some (D.ptr 2 0)),(6,some (D.ptr 3 0)),(10,some (D.val (.func (.func 39) #[] #[.pointer (some ⟨q7,0,none⟩),.pointer (some ⟨q1,0,none⟩),.pointer (some ⟨q2,0,none⟩),.pointer (some ⟨q6,0,none⟩),.pointer (some ⟨q3,0,none⟩)]))),(39,some (D.v (V.one (El.row afE s.q.g.us)))),(40,some (D.val (.int .i64 ((s.q.g.us.length:Nat):Int)))),(41,some (D.val (.int .i64 ((i:Nat):Int))))] d8 s8 rfl rfl ⟨rfl,rfl,rfl,rfl,rfl,rfl,rfl,rfl,trivial⟩ ?_
     refine zl 2 rfl ?_
     have hA:runA d s bits out i p = out:=by unfold runA;rw [sideN_f2 (by exact hs1),List.append_nil]
     have hso1:SOk (withL s out):=by rw [← hA];exact LOk.withL hs hrA.1 (by have:=hrA.2;have hl2:out.length≤s.lems.length + 2 * i:=hln;omega)
     refine zc 2 rfl ?_
     refine Tl_inlineF (dc:=[D.ptr 6 0,D.ptr 0 0,D.ptr 1 0,D.ptr 5 0,D.ptr 2 0]) rfl rfl rfl ⟨.inr ⟨_,_,_,rfl,rfl,rfl,rfl,rfl⟩,.inr ⟨_,_,_,rfl,rfl,rfl,rfl,rfl⟩,.inr ⟨_,_,_,rfl,rfl,rfl,rfl,rfl⟩,.inr ⟨_,_,_,rfl,rfl,rfl,rfl,rfl⟩,.inr ⟨_,_,_,rfl,rfl,rfl,rfl,rfl⟩,trivial⟩ Tryz.func39 rfl rfl Tryz.ntmps39 (Nat.le_of_ble_eq_true rfl) rfl (fun a20 d20 s20=>?_)
     refine qc_ (zc 14 rfl (dr_ 0 [(3,9)] [9] (dz 1 rfl (kc_ fn41 rfl (qof_spec (-1) (by decide) (by decide)) (kc_ fn40 rfl (scale_p p ((-1:Int):Rat) hpl_ (by omega) (by omega) (by omega)) (dz 1 rfl (DK_nil (za 4 rfl (tq_ rfl (jvl 11 rfl rfl) ?_)))))))))
     refine zl 1 rfl (te_ rfl (Je_invoke rfl rfl hm hfL rfl (hL (withL s out) (negF p) hso1 hnf2) hone) (zl 17 rfl ?_))
     refine Tc_cond rfl (fun hb2n=>?_) (fun hb2n=>?_)
     ·refine Tc_retI0 [(3,some (D.ptr 0 0)),(4,some (D.ptr 1 0)),(5,some (D.ptr 2 0)),(6,some (D.ptr 3 0)),(39,some (D.v (V.one (El.row afE s.q.g.us)))),(40,some (D.val (.int .i64 ((s.q.g.us.length:Nat):Int)))),(41,some (D.val (.int .i64 ((i:Nat):Int))))] (fun _ _ h=>h) d20 s20 rfl rfl ⟨rfl,rfl,rfl,rfl,rfl,rfl,rfl,trivial⟩ (zl 4 rfl (tq_ rfl (jad (i + 1) rfl) ?_))
      refine zl 2 rfl (At_free 5 (At_free 6 (At_free 8 (At_free 9 (At_free 10 (trim_ 5 rfl ?_))))))
      exact nx_ ⟨i + 1,_,_,rfl,rfl,rfl,hi,by rw [runN_get hp,← hout,hA,sideN_f1 (by have h:(d (withL s out) (negF p)).2.2 = false:=(by simpa using hb2n);exact h)];simp only [List.append_nil]⟩ rfl
     ·refine zc 3 rfl ?_
      have hb2:(d (withL s out) (negF p)).2.2 = true:=by simpa using hb2n
      haveI h1hb2:Hb (d (withL s out) (negF p)).1 (KB i - 4200):=hdm (withL s out) hso1 i (negF p) (by exact hi) (by exact hnf) (by exact hb2)
      have h2hb2:Hb (-(d (withL s out) (negF p)).1) (KB i - 4200):=Hb.neg
      haveI h3hb2:Br (d (withL s out) (negF p)).1 34402:=h1hb2.limb (by omega)
      haveI:Br (rndB (-(d (withL s out) (negF p)).1) true bits) 38501:=((rndB_hb (up:=true) (bits:=bits) h2hb2 (by omega)).mono (show _≤38500 by omega)).br
      have hso_B_2:∀ m∈out,Fq m.v 34401:=hso1.B
      have hso_L_2:(out).length≤100:=hso1.ll
      refine zc 1 rfl (tq_ rfl (jvl 11 rfl rfl) (zl 1 rfl (tc_ fn42 rfl (best_p (withL s out) hso_B_2 (by omega) (by show (out).length≤_;omega) ((i:Nat):Int)) (zl 8 rfl ?_))))
      refine nf_ [8,9] [so 0 (D.bool true),so 3 _,so 4 _,so 5 _,so 8 (D.ptr 10 0),so 9 (D.v (V.one (El.row muE ((d (withL s out) (negF p)).2.1)))),so 11 _,so 12 _,so 2003 _,so 2004 _,so 2005 _,so 2006 _,so 2039 _,so 2040 _,so 2041 _] [_,_,_,_,_,_,_,none,none,none,hb_ 34 (qL ((d (withL s out) (negF p)).1))] rfl rfl rfl (zc 15 rfl ?_)
      refine tc_ fn43 rfl (qneg (qOf ((d (withL s out) (negF p)).1)) ((d (withL s out) (negF p)).1) (qOf_q _) (Br.use (by omega))) (zl 7 rfl ?_)
      refine nz_ [so 0 _,so 3 _,so 4 _,so 5 _,so 8 _,so 9 _,so 13 (D.val (.int .i64 (((best out ((i:Nat):Int)).2:Nat):Int))),so 14 (D.val (.int .i64 (-1))),so 2003 _,so 2004 _,so 2005 _,so 2006 _,so 2039 _,so 2040 _,so 2041 _] [_,_,_,_,_,_,_,none,none,none,hb_ 34 (qL (-((d (withL s out) (negF p)).1)))] rfl rfl (zc 4 rfl ?_)
      refine tc_ fn44 rfl (round_p (-(d (withL s out) (negF p)).1) true bits h2hb2 (by omega) h0 h4) (zl 3 rfl ?_)
      refine mt_ [so 0 (D.bool true),so 3 (D.ptr 1 0),so 4 (D.ptr 5 0),so 8 (D.ptr 10 0),so 9 (D.v (V.one (El.row muE ((d (withL s out) (negF p)).2.1)))),so 59 (D.bool (strong out i true (rndB (-(d (withL s out) (negF p)).1) true bits))),so 2003 (D.ptr 0 0),so 2004 (D.ptr 1 0),so 2005 (D.ptr 2 0),so 2006 (D.ptr 3 0),so 2039 (D.v (V.one (El.row afE s.q.g.us))),so 2040 (D.val (.int .i64 ((s.q.g.us.length:Nat):Int))),so 2041 (D.val (.int .i64 ((i:Nat):Int)))] [hbq 83 [Leaf.val (ifV tD cs)] q1,hbq 42 (quL s.q ++ [El.row dcE s.path,Leaf.own 4 n]) q2,hbq 3 [Leaf.val (.int .i64 bits)] q3,hb_ 42 scZ,hgr 64 6 lmE out n,hbq 3 [Leaf.val (.int .i64 ((i:Nat):Int))] q6,hbq 36 (afL p) q7,none,none,none,hb_ 34 (qL (rndB (-(d (withL s out) (negF p)).1) true bits))] ?_ ?_
      ·refine dr_ 0 [] [] (dz 1 rfl ?_)
       by_cases hk2:(best out ((i:Nat):Int)).2 = 0
       ·refine kq_ rfl (eqT rfl) (dz 13 rfl (kis_ (strong out i true (rndB (-(d (withL s out) (negF p)).1) true bits)) rfl (by exact (strong_ut (.inl hk2)).symm) (DK_nil ?_)))
        exact mx_ rfl
       ·refine kq_ rfl (eqF rfl) (dz 3 rfl ?_)
        obtain ⟨y,hy,_,_,hly,hy0,hyl⟩:=best_hi hk2
        haveI hyB:=hso_B_2 y (List.mem_of_getElem? hy)
        refine kq_ rfl (Jq_view (r:=4) (n:=n) (x:=V.one (Leaf.own 4 n)) (x':=V.one (El.row lmE out)) (Jq_load rfl rfl rfl (by decide) ty40 rfl) (RowAt.ofE lmE out rfl (by decide)) (by decide) (.inr ⟨rfl,rfl⟩)) (dz 1 rfl (kq_ rfl (jsb ((best out ((i:Nat):Int)).2 - 1) rfl) (kq_ rfl (jix ((best out ((i:Nat):Int)).2 - 1) hy rfl) (kq_ rfl (jft rfl) (kq_ rfl (jlr rfl) ?_)))))
        refine kc_ fn45 rfl (qcmp (qOf ((rndB (-(d (withL s out) (negF p)).1) true bits))) ((rndB (-(d (withL s out) (negF p)).1) true bits)) (qOf_q _) (Br.use (by omega)) y.v (y.v.q) rfl (Fq.use (x:=y.v) (by omega))) (dz 1 rfl ?_)
        by_cases hc2:rndB (-(d (withL s out) (negF p)).1) true bits < lv out (best out ((i:Nat):Int)).2
        ·refine kq_ rfl (eqT rfl (by rw [cmpq_lt1,← hly];exact hc2)) (dz 1 rfl (kis_ (strong out i true (rndB (-(d (withL s out) (negF p)).1) true bits)) rfl (by exact (strong_ut (.inr hc2)).symm) (DK_nil ?_)))
         exact mx_ rfl
        ·refine kq_ rfl (eqF rfl (fun e=>hc2 (by rw [hly];exact cmpq_lt1.1 e))) (dz 1 rfl (kis_ (strong out i true (rndB (-(d (withL s out) (negF p)).1) true bits)) rfl (by exact (strong_uf hk2 hc2).symm) (DK_nil ?_)))
         exact mx_ rfl
      ·refine Tc_cond rfl (fun hs2=>?_) (fun hs2=>?_)
       ·refine zc 8 rfl (te_ rfl (Je_buildSlice rfl un40 ty64 tz64 rfl (by decide) (by decide) rfl (by decide) rfl) (te_ rfl (jap (e:=lmE) (⟨((i:Nat):Int),true,(qOf ((rndB (-(d (withL s out) (negF p)).1) true bits))),(d (withL s out) (negF p)).2.1⟩) rfl rfl) (zl 3 rfl ?_)))
        refine At_retI0 [(3,some (D.ptr 0 0)),(4,some (D.ptr 1 0)),(5,some (D.ptr 2 0)),(6,some (D.ptr 3 0)),(39,some (D.v (V.one (El.row afE s.q.g.us)))),(40,some (D.val (.int .i64 ((s.q.g.us.length:Nat):Int)))),(41,some (D.val (.int .i64 ((i:Nat):Int))))] d20 s20 rfl rfl ⟨rfl,rfl,rfl,rfl,rfl,rfl,rfl,trivial⟩ (zl 4 rfl (tq_ rfl (jad (i + 1) rfl) (zl 2 rfl ?_)))
        refine At_free 5 (At_free 6 (At_free 10 (trim_ 5 rfl ?_)))
        exact nx_ ⟨i + 1,_,_,rfl,rfl,rfl,hi,by rw [runN_get hp,← hout,hA,sideN_t (by exact hb2) (by exact hs2)];rfl⟩ rfl
       ·refine zc 1 rfl (At_retI0 [(3,some (D.ptr 0 0)),(4,some (D.ptr 1 0)),(5,some (D.ptr 2 0)),(6,some (D.ptr 3 0)),(39,some (D.v (V.one (El.row afE s.q.g.us)))),(40,some (D.val (.int .i64 ((s.q.g.us.length:Nat):Int)))),(41,some (D.val (.int .i64 ((i:Nat):Int))))] d20 s20 rfl rfl ⟨rfl,rfl,rfl,rfl,rfl,rfl,rfl,trivial⟩ (zl 4 rfl (tq_ rfl (jad (i + 1) rfl) ?_)))
        refine zl 2 rfl (At_free 5 (At_free 6 (At_free 10 (trim_ 5 rfl ?_))))
        exact nx_ ⟨i + 1,_,_,rfl,rfl,rfl,hi,by rw [runN_get hp,← hout,hA,sideN_f2 (by exact hs2)];simp only [List.append_nil]⟩ rfl
 ·refine tq_ rfl (ltF rfl) (zl 10 rfl ?_)
  have hie:i = s.q.g.us.length:=by omega
  rw [hie] at hout
  refine zc 1 rfl (tq_ rfl (jvl 11 rfl rfl) (zl 4 rfl ?_))
  exact r2_ hq_ rfl (by unfold runM;rw [← hout] <;> rfl)
end Go.Proofs.YtjdbopkbfkgpdaaGreatDoor
set_option linter.unusedSimpArgs false
set_option linter.unusedVariables false
namespace Go.Proofs.YtjdbopkbfkgpdaaGreatDoor
open Go Go.RowKit Rc
set_option maxRecDepth 10000 in
theorem samem_r (l:List Mu) (hl:l.length≤1000000):Ctr Tryz.prog 23 [V.one (El.row muE l),V.one (El.row muE l)] (R.one (V.one (Leaf.val (.bool true)))):=by
 refine bd_ Tryz.func23 Tryz.ntmps23 rfl (fun w0 A0=>?_)
 refine zc 9 rfl (tq_ rfl (jln rfl) (zl 1 rfl (tq_ rfl (jln rfl) (tq_ rfl (neF rfl) (zl 12 rfl (lpR_ (fun m Γ H=>∃ (i:Nat),l.length - i = m∧Γ = [(0,some (D.v (V.one (El.row muE l)))),(1,some (D.v (V.one (El.row muE l)))),(5,some (D.val (.int .i64 ((i:Nat):Int))))]∧H = []∧i≤l.length) ⟨0,rfl,rfl,rfl,Nat.zero_le _⟩ rfl ?_))))))
 rintro m Γ H ⟨i,rfl,rfl,rfl,hi0⟩
 refine zc 5 rfl (tq_ rfl (jln rfl) ?_)
 by_cases hi:i < l.length
 ·refine tq_ rfl (ltT rfl) (zl 8 rfl ?_)
  obtain ⟨x,hx⟩:∃ x,l[i]? = some x:=⟨_,List.getElem?_eq_getElem hi⟩
  refine dr_ 0 [] [] (dz 2 rfl (kq_ rfl (jix i hx rfl) (kq_ rfl (jft rfl) (kq_ rfl (jlr rfl) (dz 2 rfl (kq_ rfl (jix i hx rfl) (kq_ rfl (jft rfl) (kq_ rfl (jlr rfl) (kq_ rfl (Jq_neq4 rfl rfl rfl row_i4 (d:=false) (by rw [eq4_t rfl];rfl)) ?_)))))))))
  refine dz 3 rfl (kq_ rfl (jix i hx rfl) (kq_ rfl (jfr rfl) (kq_ rfl (jlr rfl) (dz 2 rfl (kq_ rfl (jix i hx rfl) (kq_ rfl (jfr rfl) (kq_ rfl (jlr rfl) (kc_ fn24 rfl (rqsame x.c x.c) (kis_ true rfl (sameQ_self _) ?_)))))))))
  refine dz 2 rfl (DK_nil (za 7 rfl (tq_ rfl (jad (i + 1) rfl) (zl 2 rfl ?_))))
  exact nx_ ⟨i + 1,rfl,rfl,rfl,hi⟩ rfl
 ·refine tq_ rfl (ltF rfl) (zl 13 rfl ?_)
  exact r1_ hq_ rfl rfl
set_option maxRecDepth 10000 in
theorem samel_r (l:List Lm) (hl:l.length≤1000000) (hp:∀ m∈l,m.pf.length≤1000000):Ctr Tryz.prog 15 [V.one (El.row lmE l),V.one (El.row lmE l)] (R.one (V.one (Leaf.val (.bool true)))):=by
 refine bd_ Tryz.func15 Tryz.ntmps15 rfl (fun w0 A0=>?_)
 refine zc 9 rfl (tq_ rfl (jln rfl) (zl 1 rfl (tq_ rfl (jln rfl) (tq_ rfl (neF rfl) (zl 12 rfl (lpR_ (fun m Γ H=>∃ (i:Nat),l.length - i = m∧Γ = [(0,some (D.v (V.one (El.row lmE l)))),(1,some (D.v (V.one (El.row lmE l)))),(5,some (D.val (.int .i64 ((i:Nat):Int))))]∧H = []∧i≤l.length) ⟨0,rfl,rfl,rfl,Nat.zero_le _⟩ rfl ?_))))))
 rintro m Γ H ⟨i,rfl,rfl,rfl,hi0⟩
 refine zc 5 rfl (tq_ rfl (jln rfl) ?_)
 by_cases hi:i < l.length
 ·refine tq_ rfl (ltT rfl) (zl 8 rfl ?_)
  obtain ⟨x,hx⟩:∃ x,l[i]? = some x:=⟨_,List.getElem?_eq_getElem hi⟩
  have hpx:=hp x (List.mem_of_getElem? hx)
  refine dr_ 0 [] [] (dz 2 rfl (kq_ rfl (jix i hx rfl) (kq_ rfl (jfr rfl) (kq_ rfl (jli rfl) (dz 2 rfl (kq_ rfl (jix i hx rfl) (kq_ rfl (jfr rfl) (kq_ rfl (jli rfl) (kq_ rfl (neF rfl) ?_)))))))))
  refine dz 3 rfl (kq_ rfl (jix i hx rfl) (kq_ rfl (jfr rfl) (kq_ rfl (jli rfl) (dz 2 rfl (kq_ rfl (jix i hx rfl) (kq_ rfl (jfr rfl) (kq_ rfl (jli rfl) (kq_ rfl (Jq_neq_bool rfl rfl rfl un4 (d:=false) (by simp)) (dz 4 rfl ?_)))))))))
  refine kq_ rfl (jix i hx rfl) (kq_ rfl (jft rfl) (kq_ rfl (jlr rfl) (dz 2 rfl (kq_ rfl (jix i hx rfl) (kq_ rfl (jft rfl) (kq_ rfl (jlr rfl) (kc_ fn24 rfl (rqsame x.v x.v) (kis_ true rfl (sameQ_self _) (dz 5 rfl ?_)))))))))
  refine kq_ rfl (jix i hx rfl) (kq_ rfl (jfr rfl) (kq_ rfl (jli rfl) (dz 2 rfl (kq_ rfl (jix i hx rfl) (kq_ rfl (jfr rfl) (kq_ rfl (jli rfl) (kc_ fn23 rfl (samem_r x.pf hpx) (dz 2 rfl (DK_nil ?_)))))))))
  refine za 7 rfl (tq_ rfl (jad (i + 1) rfl) (zl 2 rfl ?_))
  exact nx_ ⟨i + 1,rfl,rfl,rfl,hi⟩ rfl
 ·refine tq_ rfl (ltF rfl) (zl 13 rfl ?_)
  exact r1_ hq_ rfl rfl
end Go.Proofs.YtjdbopkbfkgpdaaGreatDoor
set_option linter.unusedSimpArgs false
set_option linter.unusedVariables false
namespace Rc
open Go Go.RowKit
theorem lv_app {l r:List Lm} {n:Nat} (h0:0 < n) (h:n≤l.length):lv (l ++ r) n = lv l n:=by
 unfold lv;rw [List.getElem?_append_left (by omega)]
theorem bestn_app (l r:List Lm) (u:Int):∀ n,n≤l.length→bestn (l ++ r) u n = bestn l u n
 | 0,_=>rfl
 | n + 1,h=>by
  obtain ⟨h1,h2,_,_⟩:=bestn_ok l u n
  rw [bestn_succ,bestn_succ,bestn_app l r u n (by omega)]
  unfold bstp
  rw [List.getElem?_append_left (by omega)]
  have e1:(bestn l u n).1≠0→lv (l ++ r) (bestn l u n).1 = lv l (bestn l u n).1:=fun h=>lv_app (by omega) (by omega)
  have e2:(bestn l u n).2≠0→lv (l ++ r) (bestn l u n).2 = lv l (bestn l u n).2:=fun h=>lv_app (by omega) (by omega)
  cases l[n]? with
  | none=>rfl
  | some m=>
   simp only []
   by_cases h3:(bestn l u n).1 = 0 <;> by_cases h4:(bestn l u n).2 = 0 <;> simp [h3,h4,e1,e2]
theorem bestn_skip {l:List Lm} {u:Int} {k:Nat} (h:∀ (i:Nat) (m:Lm),k≤i→l[i]? = some m→m.unit≠u):∀ n,bestn l u (k + n) = bestn l u k
 | 0=>rfl
 | n + 1=>by
  rw [show k + (n + 1) = (k + n) + 1 by omega,bestn_succ,bestn_skip h n]
  cases hx:l[k + n]? with
  | none=>unfold bstp;simp only [hx]
  | some m=>exact bstp_ne hx (h _ m (by omega) hx)
theorem best_app {l r:List Lm} {u:Int} (h:∀ m∈r,m.unit≠u):best (l ++ r) u = best l u:=by
 unfold best
 rw [List.length_append,bestn_skip (k:=l.length) (fun i m hi hm=>?_),bestn_app _ _ _ _ (Nat.le_refl _)]
 rw [List.getElem?_append_right hi] at hm
 exact h m (List.mem_of_getElem? hm)
theorem bestn_max (l:List Lm) (u:Int):∀ n (i:Nat) (m:Lm),i < n→l[i]? = some m→m.unit = u →
  (m.up = false→(bestn l u n).1≠0∧m.v.q≤lv l (bestn l u n).1)∧(m.up = true→(bestn l u n).2≠0∧lv l (bestn l u n).2≤m.v.q)
 | 0,i,m,hi,_,_=>by omega
 | n + 1,i,m,hi,hm,hu=>by
  rw [bestn_succ]
  cases hx:l[n]? with
  | none=>
   have hin:i < n:=by have:=(List.getElem?_eq_some_iff.1 hm).1;have:=List.getElem?_eq_none_iff.1 hx;omega
   unfold bstp;simp only [hx]
   exact bestn_max l u n i m hin hm hu
  | some x=>
   have hlx:lv l (n + 1) = x.v.q:=lv_get (by simpa using hx)
   by_cases hin:i = n
   ·subst hin
    rw [hm] at hx
    cases hx
    refine ⟨fun hup=>?_,fun hup=>?_⟩
    ·by_cases hc:(bestn l u i).1 = 0 ∨ lv l (bestn l u i).1 < m.v.q
     ·rw [bstp_lt hm hu hup hc];exact ⟨by simp,by rw [hlx];exact Rat.le_refl⟩
     ·rw [bstp_lf hm hu hup hc];exact ⟨fun e=>hc (.inl e),Rat.not_lt.1 (fun e=>hc (.inr e))⟩
    ·by_cases hc:(bestn l u i).2 = 0 ∨ m.v.q < lv l (bestn l u i).2
     ·rw [bstp_ut hm hu hup hc];exact ⟨by simp,by rw [hlx];exact Rat.le_refl⟩
     ·rw [bstp_uf hm hu hup hc];exact ⟨fun e=>hc (.inl e),Rat.not_lt.1 (fun e=>hc (.inr e))⟩
   ·obtain ⟨h1,h2⟩:=bestn_max l u n i m (by omega) hm hu
    by_cases hxu:x.unit = u
    ·cases hxup:x.up
     ·by_cases hc:(bestn l u n).1 = 0 ∨ lv l (bestn l u n).1 < x.v.q
      ·rw [bstp_lt hx hxu hxup hc]
       refine ⟨fun hup=>⟨by simp,?_⟩,h2⟩
       show m.v.q≤lv l (n + 1)
       rw [hlx]
       rcases hc with hc | hc
       ·exact absurd hc (h1 hup).1
       ·exact Rat.le_of_lt (Std.lt_of_le_of_lt (h1 hup).2 hc)
      ·rw [bstp_lf hx hxu hxup hc];exact ⟨h1,h2⟩
     ·by_cases hc:(bestn l u n).2 = 0 ∨ x.v.q < lv l (bestn l u n).2
      ·rw [bstp_ut hx hxu hxup hc]
       refine ⟨h1,fun hup=>⟨by simp,?_⟩⟩
       show lv l (n + 1)≤m.v.q
       rw [hlx]
       rcases hc with hc | hc
       ·exact absurd hc (h2 hup).1
       ·exact Rat.le_of_lt (Std.lt_of_lt_of_le hc (h2 hup).2)
      ·rw [bstp_uf hx hxu hxup hc];exact ⟨h1,h2⟩
    ·rw [bstp_ne hx hxu];exact ⟨h1,h2⟩
theorem best_max {l:List Lm} {u:Int} {m:Lm} (hm:m∈l) (hu:m.unit = u):(m.up = false→(best l u).1≠0∧m.v.q≤lv l (best l u).1)∧(m.up = true→(best l u).2≠0∧lv l (best l u).2≤m.v.q):=by
 obtain ⟨i,hi⟩:=List.getElem?_of_mem hm
 exact bestn_max l u l.length i m (List.getElem?_eq_some_iff.1 hi).1 hi hu
theorem best_more {l r:List Lm} {u:Int}:((best l u).1≠0→(best (l ++ r) u).1≠0∧lv l (best l u).1≤lv (l ++ r) (best (l ++ r) u).1)∧((best l u).2≠0→(best (l ++ r) u).2≠0∧lv (l ++ r) (best (l ++ r) u).2≤lv l (best l u).2):=by
 refine ⟨fun h=>?_,fun h=>?_⟩
 ·obtain ⟨m,h1,h2,h3,h4,_⟩:=best_lo h
  rw [h4]
  exact (best_max (List.mem_append_left _ (List.mem_of_getElem? h1)) h2).1 h3
 ·obtain ⟨m,h1,h2,h3,h4,_⟩:=best_hi h
  rw [h4]
  exact (best_max (List.mem_append_left _ (List.mem_of_getElem? h1)) h2).2 h3
theorem lv_zero_app {l r:List Lm} {u:Int}:((best l u).1≠0→lv (l ++ r) (best l u).1 = lv l (best l u).1)∧((best l u).2≠0→lv (l ++ r) (best l u).2 = lv l (best l u).2):=
 ⟨fun h=>lv_app (by omega) (best_le l u).1,fun h=>lv_app (by omega) (best_le l u).2⟩
def Agn (k:Nat) (l l':List Lm):Prop:=∀ u:Nat,u < k→best l (u:Int) = best l' (u:Int)∧((best l (u:Int)).1≠0→lv l (best l (u:Int)).1 = lv l' (best l (u:Int)).1)∧((best l (u:Int)).2≠0→lv l (best l (u:Int)).2 = lv l' (best l (u:Int)).2)
theorem Agn.app {k:Nat} {l r:List Lm} (h:∀ m∈r,(k:Int)≤m.unit):Agn k (l ++ r) l:=fun u hu=>by
 have e:best (l ++ r) (u:Int) = best l (u:Int):=best_app (fun m hm=>by have:=h m hm;omega)
 refine ⟨e,?_,?_⟩
 ·rw [e];exact lv_zero_app.1
 ·rw [e];exact lv_zero_app.2
theorem atMost_agn {k inp v:Nat} {l l':List Lm} (h:Agn k l l') (hv:v < inp + k):atMost inp l v = atMost inp l' v:=by
 by_cases h1:v < inp
 ·unfold atMost;rw [if_pos h1,if_pos h1]
 ·obtain ⟨e1,e2,e3⟩:=h (v - inp) (by omega)
  unfold atMost
  rw [if_neg h1,if_neg h1,← e1]
  by_cases hz:(best l ((v - inp:Nat):Int)).1 = 0 ∨ (best l ((v - inp:Nat):Int)).2 = 0
  ·rw [if_pos hz,if_pos hz]
  ·rw [if_neg hz,if_neg hz,e2 (fun e=>hz (.inl e)),e3 (fun e=>hz (.inr e))]
theorem abst_agn {k inp:Nat} {l l':List Lm} (h:Agn k l l') {t:Tm} (hv:t.1 < inp + k) (a:List Mu × Bool):abst inp l a t = abst inp l' a t:=by
 unfold abst;rw [atMost_agn h hv]
theorem absn_agn {k inp:Nat} {l l':List Lm} (h:Agn k l l'):∀ (ts:List Tm) (a:List Mu × Bool),(∀ t∈ts,t.1 < inp + k)→ts.foldl (abst inp l) a = ts.foldl (abst inp l') a
 | [],_,_=>rfl
 | t :: ts,a,hv=>by
  rw [List.foldl_cons,List.foldl_cons,abst_agn h (hv t (by simp)),absn_agn h ts _ (fun x hx=>hv x (by simp [hx]))]
theorem ub_agn {k v:Nat} {s s':Sc} (hq:s.q = s'.q) (h:Agn k s.lems s'.lems) (hv:v < s.q.g.inp + k):ub s v = ub s' v:=by
 unfold ub
 rw [← hq]
 by_cases h1:v < s.q.g.inp
 ·rw [if_pos h1,if_pos h1]
 ·obtain ⟨e1,e2,e3⟩:=h (v - s.q.g.inp) (by omega)
  rw [if_neg h1,if_neg h1,← e1]
  by_cases hz:(best s.lems ((v - s.q.g.inp:Nat):Int)).2 = 0
  ·rw [if_pos (.inl hz),if_pos (.inl hz)]
  ·rw [e3 hz]
theorem bndS_agn {k:Nat} {s s':Sc} (hq:s.q = s'.q) (h:Agn k s.lems s'.lems):∀ ts:List Tm,(∀ t∈ts,t.1 < s.q.g.inp + k)→bndS s ts = bndS s' ts
 | [],_=>rfl
 | t :: ts,hv=>by
  simp only [bndS]
  rw [bndS_agn hq h ts (fun x hx=>hv x (by simp [hx]))]
  have:bndT s t = bndT s' t:=by
   unfold bndT lb
   rw [ub_agn hq h (hv t (by simp)),hq]
  rw [this]
theorem abs_agn {k:Nat} {s s':Sc} (hk:k≤s.q.g.us.length) (hqo:QOk s.q) (hq:s.q = s'.q) (h:Agn k s.lems s'.lems) {f:Af} (hv:∀ t∈f.ts,t.1 < s.q.g.inp + k):abQ s f = abQ s' f∧abL s f = abL s' f∧abB s f = abB s' f:=by
 have e:absn s.q.g.inp s.lems f.ts = absn s'.q.g.inp s'.lems f.ts:=by
  rw [← hq];exact absn_agn h f.ts _ hv
 have e1:abL s f = abL s' f:=congrArg Prod.fst e
 have e2:abB s f = abB s' f:=congrArg Prod.snd e
 refine ⟨?_,e1,e2⟩
 cases hb:abB s f
 ·unfold abQ;rw [← e2,hb,if_neg (by decide),if_neg (by decide)]
 ·rw [abQ_eq hqo (fun t ht=>Nat.lt_of_lt_of_le (hv t ht) (by omega)) hb,abQ_eq (hq ▸ hqo) (fun t ht=>by rw [← hq];exact Nat.lt_of_lt_of_le (hv t ht) (by omega)) (e2 ▸ hb),bndS_agn hq h f.ts hv]
section
variable {d:Dom} {s:Sc} {bits:Int}
theorem sideN_mem {j:Nat} {up:Bool} {p:Af} {m:Lm} (h:m∈sideN d s bits j up p):m.unit = (j:Int)∧m.up = up∧m.v = qOf (sideV d s bits up p)∧m.pf = sideL d s up p:=by
 unfold sideN at h
 split at h
 ·rw [List.mem_singleton] at h;subst h;exact ⟨rfl,rfl,rfl,rfl⟩
 ·simp at h
theorem runN_more (d:Dom) (s:Sc) (bits:Int) (k:Nat):∀ n,∃ r,runN d s bits (k + n) = runN d s bits k ++ r∧∀ m∈r,(k:Int)≤m.unit
 | 0=>⟨[],by simp,fun m hm=>by simp at hm⟩
 | n + 1=>by
  obtain ⟨r,h1,h2⟩:=runN_more d s bits k n
  rw [show k + (n + 1) = (k + n) + 1 by omega,runN_succ]
  unfold runStep
  cases hp:s.q.g.us[k + n]? with
  | none=>exact ⟨r,h1,h2⟩
  | some p=>
   refine ⟨r ++ (sideN d (withL s (runN d s bits (k + n))) bits (k + n) false p ++ sideN d (withL s (runA d s bits (runN d s bits (k + n)) (k + n) p)) bits (k + n) true p),?_,fun m hm=>?_⟩
   ·simp only []
    unfold runA
    rw [h1]
    simp only [List.append_assoc]
   ·rcases List.mem_append.1 hm with hm | hm
    ·exact h2 m hm
    ·rcases List.mem_append.1 hm with hm | hm
     ·rw [(sideN_mem hm).1];omega
     ·rw [(sideN_mem hm).1];omega
theorem runN_pre (d:Dom) (s:Sc) (bits:Int) {n k:Nat} (h:n≤k):∃ r,runN d s bits k = runN d s bits n ++ r∧∀ m∈r,(n:Int)≤m.unit:=by
 have:=runN_more d s bits n (k - n)
 rwa [show n + (k - n) = k by omega] at this
end
theorem strong_no {l l':List Lm} {j:Nat} {up:Bool} {x:Rat} (h:strong l j up x = false) (hl:∃ r,l' = l ++ r):strong l' j up x = false:=by
 obtain ⟨r,rfl⟩:=hl
 cases up
 ·by_cases h1:(best l (j:Int)).1 = 0
  ·rw [strong,if_neg (by decide),decide_eq_true h1] at h;simp at h
  ·by_cases h2:lv l (best l (j:Int)).1 < x
   ·rw [strong,if_neg (by decide),decide_eq_true h2] at h;simp at h
   ·obtain ⟨q1,q2⟩:=(best_more (r:=r)).1 h1
    unfold strong
    rw [if_neg (by decide),decide_eq_false q1,decide_eq_false (fun e=>h2 (Std.lt_of_le_of_lt q2 e))];rfl
 ·by_cases h1:(best l (j:Int)).2 = 0
  ·rw [strong,if_pos rfl,decide_eq_true h1] at h;simp at h
  ·by_cases h2:x < lv l (best l (j:Int)).2
   ·rw [strong,if_pos rfl,decide_eq_true h2] at h;simp at h
   ·obtain ⟨q1,q2⟩:=(best_more (r:=r)).2 h1
    unfold strong
    rw [if_pos rfl,decide_eq_false q1,decide_eq_false (fun e=>h2 (Std.lt_of_lt_of_le e q2))];rfl
theorem strong_mem {l:List Lm} {j:Nat} {up:Bool} {x:Rat} {m:Lm} (hm:m∈l) (hu:m.unit = (j:Int)) (hup:m.up = up) (hv:m.v.q = x):strong l j up x = false:=by
 obtain ⟨h1,h2⟩:=best_max hm hu
 cases up
 ·obtain ⟨q1,q2⟩:=h1 hup
  unfold strong
  rw [if_neg (by decide),decide_eq_false q1,decide_eq_false (fun e=>by rw [← hv] at e;exact absurd (Std.lt_of_le_of_lt q2 e) (Rat.lt_irrefl))];rfl
 ·obtain ⟨q1,q2⟩:=h2 hup
  unfold strong
  rw [if_pos rfl,decide_eq_false q1,decide_eq_false (fun e=>by rw [← hv] at e;exact absurd (Std.lt_of_lt_of_le e q2) (Rat.lt_irrefl))];rfl
theorem side_again {s s':Sc} {bits:Int} {j:Nat} {up:Bool} {p:Af} (hq:s.q = s'.q) (hqo:QOk s.q) (hp:s.q.g.us[j]? = some p) (ha:Agn j s'.lems s.lems) (hl:∃ r,s'.lems = s.lems ++ sideN absD s bits j up p ++ r):sideN absD s' bits j up p = []:=by
 have hj:=(List.getElem?_eq_some_iff.1 hp).1
 have hpo:=hqo.g.us j p hp
 have e1:=abs_agn (s:=s') (s':=s) (k:=j) (by rw [← hq];omega) (hq ▸ hqo) hq.symm ha (f:=p) (fun t ht=>by rw [← hq];exact hpo.var t ht)
 have e2:=abs_agn (s:=s') (s':=s) (k:=j) (by rw [← hq];omega) (hq ▸ hqo) hq.symm ha (f:=negF p) (fun t ht=>by rw [← hq];exact hpo.neg.var t ht)
 have eV:sideV absD s' bits up p = sideV absD s bits up p:=by unfold sideV absD;rw [e1.1,e2.1]
 have eB:sideB absD s' up p = sideB absD s up p:=by unfold sideB absD;rw [e1.2.2,e2.2.2]
 obtain ⟨r,hl⟩:=hl
 cases hb:sideB absD s up p
 ·unfold sideN;rw [eB,hb];rfl
 ·cases hs:strong s.lems j up (sideV absD s bits up p)
  ·have:strong s'.lems j up (sideV absD s bits up p) = false:=strong_no hs ⟨sideN absD s bits j up p ++ r,by rw [hl,List.append_assoc]⟩
   unfold sideN;rw [eV,this,Bool.and_false];rfl
  ·have hn:sideN absD s bits j up p = [⟨(j:Int),up,qOf (sideV absD s bits up p),sideL absD s up p⟩]:=by unfold sideN;rw [hb,hs];rfl
   have:strong s'.lems j up (sideV absD s bits up p) = false:=strong_mem (m:=⟨(j:Int),up,qOf (sideV absD s bits up p),sideL absD s up p⟩) (by rw [hl,hn];simp) rfl rfl (qOf_q _)
   unfold sideN;rw [eV,this,Bool.and_false];rfl
theorem run_again {s:Sc} {bits:Int} (hqo:QOk s.q):∀ n,n≤s.q.g.us.length→runN absD (runM absD s bits) bits n = (runM absD s bits).lems
 | 0,_=>rfl
 | n + 1,hn=>by
  obtain ⟨p,hp⟩:∃ p,s.q.g.us[n]? = some p:=⟨_,List.getElem?_eq_getElem (by omega)⟩
  have hp':(runM absD s bits).q.g.us[n]? = some p:=hp
  obtain ⟨r,hr,hru⟩:=runN_pre absD s bits hn
  have hst:=runN_get (d:=absD) (s:=s) (bits:=bits) hp
  have hlems:(runM absD s bits).lems = runN absD s bits n ++ sideN absD (withL s (runN absD s bits n)) bits n false p ++ sideN absD (withL s (runA absD s bits (runN absD s bits n) n p)) bits n true p ++ r:=by
   show runN absD s bits s.q.g.us.length = _
   rw [hr,hst];unfold runA;rfl
  have hge:∀ m∈sideN absD (withL s (runN absD s bits n)) bits n false p ++ sideN absD (withL s (runA absD s bits (runN absD s bits n) n p)) bits n true p ++ r,(n:Int)≤m.unit:=fun m hm=>by
   rcases List.mem_append.1 hm with hm | hm
   ·rcases List.mem_append.1 hm with hm | hm
    ·rw [(sideN_mem hm).1];omega
    ·rw [(sideN_mem hm).1];omega
   ·have:=hru m hm;omega
  have a1:Agn n (runM absD s bits).lems (runN absD s bits n):=by
   rw [hlems,List.append_assoc,List.append_assoc]
   refine Agn.app (fun m hm=>hge m ?_)
   rwa [List.append_assoc]
  have a2:Agn n (runM absD s bits).lems (runA absD s bits (runN absD s bits n) n p):=by
   have e:(runM absD s bits).lems = runA absD s bits (runN absD s bits n) n p ++ (sideN absD (withL s (runA absD s bits (runN absD s bits n) n p)) bits n true p ++ r):=by
    rw [hlems];unfold runA;rw [List.append_assoc]
   rw [e]
   refine Agn.app (fun m hm=>hge m ?_)
   rw [List.append_assoc];exact List.mem_append_right _ hm
  rw [runN_get hp',run_again hqo n (by omega)]
  have h1:sideN absD (withL (runM absD s bits) (runM absD s bits).lems) bits n false p = []:=
   side_again (s:=withL s (runN absD s bits n)) rfl hqo hp a1 ⟨_,by show (runM absD s bits).lems = _;rw [hlems,List.append_assoc _ (sideN absD (withL s (runA absD s bits (runN absD s bits n) n p)) bits n true p) r];rfl⟩
  have hA:runA absD (runM absD s bits) bits (runM absD s bits).lems n p = (runM absD s bits).lems:=by
   unfold runA;rw [h1,List.append_nil]
  rw [hA]
  have h2:sideN absD (withL (runM absD s bits) (runM absD s bits).lems) bits n true p = []:=
   side_again (s:=withL s (runA absD s bits (runN absD s bits n) n p)) rfl hqo hp a2 ⟨r,by show (runM absD s bits).lems = _;rw [hlems];rfl⟩
  rw [h2,List.append_nil]
theorem run_twice {s:Sc} {bits:Int} (hqo:QOk s.q):runM absD (runM absD s bits) bits = runM absD s bits:=by
 show withL (runM absD s bits) (runN absD (runM absD s bits) bits s.q.g.us.length) = _
 rw [run_again hqo _ (Nat.le_refl _)];rfl
theorem abL_der {s:Sc} (h:SOk s) {f:Af} {b:Nat} (hf:FOk b (s.q.g.inp + s.q.g.us.length) f) (hb:b≤9):DerOk s (7 * (8 * 34401 + 50)) 14 (abL s f):=by
 have:=abs_ok h.q h.B hf hb f.ts.length
 rwa [List.take_length] at this
def PfOk (s:Sc):Prop:=∀ m∈s.lems,m.pf.length≤14
theorem unit_fok {s:Sc} (h:QOk s.q) {j:Nat} {p:Af} (hp:s.q.g.us[j]? = some p):FOk 3 (s.q.g.inp + s.q.g.us.length) p:=(h.g.us j p hp).mono (Nat.le_refl _) (by have:=(List.getElem?_eq_some_iff.1 hp).1;omega)
theorem side_pf {s:Sc} (h:SOk s) {bits:Int} {j:Nat} {up:Bool} {p:Af} (hp:s.q.g.us[j]? = some p):∀ m∈sideN absD s bits j up p,m.pf.length≤14:=fun m hm=>by
 rw [(sideN_mem hm).2.2.2]
 unfold sideL
 split
 ·exact (abL_der h (unit_fok h.q hp).neg (by omega)).len
 ·exact (abL_der h (unit_fok h.q hp) (by omega)).len
theorem runN_pf {s:Sc} (h:SOk s) (h80:s.lems.length≤80) (hpf:PfOk s) (bits:Int):∀ n,n≤s.q.g.us.length→∀ m∈runN absD s bits n,m.pf.length≤14
 | 0,_=>hpf
 | n + 1,hn=>fun m hm=>by
  obtain ⟨p,hp⟩:∃ p,s.q.g.us[n]? = some p:=⟨_,List.getElem?_eq_getElem (by omega)⟩
  have h1:=runN_sok absD_ok h h80 (bits:=bits) (n:=n) (by omega)
  have h2:=runN_ok absD_ok h h80 bits n (by omega)
  have h3:=runA_ok absD_ok h (bits:=bits) h1 hp
  have h4:=h.q.g.u4
  rw [runN_get hp] at hm
  rcases List.mem_append.1 hm with hm | hm
  ·unfold runA at hm
   rcases List.mem_append.1 hm with hm | hm
   ·exact runN_pf h h80 hpf bits n (by omega) m hm
   ·exact side_pf h1 (by exact hp) m hm
  ·exact side_pf (LOk.withL h h3.1 (by omega)) (by exact hp) m hm
theorem runM_pf {s:Sc} (h:SOk s) (h80:s.lems.length≤80) (hpf:PfOk s) (bits:Int):PfOk (runM absD s bits):=runN_pf h h80 hpf bits _ (Nat.le_refl _)
theorem bdN_pf {s:Sc} (h:SOk s) (h80:s.lems.length≤80) (hpf:PfOk s):∀ n,n≤s.q.g.us.length→∀ m∈bdN s n,m.pf.length≤14
 | 0,_=>hpf
 | n + 1,hn=>fun m hm=>by
  obtain ⟨p,hp⟩:∃ p,s.q.g.us[n]? = some p:=⟨_,List.getElem?_eq_getElem (by omega)⟩
  have h1:=bdN_sok h h80 (n:=n) (by omega)
  rw [bdN_get hp] at hm
  rcases List.mem_append.1 hm with hm | hm
  ·rcases List.mem_append.1 hm with hm | hm
   ·exact bdN_pf h h80 hpf n (by omega) m hm
   ·unfold bdA at hm
    split at hm
    ·rw [List.mem_singleton] at hm;subst hm
     exact (abL_der h1 (unit_fok (s:=withL s (bdN s n)) h.q hp) (by omega)).len
    ·simp at hm
  ·unfold bdB at hm
   split at hm
   ·rw [List.mem_singleton] at hm;subst hm
    exact (abL_der h1 (unit_fok (s:=withL s (bdN s n)) h.q hp).neg (by omega)).len
   ·simp at hm
theorem extM_pf (l:List Nat):PfOk (extM l):=by
 unfold extM
 split
 ·exact bdN_pf (partM_ok l) (Nat.zero_le _) (fun m hm=>by simp [partM] at hm) _ (Nat.le_refl _)
 ·exact fun m hm=>by simp [partM] at hm
end Rc
set_option linter.unusedSimpArgs false
set_option linter.unusedVariables false
namespace Rc
open Go Go.RowKit
def awF:Af:=⟨[(0,((1:Int):Rat))],((-1:Int):Rat)⟩
def awQ:Qu:=⟨⟨1,[awF],[awF]⟩,⟨[0],[((3:Int):Rat)],[]⟩,fZ⟩
def awS:Sc:=⟨awQ,[],[]⟩
theorem rat0:D.agg [Leaf.val (.bool false),nilL,nilL] = D.agg (qL 0):=by
 show _ = D.agg [Leaf.val (.bool (cneg 0)),natL (limbs (cnum 0)),natL (limbs (cden 0))]
 rw [cnum_zero,cden_zero,limbs_zero];rfl
theorem awF_ok (n:Nat) (h:1≤n):FOk 3 n awF:=
 ⟨⟨by decide,fun t ht=>by simp at ht,trivial⟩,fun t ht=>by simp [awF] at ht;subst ht;exact Hb.int (by decide),Hb.int (by decide),fun t ht=>by simp [awF] at ht;subst ht;exact h⟩
theorem awQ_ok:QOk awQ:=by
 refine ⟨⟨by decide,by decide,by decide,by decide,by decide,fun j x hx=>?_,fun x hx=>?_⟩,⟨rfl,rfl,by decide,fun j x y hx hy=>?_,fun x hx=>by simp [awQ] at hx⟩,⟨trivial,fun t ht=>by simp [awQ,fZ] at ht,Hb.z,fun t ht=>by simp [awQ,fZ] at ht⟩⟩
 ·have hx:[awF][j]? = some x:=hx
  have:=List.mem_of_getElem? hx
  rw [List.mem_singleton] at this
  subst this;exact awF_ok _ (by show 1≤1 + j;omega)
 ·have hx:x∈[awF]:=hx
  rw [List.mem_singleton] at hx
  subst hx;exact awF_ok _ (by decide)
 ·have hx:[(0:Rat)][j]? = some x:=hx
  have hy:[((3:Int):Rat)][j]? = some y:=hy
  have h1:=List.mem_of_getElem? hx
  have h2:=List.mem_of_getElem? hy
  rw [List.mem_singleton] at h1 h2
  subst h1;subst h2
  exact ⟨Hb.z,Hb.int (by decide),by decide⟩
theorem awS_ok:SOk awS:=⟨awQ_ok,fun d hd=>by simp [awS] at hd,by decide,fun m hm=>by simp [awS] at hm,by decide⟩
theorem aw_lo:abB awS awF = true∧abQ awS awF = ((-1:Int):Rat):=by
 have hb:abB awS awF = true:=by
  show (abst 1 [] ([],true) (0,((1:Int):Rat))).2 = true
  rw [abst_pos (by show (0:Rat) < ((1:Int):Rat);decide)]
 refine ⟨hb,?_⟩
 rw [abQ_eq awQ_ok (fun t ht=>(awF_ok 1 (by decide)).var t ht |> fun h=>by show t.1 < 1 + 1;omega) hb]
 decide +kernel
theorem aw_hi (l:List Lm):abB (withL awS l) (negF awF) = true∧abQ (withL awS l) (negF awF) = ((-2:Int):Rat):=by
 have e:(negF awF).ts = [(0,((-1:Int):Rat))]:=by decide +kernel
 have e2:(negF awF).c = ((1:Int):Rat):=by decide +kernel
 have hb:abB (withL awS l) (negF awF) = true:=by
  unfold abB absn
  rw [e]
  show (abst 1 l ([],true) (0,((-1:Int):Rat))).2 = true
  rw [abst_some (by decide) (by unfold atMost;rw [if_pos (by decide)];rfl)]
 refine ⟨hb,?_⟩
 rw [abQ_eq awQ_ok (fun t ht=>(awF_ok 1 (by decide)).neg.var t ht |> fun h=>by show t.1 < 1 + 1;omega) hb,e,e2]
 have h1:bndT (withL awS l) (0,((-1:Int):Rat)) = ((3:Int):Rat):=by
  unfold bndT
  rw [if_neg (show ¬ (0:Rat) < ((-1:Int):Rat) by decide)]
  unfold ub
  rw [if_pos (show (0:Nat) < (withL awS l).q.g.inp from Nat.one_pos)]
  rfl
 simp only [bndS]
 rw [h1]
 decide +kernel
def awL:List Lm:=[⟨0,false,qOf ((-1:Int):Rat),abL awS awF⟩]
theorem aw_run:∃ p p':List Mu,(runM absD awS 0).lems = [⟨0,false,qOf ((-1:Int):Rat),p⟩,⟨0,true,qOf ((2:Int):Rat),p'⟩]:=by
 refine ⟨abL awS awF,abL (withL awS awL) (negF awF),?_⟩
 have h1:runN absD awS 0 0 = []:=rfl
 have hA:runA absD awS 0 [] 0 awF = awL:=by
  have hv:sideV absD awS 0 false awF = ((-1:Int):Rat):=by
   unfold sideV;rw [if_neg (by decide)];show rndB (abQ awS awF) false 0 = _;unfold rndB;rw [if_pos rfl,aw_lo.2]
  show [] ++ sideN absD awS 0 0 false awF = _
  rw [sideN_t (d:=absD) (s:=awS) (bits:=0) (j:=0) (up:=false) (p:=awF) aw_lo.1 (by rfl),hv];rfl
 have hB:sideN absD (withL awS awL) 0 0 true awF = [⟨0,true,qOf ((2:Int):Rat),abL (withL awS awL) (negF awF)⟩]:=by
  have hv:sideV absD (withL awS awL) 0 true awF = ((2:Int):Rat):=by
   unfold sideV;rw [if_pos rfl];show rndB (-(abQ (withL awS awL) (negF awF))) true 0 = _;unfold rndB;rw [if_pos rfl,(aw_hi awL).2];decide +kernel
  rw [sideN_t (d:=absD) (s:=withL awS awL) (bits:=0) (j:=0) (up:=true) (p:=awF) (aw_hi awL).1 (by rfl),hv];rfl
 show runN absD awS 0 (0 + 1) = _
 rw [runN_get (p:=awF) rfl,h1,hA,hB];rfl
theorem aw_get:∃ a b:Lm,(runM absD awS 0).lems[0]? = some a∧(runM absD awS 0).lems[1]? = some b∧a.v = qOf ((-1:Int):Rat)∧b.up = true∧b.v = qOf ((2:Int):Rat)∧(runM absD awS 0).lems.length = 2:=by
 obtain ⟨p,p',h⟩:=aw_run
 rw [h]
 exact ⟨_,_,rfl,rfl,rfl,rfl,rfl,rfl⟩
theorem awq_ls:D.agg [Leaf.val (.int .i64 1),afE.row [awF],afE.row [awF],ratE.row [0],ratE.row [((3:Int):Rat)],afE.row [],tmE.row [],Leaf.val (.bool false),nilL,nilL] = (D.v (quV awQ)):=by
 show _ = D.agg [Leaf.val (.int .i64 1),afE.row [awF],afE.row [awF],ratE.row [0],ratE.row [((3:Int):Rat)],afE.row [],tmE.row [],Leaf.val (.bool (cneg 0)),natL (limbs (cnum 0)),natL (limbs (cden 0))]
 rw [cnum_zero,cden_zero,limbs_zero];rfl
end Rc
set_option linter.unusedSimpArgs false
set_option linter.unusedVariables false
namespace Go.Proofs.YtjdbopkbfkgpdaaGreatDoor
open Go Go.RowKit Rc
set_option maxRecDepth 10000 in
theorem simple0 (nm:ByteArray) (s:Sc) (hs:SOk s) (f:Af) (hf:FOk 3 (s.q.g.inp + s.q.g.us.length) f):Ctr Tryz.prog 31 [V.agg [Leaf.val (.string nm),Leaf.val (.int .i64 0)],scV s,afV f] (R.tup [qV (qOf (abQ s f)),V.one (El.row muE (abL s f)),V.one (Leaf.val (.bool (abB s f)))]):=by
 refine bd_ Tryz.func31 Tryz.ntmps31 rfl (fun w0 A0=>?_)
 refine zc 12 rfl (dr_ 0 [] [] (dz 13 rfl (DK_nil (za 8 rfl (tc_ fn46 rfl (lower_r s hs f hf (by omega)) (zl 8 rfl ?_))))))
 exact r3_ hq_ rfl rfl
theorem run_simple (s:Sc) (hs:SOk s) (h80:s.lems.length≤80) (bits:Int) (h0:0≤bits) (h4:bits≤4096):Ctr Tryz.prog 12 [V.one (Leaf.val (ifV 48 [.string ⟨#[]⟩,.int .i64 0])),scV s,V.one (Leaf.val (.int .i64 (bits)))] (R.tup [scV (runM absD s bits),V.one (Leaf.val (.int .i64 0))]):=
 drun absD absD_ok 48 31 [.string ⟨#[]⟩,.int .i64 0] rfl (by kernel_rfl) fn31 (fun s f hs hf=>simple0 _ s hs f hf) s hs h80 bits h0 h4
theorem run_again_simple (s:Sc) (hs:SOk s) (h80:s.lems.length≤60) (bits:Int) (h0:0≤bits) (h4:bits≤4096):Ctr Tryz.prog 12 [V.one (Leaf.val (ifV 48 [.string ⟨#[]⟩,.int .i64 0])),scV (runM absD s bits),V.one (Leaf.val (.int .i64 (bits)))] (R.tup [scV (runM absD s bits),V.one (Leaf.val (.int .i64 0))]):=by
 have h:=runM_ok absD_ok hs (by omega) bits
 have:=run_simple (runM absD s bits) h.1 (by omega) bits h0 h4
 rwa [run_twice hs.q] at this
set_option maxRecDepth 10000 in
set_option maxHeartbeats 2000000 in
theorem awake_t  : Ctr Tryz.prog 10 [] (R.one (V.one (Leaf.val (.bool true)))):=by
 refine bd_ Tryz.func10 Tryz.ntmps10 rfl (fun w0 A0=>?_)
 obtain ⟨a,b,ha,hb,ha1,hb1,hb2,hlen⟩:=aw_get
 refine zc 7 rfl (tc_ fn33 rfl (rqof 1 (by decide) (by decide)) (zl 5 rfl (dr_ 1 [(5,1),(6,1)] [1] (dz 2 rfl (ke_ rfl (fun _=>Je_buildSlice rfl un30 ty68 tz68 rfl (by decide) (by decide) rfl (by decide) rfl) (kc_ fn33 rfl (rqof (-1) (by decide) (by decide)) (dz 3 rfl (DK_nil (za 2 rfl ?_)))))))))
 refine dr_ 1 [(11,2),(12,2)] [2] (dz 1 rfl (ke_ rfl (fun _=>Je_buildSlice rfl un24 ty36 tz36 rfl (by decide) (by decide) rfl (by decide) rfl) (dz 1 rfl (ke_ rfl (fun _=>Je_buildSlice rfl un24 ty36 tz36 rfl (by decide) (by decide) rfl (by decide) rfl) (dz 2 rfl (keq_ (D.agg (qL 0)) rfl (rat0) ?_))))))
 refine ke_ rfl (fun _=>Je_buildSlice rfl un27 ty34 tz34 rfl (by decide) (by decide) rfl (by decide) rfl) (kc_ fn33 rfl (rqof 3 (by decide) (by decide)) (ke_ rfl (fun _=>Je_buildSlice rfl un27 ty34 tz34 rfl (by decide) (by decide) rfl (by decide) rfl) (dz 2 rfl (keq_ (D.v (quV awQ)) rfl (awq_ls) (dz 2 rfl (DK_nil (za 4 rfl ?_)))))))
 refine tq_ rfl (Jq_iface (vs:=[.string ⟨#[]⟩,.int .i64 0]) rfl rfl (by kernel_rfl)) (zl 2 rfl (tc_ fn12 rfl (run_simple awS awS_ok (by decide) 0 (by decide) (by decide)) (zl 11 rfl (tq_ rfl (Jq_iface (vs:=[.string ⟨#[]⟩,.int .i64 0]) rfl rfl (by kernel_rfl)) (zl 1 rfl (tc_ fn12 rfl (run_again_simple awS awS_ok (by decide) 0 (by decide) (by decide)) (zl 9 rfl (dr_ 0 [] [] ?_))))))))
 refine dz 9 rfl (kq_ rfl (jln rfl) (kq_ rfl (eqT rfl) (dz 4 rfl (kq_ rfl (jln rfl) (kq_ rfl (eqT rfl) (dz 4 rfl (kq_ rfl (jix 0 ha rfl) (kq_ rfl (jft rfl) (kq_ rfl (jlr rfl) ?_)))))))))
 refine kc_ fn33 rfl (rqof (-1) (by decide) (by decide)) (kc_ fn24 rfl (rqsame a.v (qOf ((-1:Int):Rat))) (kis_ true rfl (by rw [ha1];exact sameQ_self _) (dz 4 rfl (kq_ rfl (jix 1 hb rfl) (kq_ rfl (jfr rfl) (kq_ rfl (jli rfl) (kis_ true rfl (hb1) (dz 4 rfl (kq_ rfl (jix 1 hb rfl) ?_)))))))))
 refine kq_ rfl (jft rfl) (kq_ rfl (jlr rfl) (kc_ fn33 rfl (rqof 2 (by decide) (by decide)) (kc_ fn24 rfl (rqsame b.v (qOf ((2:Int):Rat))) (kis_ true rfl (by rw [hb2];exact sameQ_self _) (dz 2 rfl (DK_nil (za 1 rfl ?_)))))))
 exact r1_ hq_ rfl rfl
end Go.Proofs.YtjdbopkbfkgpdaaGreatDoor
set_option linter.unusedSimpArgs false
set_option linter.unusedVariables false
namespace Rc
open Go Go.RowKit
def sl (s:Sc) (up:Bool) (p:Af):List Mu:=if up = true then abL s (negF p) else abL s p
theorem runM_more (s:Sc) (bits:Int):∃ r,(runM absD s bits).lems = s.lems ++ r:=by
 obtain ⟨r,h,_⟩:=runN_pre absD s bits (Nat.zero_le s.q.g.us.length)
 exact ⟨r,h⟩
end Rc
set_option linter.unusedSimpArgs false
set_option linter.unusedVariables false
namespace Rc
open Go Go.RowKit
theorem can_sc {ts:List Tm} {c:Rat} (h:CanT ts):CanT (scT ts c):=by rw [scT_eq];exact scR_can h
theorem co_sc {ts:List Tm} {c:Rat} (h:CanT ts) (v:Nat):co (scT ts c) v = co ts v * c:=by rw [scT_eq];exact co_scR h v
theorem co_add {f g:Af} (hf:CanT f.ts) (hg:CanT g.ts) (v:Nat):co (fAdd f g).ts v = co f.ts v + co g.ts v:=co_sumT hf hg v
theorem co_fsc {f:Af} {c:Rat} (hf:CanT f.ts) (v:Nat):co (fSc f c).ts v = co f.ts v * c:=co_sc hf v
theorem co_sub {f g:Af} (hf:CanT f.ts) (hg:CanT g.ts) (v:Nat):co (fSub f g).ts v = co f.ts v - co g.ts v:=by
 show co (sumT f.ts (scT g.ts ((-1:Int):Rat))) v = _
 rw [co_sumT hf (can_sc hg),co_sc hg,m1];grind
theorem can_sub {f g:Af} (hf:CanT f.ts):CanT (fSub f g).ts:=sumT_can hf
theorem can_v (v:Nat):CanT (fV v).ts:=⟨by decide,fun t ht=>by simp at ht,trivial⟩
theorem can_n (c:Rat):CanT (fN c).ts:=trivial
theorem co_v (w v:Nat):co (fV w).ts v = if w = v then 1 else 0:=by
 show (if w = v then ((1:Int):Rat) else co [] v) = _
 rw [p1];rfl
theorem co_n (c:Rat) (v:Nat):co (fN c).ts v = 0:=rfl
def coR (s:Sc) (v:Nat) (r:Rw):Rat:=co (formM s r).1.ts v
section
variable {s:Sc}
theorem co_least (hq:QOk s.q) {w:Nat} (hw:w < s.q.g.inp + s.q.g.us.length) (v:Nat):W (coR s v) (atLeast s.q.g.inp w) = if w = v then 1 else 0:=by
 unfold atLeast
 split
 ·have:=hq.r.lo
  obtain ⟨c,hc⟩:∃ c,s.q.r.lo[w]? = some c:=⟨_,List.getElem?_eq_getElem (by omega)⟩
  simp only [W,coR,form_lo hc,qOf_q,p1]
  rw [co_sub (can_v _) (can_n _),co_v,co_n];grind
 ·rename_i h
  obtain ⟨p,hp⟩:∃ p,s.q.g.us[w - s.q.g.inp]? = some p:=⟨_,List.getElem?_eq_getElem (by omega)⟩
  simp only [W,coR,form_zero hp,qOf_q,p1]
  rw [co_v,show s.q.g.inp + (w - s.q.g.inp) = w by omega];grind
theorem co_most (hq:QOk s.q) {w:Nat} {l:List Mu} (hw:w < s.q.g.inp + s.q.g.us.length) (h:atMost s.q.g.inp s.lems w = some l) (v:Nat):W (coR s v) l = if w = v then -1 else 0:=by
 unfold atMost at h
 split at h
 ·rename_i hi
  cases h
  have:=hq.r.hi
  obtain ⟨c,hc⟩:∃ c,s.q.r.hi[w]? = some c:=⟨_,List.getElem?_eq_getElem (by omega)⟩
  simp only [W,coR,form_hi hc,qOf_q,p1]
  rw [co_sub (can_n _) (can_v _),co_v,co_n];grind
 ·rename_i hi
  obtain ⟨p,hp⟩:∃ p,s.q.g.us[w - s.q.g.inp]? = some p:=⟨_,List.getElem?_eq_getElem (by omega)⟩
  have hpc:=(hq.g.us _ p hp).can
  have hwi:s.q.g.inp + (w - s.q.g.inp) = w:=by omega
  split at h
  ·cases h
  ·rename_i hb
   obtain ⟨y,hy,yu,yp,hly,hy0,hyl⟩:=best_lo (fun e=>hb (.inl e))
   obtain ⟨z,hz,zu,zp,hlz,hz0,hzl⟩:=best_hi (fun e=>hb (.inr e))
   rw [hlz,hly] at h
   split at h
   ·rename_i hu
    cases h
    simp only [W,coR,form_off hp hz0 hz zu zp hu,qOf_q,p1]
    rw [co_fsc (can_v _),co_v,hwi,m1];grind
   ·rename_i hu
    split at h
    ·rename_i hl
     cases h
     simp only [W,coR,form_on hp hy0 hy yu yp hl,form_up hp hz0 hz zu zp,qOf_q,p1]
     rw [co_sub hpc (can_v _),co_sub (can_n _) hpc,co_v,co_n,hwi];grind
    ·rename_i hl
     cases h
     have h1:0 < z.v.q:=by grind
     have h2:z.v.q - y.v.q≠0:=by grind
     simp only [W,coR,form_up hp hz0 hz zu zp,form_tri hp hy0 hy yu yp hz0 hz zu zp (by grind) h1,qOf_q,p1]
     rw [co_sub (can_n _) hpc,co_n,co_sub (f:=fSc (fSub p (fN y.v.q)) z.v.q) (can_sc (can_sub hpc)) (can_sc (can_v _)),co_fsc (can_sub hpc),co_sub hpc (can_n _),co_n,co_fsc (can_v _),co_v,hwi]
     have h3:(z.v.q - y.v.q) * (1 / (z.v.q - y.v.q)) = 1:=by rw [Rat.div_def,Rat.one_mul];exact Rat.mul_inv_cancel _ h2
     generalize 1 / (z.v.q - y.v.q) = k at *
     split <;> grind
def coS (v:Nat):List Tm→Rat
 | []=>0
 | t :: ts=>(if t.1 = v then t.2 else 0) + coS v ts
theorem coS_co {v:Nat}:∀ {ts:List Tm},CanT ts→coS v ts = co ts v
 | [],_=>rfl
 | (w,d) :: ts,h=>by
  obtain ⟨h1,h2,h3⟩:=h
  show (if w = v then d else 0) + coS v ts = if w = v then d else co ts v
  rw [coS_co h3]
  split
  ·rename_i e;subst e;rw [co_none h2];grind
  ·grind
theorem abst_co (hq:QOk s.q) {v:Nat} {a:List Mu × Bool} {t:Tm} (hv:t.1 < s.q.g.inp + s.q.g.us.length) (h:(abst s.q.g.inp s.lems a t).2 = true):W (coR s v) (abst s.q.g.inp s.lems a t).1 = W (coR s v) a.1 + if t.1 = v then t.2 else 0:=by
 unfold abst at h ⊢
 split at h
 ·rename_i ha
  rw [if_pos ha]
  split at h
  ·rename_i hp
   rw [if_pos hp]
   simp only []
   rw [W_merge,co_least hq hv,abs_eq,if_neg (by grind)];split <;> grind
  ·rename_i hp
   rw [if_neg hp]
   split at h
   ·rename_i l hl
    simp only [hl]
    rw [W_merge,co_most hq hv hl,abs_eq]
    split
    ·split <;> grind
    ·have:t.2 = 0:=by grind
     rw [this];split <;> grind
   ·simp at h
 ·rename_i ha;exact absurd h ha
theorem absn_co (hq:QOk s.q) {v:Nat}:∀ (ts:List Tm) (a:List Mu × Bool),(∀ t∈ts,t.1 < s.q.g.inp + s.q.g.us.length)→(ts.foldl (abst s.q.g.inp s.lems) a).2 = true→W (coR s v) (ts.foldl (abst s.q.g.inp s.lems) a).1 = W (coR s v) a.1 + coS v ts
 | [],a,_,_=>by simp only [List.foldl_nil,coS];grind
 | t :: ts,a,hv,h=>by
  have h2:(abst s.q.g.inp s.lems a t).2 = true:=by
   cases e:(abst s.q.g.inp s.lems a t).2
   ·have:=absn_no (inp:=s.q.g.inp) (lems:=s.lems) ts _ e
    rw [List.foldl_cons] at h
    rw [this] at h;simp at h
   ·rfl
  rw [List.foldl_cons,absn_co hq ts _ (fun x hx=>hv x (by simp [hx])) h,abst_co hq (hv t (by simp)) h2]
  simp only [coS];grind
theorem sum_co (hs:SOk s) {v:Nat}:∀ (l:List Mu) (a:Af),CanT a.ts→CanT (l.foldl (fun a m=>fAdd a (fSc (formM s m.r).1 m.c.q)) a).ts∧co (l.foldl (fun a m=>fAdd a (fSc (formM s m.r).1 m.c.q)) a).ts v = co a.ts v + W (coR s v) l
 | [],a,h=>⟨h,by simp only [List.foldl_nil,W];grind⟩
 | m :: l,a,h=>by
  have hc:=(formM_fl (r:=m.r) hs.q hs.d hs.B).can
  obtain ⟨i1,i2⟩:=sum_co hs (v:=v) l (fAdd a (fSc (formM s m.r).1 m.c.q)) (sumT_can h)
  refine ⟨i1,?_⟩
  rw [List.foldl_cons,i2,co_add h (can_sc hc),co_fsc hc]
  simp only [W,coR];grind
theorem abL_co (hs:SOk s) {f:Af} {n:Nat} (hf:FOk 3 n f) (hn:n≤s.q.g.inp + s.q.g.us.length) (hb:abB s f = true) (v:Nat):CanT (sumM s (abL s f)).ts∧co (sumM s (abL s f)).ts v = co f.ts v:=by
 obtain ⟨h1,h2⟩:=sum_co hs (v:=v) (abL s f) fZ trivial
 refine ⟨h1,?_⟩
 have h3:=absn_co hs.q (v:=v) f.ts ([],true) (fun t ht=>Nat.lt_of_lt_of_le (hf.var t ht) hn) hb
 have h3:W (coR s v) (abL s f) = W (coR s v) [] + coS v f.ts:=h3
 show co (List.foldl _ fZ (abL s f)).ts v = _
 rw [h2,h3,coS_co hf.can]
 simp only [W,fZ,co];grind
theorem co_nil {ts:List Tm} (h:CanT ts) (h0:∀ v,co ts v = 0):ts = []:=co_ext h trivial h0
end
def lemF (p:Af) (m:Lm):Af:=if m.up = true then fSc (fSub p (fN m.v.q)) ((-1:Int):Rat) else fSub p (fN m.v.q)
structure DerL (s:Sc) (m:Lm):Prop where
 lok:LOk s.q m
 can:CanM m.pf
 bd:MB 2000000 m.pf
 len:m.pf.length≤14
 ok:∀ x∈m.pf,(formM s x.r).2 = true
 sum:∀ p,s.q.g.us[m.unit.toNat]? = some p→(fSub (lemF p m) (sumM s m.pf)).ts = []∧0≤(fSub (lemF p m) (sumM s m.pf)).c
theorem der_side {s:Sc} (hs:SOk s) {j:Nat} {up:Bool} {p:Af} (hp:s.q.g.us[j]? = some p) {x:Rat} (hx:Hb x (KB j))
  (hb:abB s (if up = true then negF p else p) = true) (hle:if up = true then -(abQ s (negF p))≤x else x≤abQ s p):DerL s ⟨(j:Int),up,qOf x,abL s (if up = true then negF p else p)⟩:=by
 have hj:=(List.getElem?_eq_some_iff.1 hp).1
 have hpo:=unit_fok hs.q hp
 have hfo:FOk 3 (s.q.g.inp + s.q.g.us.length) (if up = true then negF p else p):=by
  split
  ·exact hpo.neg
  ·exact hpo
 have hd:=abL_der hs hfo (by omega)
 refine ⟨new_ok (f:=p) hs hj hx,hd.can,hd.bd.mono (by omega),hd.len,hd.ok,fun q hq=>?_⟩
 have:q = p:=by
  have e:s.q.g.us[j]? = some q:=hq
  rw [hp] at e;exact (Option.some.inj e).symm
 subst this
 have hS:=abL_co hs hfo (Nat.le_refl _) hb
 have hSc:=(hS 0).1
 have hQ:abQ s (if up = true then negF q else q) = (if up = true then negF q else q).c - (sumM s (abL s (if up = true then negF q else q))).c:=by
  unfold abQ
  rw [if_pos hb]
  show _ + _ * ((-1:Int):Rat) = _
  rw [m1];grind
 have hpc:=hpo.can
 unfold lemF
 cases up
 ·simp only [Bool.false_eq_true,if_false] at *
  rw [qOf_q]
  refine ⟨co_nil (can_sub (can_sub hpc)) (fun v=>?_),?_⟩
  ·rw [co_sub (can_sub hpc) hSc,co_sub hpc (can_n _),co_n,(hS v).2];grind
  ·show 0≤(q.c + x * ((-1:Int):Rat)) + (sumM s (abL s q)).c * ((-1:Int):Rat)
   rw [m1];grind
 ·simp only [if_true] at *
  rw [qOf_q]
  have hnc:(negF q).c = q.c * ((-1:Int):Rat):=rfl
  rw [hnc,m1] at hQ
  refine ⟨co_nil (can_sub (can_sc (can_sub hpc))) (fun v=>?_),?_⟩
  ·rw [co_sub (f:=fSc (fSub q (fN x)) ((-1:Int):Rat)) (can_sc (can_sub hpc)) hSc,co_fsc (can_sub hpc),co_sub hpc (can_n _),co_n,(hS v).2,co_fsc hpc,m1];grind
  ·show 0≤(q.c + x * ((-1:Int):Rat)) * ((-1:Int):Rat) + (sumM s (abL s (negF q))).c * ((-1:Int):Rat)
   rw [m1];grind
theorem lem_more {l r:List Lm} {n u:Int} {up:Bool} (h:(lem l n u up).2 = true):lem (l ++ r) n u up = lem l n u up:=by
 unfold lem at h ⊢
 split at h
 ·simp at h
 ·rename_i hn
  rw [if_neg hn,if_neg hn]
  cases hm:l[(n - 1).toNat]? with
  | none=>rw [hm] at h;simp at h
  | some m=>rw [List.getElem?_append_left (List.getElem?_eq_some_iff.1 hm).1,hm]
section
variable {s:Sc} {l r:List Lm} {w:Rw}
theorem onB_more (h:onB (withL s l) w = true):onB (withL s (l ++ r)) w = true:=by
 unfold onB lowB lowQ at h ⊢
 simp only [Bool.and_eq_true,Bool.or_eq_true] at h ⊢
 refine ⟨h.1,h.2.elim .inl (fun h=>.inr ?_)⟩
 have e:lem (withL s (l ++ r)).lems w.lo w.idx false = lem (withL s l).lems w.lo w.idx false:=lem_more h.1
 rw [e];exact h
theorem offB_more (h:offB (withL s l) w = true):offB (withL s (l ++ r)) w = true:=by
 unfold offB topB topQ at h ⊢
 simp only [Bool.and_eq_true,Bool.or_eq_true] at h ⊢
 refine ⟨h.1,h.2.elim .inl (fun h=>.inr ?_)⟩
 have e:lem (withL s (l ++ r)).lems w.hi w.idx true = lem (withL s l).lems w.hi w.idx true:=lem_more h.1
 rw [e];exact h
theorem unitF_more {p:Af} (h:(unitF (withL s l) w p).2 = true):unitF (withL s (l ++ r)) w p = unitF (withL s l) w p:=by
 have hlow:lowB (withL s l) w = true→lem (withL s (l ++ r)).lems w.lo w.idx false = lem (withL s l).lems w.lo w.idx false:=fun h=>lem_more h
 have htop:topB (withL s l) w = true→lem (withL s (l ++ r)).lems w.hi w.idx true = lem (withL s l).lems w.hi w.idx true:=fun h=>lem_more h
 unfold unitF at h ⊢
 by_cases h5:w.kind = 5
 ·rw [if_pos h5,if_pos h5];rfl
 rw [if_neg h5] at h;rw [if_neg h5,if_neg h5]
 by_cases h6:w.kind = 6
 ·rw [if_pos h6,if_pos h6];rfl
 rw [if_neg h6] at h;rw [if_neg h6,if_neg h6]
 by_cases h7:w.kind = 7
 ·rw [if_pos h7] at h;rw [if_pos h7,if_pos h7,onB_more h,show onB (withL s l) w = true from h]
 rw [if_neg h7] at h;rw [if_neg h7,if_neg h7]
 by_cases h8:w.kind = 8
 ·rw [if_pos h8] at h;rw [if_pos h8,if_pos h8,onB_more h,show onB (withL s l) w = true from h];rfl
 rw [if_neg h8] at h;rw [if_neg h8,if_neg h8]
 by_cases h9:w.kind = 9
 ·rw [if_pos h9] at h;rw [if_pos h9,if_pos h9,offB_more h,show offB (withL s l) w = true from h]
 rw [if_neg h9] at h;rw [if_neg h9,if_neg h9]
 by_cases h10:w.kind = 10
 ·rw [if_pos h10] at h;rw [if_pos h10,if_pos h10,offB_more h,show offB (withL s l) w = true from h];rfl
 rw [if_neg h10] at h;rw [if_neg h10,if_neg h10]
 by_cases h11:w.kind = 11
 ·rw [if_pos h11] at h;rw [if_pos h11,if_pos h11]
  simp only [Bool.and_eq_true] at h
  unfold lowQ lowB at *
  rw [hlow h.1]
 rw [if_neg h11] at h;rw [if_neg h11,if_neg h11]
 by_cases h12:w.kind = 12
 ·rw [if_pos h12] at h;rw [if_pos h12,if_pos h12]
  simp only [Bool.and_eq_true] at h
  unfold topQ topB at *
  rw [htop h.1]
 rw [if_neg h12] at h;rw [if_neg h12,if_neg h12]
 by_cases h13:w.kind = 13
 ·rw [if_pos h13] at h;rw [if_pos h13,if_pos h13]
  simp only [Bool.and_eq_true] at h
  unfold lowQ lowB topQ topB at *
  rw [hlow h.1.1.1,htop h.1.1.2];rfl
 rw [if_neg h13] at h;simp at h
theorem formM_more (h:(formM (withL s l) w).2 = true):formM (withL s (l ++ r)) w = formM (withL s l) w:=by
 unfold formM at h ⊢
 by_cases h5:5≤w.kind
 ·rw [if_pos h5] at h;rw [if_pos h5,if_pos h5]
  unfold unitM at h ⊢
  by_cases hi:w.idx < 0
  ·rw [if_pos hi,if_pos hi]
  ·rw [if_neg hi] at h;rw [if_neg hi,if_neg hi]
   have eq0:(withL s (l ++ r)).q = (withL s l).q:=rfl
   rw [eq0]
   cases hp:(withL s l).q.g.us[w.idx.toNat]? with
   | none=>rfl
   | some p=>
    rw [hp] at h
    simp only [orZ] at h ⊢
    by_cases hu:(unitF (withL s l) w p).2 = true
    ·rw [unitF_more hu]
    ·rw [if_neg hu] at h;simp at h
 ·rw [if_neg h5,if_neg h5];rfl
theorem sumM_more:∀ (ms:List Mu) (a:Af),(∀ m∈ms,(formM (withL s l) m.r).2 = true)→ms.foldl (fun a m=>fAdd a (fSc (formM (withL s (l ++ r)) m.r).1 m.c.q)) a = ms.foldl (fun a m=>fAdd a (fSc (formM (withL s l) m.r).1 m.c.q)) a
 | [],_,_=>rfl
 | m :: ms,a,h=>by
  rw [List.foldl_cons,List.foldl_cons,formM_more (h m (by simp)),sumM_more ms _ (fun x hx=>h x (by simp [hx]))]
theorem DerL.more {m:Lm} (h:DerL (withL s l) m):DerL (withL s (l ++ r)) m:=
 ⟨h.lok,h.can,h.bd,h.len,fun x hx=>by rw [formM_more (h.ok x hx)];exact h.ok x hx,fun p hp=>by
  have e:sumM (withL s (l ++ r)) m.pf = sumM (withL s l) m.pf:=sumM_more m.pf fZ h.ok
  rw [e];exact h.sum p hp⟩
def DerA (s:Sc) (l:List Lm):Prop:=∀ (i:Nat) (m:Lm),l[i]? = some m→DerL (withL s (l.take i)) m
theorem DerA.nil:DerA s []:=fun i m h=>by simp at h
theorem DerA.snoc {m:Lm} (h:DerA s l) (hm:DerL (withL s l) m):DerA s (l ++ [m]):=fun i x hx=>by
 by_cases hi:i < l.length
 ·rw [List.getElem?_append_left hi] at hx
  rw [List.take_append_of_le_length (by omega)]
  exact h i x hx
 ·have:i = l.length:=by have:=(List.getElem?_eq_some_iff.1 hx).1;simp at this;omega
  subst this
  rw [List.getElem?_append_right (Nat.le_refl _),Nat.sub_self] at hx
  simp only [List.getElem?_cons_zero,Option.some.injEq] at hx
  subst hx
  rwa [List.take_append_of_le_length (Nat.le_refl _),List.take_length]
theorem side_derA {bits:Int} (h0:0≤bits) (h4:bits≤4096) {j:Nat} {up:Bool} {p:Af} (hs:SOk (withL s l)) (hp:s.q.g.us[j]? = some p) (hA:DerA s l):DerA s (l ++ sideN absD (withL s l) bits j up p):=by
 have hj:=(List.getElem?_eq_some_iff.1 hp).1
 have hK:=KB_le (j:=j) (by have:=hs.q.g.u4;have e:(withL s l).q = s.q:=rfl;rw [e] at this;omega)
 have hpo:=hs.q.g.us j p hp
 have hK1:4300≤KB j:=by unfold KB;have:=Nat.one_le_two_pow (n:=j);omega
 unfold sideN
 split
 ·rename_i hb
  rw [Bool.and_eq_true] at hb
  have hb1:=hb.1
  refine hA.snoc ?_
  unfold sideB at hb1
  cases up
  ·rw [if_neg (by decide)] at hb1
   have h1:Hb (abQ (withL s l) p) (KB j - 4200):=unit_hb hs hj hpo hb1
   exact der_side (up:=false) hs hp ((rndB_hb (up:=false) (bits:=bits) h1 (by omega)).mono (by omega)) hb1 (rndB_le h1 (by omega) h0 h4).1
  ·rw [if_pos rfl] at hb1
   haveI h1:Hb (abQ (withL s l) (negF p)) (KB j - 4200):=unit_hb hs hj hpo.neg hb1
   have h2:Hb (-(abQ (withL s l) (negF p))) (KB j - 4200):=Hb.neg
   exact der_side (up:=true) hs hp ((rndB_hb (up:=true) (bits:=bits) h2 (by omega)).mono (by omega)) hb1 (rndB_le h2 (by omega) h0 h4).2
 ·rw [List.append_nil];exact hA
end
theorem runN_derA {s:Sc} (hs:SOk s) (h80:s.lems.length≤80) {bits:Int} (h0:0≤bits) (h4:bits≤4096) (hA:DerA s s.lems):∀ n,n≤s.q.g.us.length→DerA s (Rc.runN absD s bits n)
 | 0,_=>hA
 | n + 1,hn=>by
  obtain ⟨p,hp⟩:∃ p,s.q.g.us[n]? = some p:=⟨_,List.getElem?_eq_getElem (by omega)⟩
  have ih:=runN_derA hs h80 h0 h4 hA n (by omega)
  have h1:=runN_sok absD_ok hs h80 (bits:=bits) (n:=n) (by omega)
  have h2:=runN_ok absD_ok hs h80 bits n (by omega)
  have h3:=runA_ok absD_ok hs (bits:=bits) h1 hp
  have h4':=hs.q.g.u4
  have hAA:DerA s (runA absD s bits (Rc.runN absD s bits n) n p):=side_derA h0 h4 h1 hp ih
  rw [runN_get hp]
  exact side_derA h0 h4 (LOk.withL hs h3.1 (by omega)) hp hAA
theorem bdN_derA {s:Sc} (hs:SOk s) (h80:s.lems.length≤80) (hA:DerA s s.lems):∀ n,n≤s.q.g.us.length→DerA s (bdN s n)
 | 0,_=>hA
 | n + 1,hn=>by
  obtain ⟨p,hp⟩:∃ p,s.q.g.us[n]? = some p:=⟨_,List.getElem?_eq_getElem (by omega)⟩
  have hj:=(List.getElem?_eq_some_iff.1 hp).1
  have ih:=bdN_derA hs h80 hA n (by omega)
  have h1:=bdN_sok hs h80 (n:=n) (by omega)
  have hK:=KB_le (j:=n) (by have:=hs.q.g.u4;omega)
  have hpo:=hs.q.g.us n p hp
  rw [bdN_get hp]
  have hlow:DerA s (bdN s n ++ bdA s (bdN s n) n p):=by
   unfold bdA
   split
   ·rename_i hb
    have hq:Hb (abQ (withL s (bdN s n)) p) (KB n - 4200):=unit_hb h1 hj hpo hb
    exact ih.snoc (der_side (up:=false) h1 hp (hq.mono (by omega)) hb Rat.le_refl)
   ·rw [List.append_nil];exact ih
  unfold bdB
  split
  ·rename_i hb
   haveI hq:Hb (abQ (withL s (bdN s n)) (negF p)) (KB n - 4200):=unit_hb h1 hj hpo.neg hb
   have h2:Hb (-(abQ (withL s (bdN s n)) (negF p))) (KB n):=(Hb.neg (i:=KB n - 4200)).mono (by omega)
   exact hlow.snoc (DerL.more (der_side (up:=true) h1 hp h2 hb Rat.le_refl))
  ·rw [List.append_nil];exact hlow
theorem extM_derA (l:List Nat):DerA (extM l) (extM l).lems:=by
 by_cases hp:0 < sumB l % 3
 ·have e:extM l = boundedM (partM l):=if_pos hp
  rw [e]
  have:=bdN_derA (partM_ok l) (Nat.zero_le _) (show DerA (partM l) (partM l).lems from DerA.nil) _ (Nat.le_refl _)
  exact this
 ·have e:extM l = partM l:=if_neg hp
  rw [e];exact DerA.nil
theorem runM_derA {s:Sc} (hs:SOk s) (h80:s.lems.length≤80) {bits:Int} (h0:0≤bits) (h4:bits≤4096) (hA:DerA s s.lems):DerA (runM absD s bits) (runM absD s bits).lems:=runN_derA hs h80 h0 h4 hA _ (Nat.le_refl _)
def smallM (x:Mu):Bool:=decide (x.c.n.length≤4) && decide (x.c.d.length≤4)
def smallL (m:Lm):Bool:=(decide (m.v.n.length≤4) && (decide (m.v.d.length≤4) && decide (m.pf.length≤30))) && m.pf.all smallM
def smallB (l:List Lm):Bool:=l.all smallL && decide (l.length≤20)
theorem smallL_f {m:Lm} (h:¬ (m.v.n.length≤4∧m.v.d.length≤4∧m.pf.length≤30)):smallL m = false:=by
 unfold smallL
 cases hb:(decide (m.v.n.length≤4) && (decide (m.v.d.length≤4) && decide (m.pf.length≤30)))
 ·rfl
 ·simp only [Bool.and_eq_true,decide_eq_true_eq] at hb;exact absurd hb h
theorem smallL_m {m:Lm} {j:Nat} {x:Mu} (hx:m.pf[j]? = some x) (h:¬ (x.c.n.length≤4∧x.c.d.length≤4)):smallL m = false:=by
 unfold smallL
 have:smallM x = false:=by
  unfold smallM
  cases hb:(decide (x.c.n.length≤4) && decide (x.c.d.length≤4))
  ·rfl
  ·simp only [Bool.and_eq_true,decide_eq_true_eq] at hb;exact absurd hb h
 rw [show m.pf.all smallM = false from by
  cases h2:m.pf.all smallM
  ·rfl
  ·have:=List.all_eq_true.1 h2 x (List.mem_of_getElem? hx);simp_all,Bool.and_false]
theorem smallB_f {l:List Lm} {i:Nat} {m:Lm} (hm:l[i]? = some m) (h:smallL m = false):smallB l = false:=by
 unfold smallB
 rw [show l.all smallL = false from by
  cases h2:l.all smallL
  ·rfl
  ·have:=List.all_eq_true.1 h2 m (List.mem_of_getElem? hm);simp_all,Bool.false_and]
theorem all_step {α:Type} {f:α→Bool} {l:List α} {i:Nat} {x:α} (hx:l[i]? = some x) (h:(l.take i).all f = true) (hp:f x = true):(l.take (i + 1)).all f = true:=by
 rw [take_snoc hx,List.all_append,h];simp [hp]
theorem smallL_t {m:Lm} (h:m.v.n.length≤4∧m.v.d.length≤4∧m.pf.length≤30) (h2:m.pf.all smallM = true):smallL m = true:=by
 unfold smallL;rw [h2,decide_eq_true h.1,decide_eq_true h.2.1,decide_eq_true h.2.2];rfl
end Rc
set_option linter.unusedSimpArgs false
set_option linter.unusedVariables false
namespace Go.Proofs.YtjdbopkbfkgpdaaGreatDoor
open Go Go.RowKit Rc
set_option maxRecDepth 10000 in
theorem rvalid_big (f:Af) {B n:Nat} (hcan:CanT f.ts) (hB:∀ t∈f.ts,Br t.2 B) [Br f.c B] (hBC:B≤300000000000) (hl:f.ts.length≤1000) (hvr:∀ t∈f.ts,t.1 < n) (hn:n≤1000):Ctr Tryz.prog 28 [afV f,V.one (Leaf.val (.int .i64 (4611686018427387904)))] (R.one (V.one (Leaf.val (.bool true)))):=by
 refine bd_ Tryz.func28 Tryz.ntmps28 rfl (fun w0 A0=>?_)
 refine zc 13 rfl (lpR_ (fun m Γ H=>∃ (i:Nat),f.ts.length - i = m∧Γ = [(1,some (D.val (.int .i64 4611686018427387904))),(2,some (D.ptr 0 0)),(5,some (D.val (.int .i64 ((i:Nat):Int))))]∧H = [hb_ 36 (afL f)]∧i≤f.ts.length) ⟨0,rfl,rfl,rfl,Nat.zero_le _⟩ rfl ?_)
 rintro m Γ H ⟨i,rfl,rfl,rfl,hi0⟩
 refine zc 6 rfl (tq_ rfl (jln rfl) ?_)
 by_cases hi:i < f.ts.length
 ·refine tq_ rfl (ltT rfl) (zl 8 rfl ?_)
  obtain ⟨x,hx⟩:∃ x,f.ts[i]? = some x:=⟨_,List.getElem?_eq_getElem hi⟩
  haveI hbx:=hB x (List.mem_of_getElem? hx)
  obtain ⟨hn0,hgt,hlt⟩:=hcan.get hx
  have hxv:=hvr x (List.mem_of_getElem? hx)
  refine zc 4 rfl (tq_ rfl (jix i hx rfl) (tq_ rfl (jlr rfl) (zl 5 rfl (dr_ 0 [] [] (dz 2 rfl (kq_ rfl (ltF rfl) (dz 4 rfl (kq_ rfl (geF rfl) (dz 3 rfl ?_)))))))))
  by_cases hi1:0 < i
  ·refine kq_ rfl (gtT rfl) (dz 4 rfl ?_)
   obtain ⟨y,hy⟩:∃ y,f.ts[i - 1]? = some y:=⟨_,List.getElem?_eq_getElem (by omega)⟩
   have hyx:=hcan.prev hi1 hx hy
   refine kq_ rfl (jsb (i - 1) rfl) (kq_ rfl (jix (i - 1) hy rfl) (kq_ rfl (jfr rfl) (kq_ rfl (jli rfl) (dz 2 rfl (kq_ rfl (geF rfl) (dz 5 rfl (kc_ fn63 rfl (rqsign (qOf (x.2)) (x.2) (qOf_q _) (Br.use (by omega))) (kq_ rfl (eqF rfl (sg_ne hn0)) (dz 4 rfl ?_)))))))))
   refine kc_ fn70 rfl (rqvalid (qOf (x.2)) (x.2) (qOf_q _) (Br.use (by omega))) (kis_ true rfl (isC_of _) (dz 2 rfl (DK_nil (za 7 rfl (tq_ rfl (jad (i + 1) rfl) (zl 2 rfl (At_free 1 (trim_ 1 rfl ?_))))))))
   exact nx_ ⟨i + 1,rfl,rfl,rfl,hi⟩ rfl
  ·refine kq_ rfl (gtF rfl) (dz 16 rfl (kc_ fn63 rfl (rqsign (qOf (x.2)) (x.2) (qOf_q _) (Br.use (by omega))) (kq_ rfl (eqF rfl (sg_ne hn0)) (dz 4 rfl (kc_ fn70 rfl (rqvalid (qOf (x.2)) (x.2) (qOf_q _) (Br.use (by omega))) (kis_ true rfl (isC_of _) (dz 2 rfl (DK_nil (za 7 rfl ?_)))))))))
   refine tq_ rfl (jad (i + 1) rfl) (zl 2 rfl (At_free 1 (trim_ 1 rfl ?_)))
   exact nx_ ⟨i + 1,rfl,rfl,rfl,hi⟩ rfl
 ·refine tq_ rfl (ltF rfl) (zl 12 rfl (tc_ fn70 rfl (rqvalid (qOf (f.c)) (f.c) (qOf_q _) (Br.use (by omega))) (is_ true rfl (isC_of _) (zl 3 rfl ?_))))
  exact r1_ hq_ rfl rfl
set_option maxRecDepth 10000 in
set_option maxHeartbeats 2000000 in
theorem proves_r (s:Sc) (hs:SOk s) (f:Af) {B:Nat} (hf:FL B (s.q.g.inp + s.q.g.us.length) f) (hBf:B≤1000000) (l:List Mu) (hc:CanM l) (hm:MB 2000000 l) (hok:∀ x∈l,(formM s x.r).2 = true) (hll2:l.length≤14) (h:(fSub f (sumM s l)).ts = []∧0≤(fSub f (sumM s l)).c):Ctr Tryz.prog 99 [scV s,afV f,V.one (El.row muE l)] (R.one (V.one (Leaf.val (.bool true)))):=by
 refine bd_ Tryz.func99 Tryz.ntmps99 rfl (fun w0 A0=>?_)
 have hq:=hs.q;have hd:=hs.d;have hpl:=hs.pl;have hB:=hs.B;have hll:=hs.ll
 have hg:=hq.g;have hr:=hq.r;have hlo:=hr.lo;have hhi:=hr.hi
 have g1:=hg.i1;have g2:=hg.i3;have g3:=hg.u4;have g4:=hg.o1;have g5:=hg.o3
 haveI:=hf.fm (by omega);haveI:=hf.cb
 have hfl:=(hf.fm (n:=(s.q.g.inp + s.q.g.us.length)) (by omega)).len
 have hsm:FL (14 * (4 * 34401 + 200 + 2000000 + 42)) (s.q.g.inp + s.q.g.us.length) (sumM s l):=(sumM_fl hq hd hB hm).mono (Nat.mul_le_mul_right _ hll2) (Nat.le_refl _)
 haveI:=hsm.fm (by omega);haveI:=hsm.cb
 haveI:=((hf.sub hsm).cb)
 refine zc 11 rfl (tc_ fn120 rfl (sum_r s hB (by omega) (by omega) hq hd (by omega) (by omega) l hc hm (by omega) hok (by omega)) (zl 10 rfl (nf_ [0] [so 4 (D.ptr 1 0),so 7 (D.ptr 2 0),so 8 (D.val (.int .i64 0))] [none,hb_ 36 (afL f),hb_ 36 (afL (sumM s l))] rfl rfl rfl (zc 5 rfl (tc_ fn28 rfl (rvalid_big f hf.can hf.bd (by omega) (by omega) hf.var (by omega)) (zl 11 rfl ?_))))))
 refine tc_ fn73 rfl (rsub7 f (sumM s l) (by omega) (by omega) (by omega)) (zl 5 rfl (nf_ [1,2] [so 9 (D.ptr 3 0)] [none,none,none,hb_ 36 (afL (fSub f (sumM s l)))] rfl rfl rfl (zc 3 rfl (tq_ rfl (jln rfl) (tq_ rfl (eqT rfl (by rw [h.1];rfl)) (zl 3 rfl (tc_ fn63 rfl (rqsign (qOf ((fSub f (sumM s l)).c)) ((fSub f (sumM s l)).c) (qOf_q _) (Br.use (by omega))) ?_)))))))
 refine tq_ rfl (geT rfl (sg_ge.2 h.2)) (zl 4 rfl ?_)
 exact r1_ hq_ rfl rfl
set_option maxRecDepth 10000 in
set_option maxHeartbeats 2000000 in
theorem lemma_d (s:Sc) (hs:SOk s) (m:Lm) (hm:DerL s m):Ctr Tryz.prog 55 [scV s,lmV m] (R.one (V.one (Leaf.val (.bool true)))):=by
 refine bd_ Tryz.func55 Tryz.ntmps55 rfl (fun w0 A0=>?_)
 have hq:=hs.q;have hd:=hs.d;have hpl:=hs.pl;have hB:=hs.B;have hll:=hs.ll
 have hg:=hq.g;have hr:=hq.r;have hlo:=hr.lo;have hhi:=hr.hi
 have g1:=hg.i1;have g2:=hg.i3;have g3:=hg.u4;have g4:=hg.o1;have g5:=hg.o3
 have hu0:=hm.lok.u0;have hu1:=hm.lok.u
 obtain ⟨p,hp⟩:∃ p,s.q.g.us[m.unit.toNat]? = some p:=⟨_,List.getElem?_eq_getElem hu1⟩
 have hpo:=(unit_fok hq hp).fl
 haveI hvq:Br m.v.q 34401:=(hm.lok.hb.mono (KB_le (j:=m.unit.toNat) (by omega))).br
 haveI hvF:Fq m.v 34401:=by rw [hm.lok.can];infer_instance
 have hfn:FL 34401 (s.q.g.inp + s.q.g.us.length) (fN m.v.q):=FL.n hvq
 have hfs:=hpo.sub hfn
 have hfc:=FL.sc (c:=((-1:Int):Rat)) hfs
 haveI:=hpo.fm (by omega);haveI:=hpo.cb
 haveI:=hfn.fm (by omega);haveI:=hfn.cb
 haveI:=hfs.fm (by omega);haveI:=hfs.cb
 haveI:=hfc.fm (by omega);haveI:=hfc.cb
 refine zc 12 rfl (tc_ fn14 rfl (qvalid_r s.q hq) (zl 4 rfl (tq_ rfl (ltF rfl) (zl 8 rfl (tq_ rfl (jln rfl) (tq_ rfl (geF rfl) (zl 4 rfl (tc_ fn70 rfl (rqvalid m.v m.v.q rfl (Fq.use (x:=m.v) (by omega))) (is_ true rfl (isC_iff.2 hm.lok.can) ?_)))))))))
 refine zl 8 rfl (nz_ [so 2 (D.ptr 0 0),so 3 (D.ptr 1 0)] [hb_ 42 (scL s),hb_ 64 [Leaf.val (.int .i64 m.unit),Leaf.val (.bool m.up),Leaf.val (.bool m.v.neg),natL m.v.n,natL m.v.d,El.row muE m.pf]] rfl rfl (dr_ 1 [(12,2),(13,2)] [2] (dz 6 rfl (kq_ rfl (jix m.unit.toNat hp rfl (by omega)) (kq_ rfl (jlr rfl) (dz 2 rfl (keq_ (D.agg (qL m.v.q)) rfl (dq_can hm.lok.can) ?_)))))))
 refine kc_ fn98 rfl (rnumber m.v.q) (kc_ fn73 rfl (rsub7 p (fN m.v.q) (by omega) (by omega) (by omega)) (dz 2 rfl (DK_nil (za 3 rfl (nz_ [so 2 _,so 3 _,so 5 (D.ptr 2 0)] [_,_,hb_ 36 (afL (fSub p (fN m.v.q)))] rfl rfl (zc 5 rfl ?_))))))
 refine Tc_cond rfl (fun hup=>?_) (fun hup=>?_)
 ·refine dr_ 0 [(3,2)] [2] (kp_ [] rfl (Jq_load_agg rfl rfl rfl (by decide) ty36 (by decide) (Nat.le_of_ble_eq_true rfl) rfl) (kc_ fn33 rfl (rqof (-1) (by decide) (by decide)) (kc_ fn48 rfl (rscale_w (fSub p (fN m.v.q)) ((-1:Int):Rat) (by omega) (by omega)) (dz 1 rfl (DK_nil (za 7 rfl ?_))))))
  refine tc_ fn99 rfl (proves_r s hs (fSc (fSub p (fN m.v.q)) ((-1:Int):Rat)) hfc (by omega) m.pf hm.can hm.bd hm.ok hm.len (by have h:=hm.sum p hp;unfold lemF at h;rw [if_pos hup] at h;exact h)) (zl 3 rfl ?_)
  exact r1_ hq_ rfl rfl
 ·refine zc 3 rfl (nz_ [so 2 _,so 3 _,so 5 _] [_,_,_] rfl rfl (zc 5 rfl (tc_ fn99 rfl (proves_r s hs (fSub p (fN m.v.q)) hfs (by omega) m.pf hm.can hm.bd hm.ok hm.len (by have h:=hm.sum p hp;unfold lemF at h;rw [if_neg (by rw [hup];decide)] at h;exact h)) (zl 3 rfl ?_))))
  exact r1_ hq_ rfl rfl
set_option maxRecDepth 10000 in
theorem fits_okY (q:Qu) (hq:QOk q) (d:Dc) {b:Nat} (hd:DOk b q d) (hb:b≤1000000):Ctr Tryz.prog 26 [quV q,dcV d] (R.one (V.one (Leaf.val (.bool true)))):=by
 refine bd_ Tryz.func26 Tryz.ntmps26 rfl (fun w0 A0=>?_)
 refine zc 10 rfl (tc_ fn14 rfl (qvalid_r q hq) (zl 3 rfl (tc_ fn69 rfl (fits_r q d hd hb) (zl 4 rfl ?_))))
 exact r1_ hq_ rfl rfl
set_option maxRecDepth 10000 in
theorem scope_r (s:Sc) (hs:SOk s) (hA:DerA s s.lems):Ctr Tryz.prog 18 [scV s] (R.one (V.one (Leaf.val (.bool true)))):=by
 refine bd_ Tryz.func18 Tryz.ntmps18 rfl (fun w0 A0=>?_)
 have hq:=hs.q;have hd:=hs.d;have hpl:=hs.pl;have hB:=hs.B;have hll:=hs.ll
 have hg:=hq.g;have hr:=hq.r;have hlo:=hr.lo;have hhi:=hr.hi
 have g1:=hg.i1;have g2:=hg.i3;have g3:=hg.u4;have g4:=hg.o1;have g5:=hg.o3
 refine zc 11 rfl (tc_ fn14 rfl (qvalid_r s.q hq) (zl 13 rfl (lpR_ (fun m Γ H=>∃ (i:Nat),s.path.length - i = m∧Γ = [(1,some (D.ptr 0 0)),(3,some (D.val (.int .i64 ((i:Nat):Int))))]∧H = [hb_ 42 (scL s)]∧i≤s.path.length) ⟨0,rfl,rfl,rfl,Nat.zero_le _⟩ rfl ?_)))
 rintro m Γ H ⟨i,rfl,rfl,rfl,hi0⟩
 refine zc 6 rfl (tq_ rfl (jln rfl) ?_)
 by_cases hi:i < s.path.length
 ·refine tq_ rfl (ltT rfl) (zl 8 rfl ?_)
  obtain ⟨d,hd_⟩:∃ d,s.path[i]? = some d:=⟨_,List.getElem?_eq_getElem hi⟩
  have hdo:=hs.d d (List.mem_of_getElem? hd_)
  refine nz_ [so 1 (D.ptr 0 0),so 3 (D.val (.int .i64 ((i:Nat):Int)))] [hb_ 42 (scL s)] rfl rfl (dr_ 0 [] [] (dz 5 rfl (kq_ rfl (jix i hd_ rfl) (kq_ rfl (jlr rfl) (kc_ fn26 rfl (fits_okY s.q hq d hdo (by omega)) (dz 1 rfl (DK_nil (za 5 rfl (nz_ [so 1 _,so 3 _] [_] rfl rfl ?_)))))))))
  refine zc 2 rfl (tq_ rfl (jad (i + 1) rfl) (zl 2 rfl ?_))
  exact nx_ ⟨i + 1,rfl,rfl,rfl,hi⟩ rfl
 ·refine tq_ rfl (ltF rfl) (zl 15 rfl (lpR_ (fun m Γ H=>∃ (j:Nat),s.lems.length - j = m∧Γ = [(1,some (D.ptr 0 0)),(4,some (D.val (.int .i64 ((j:Nat):Int))))]∧H = [hb_ 42 (scL s)]∧j≤s.lems.length) ⟨0,rfl,rfl,rfl,Nat.zero_le _⟩ rfl ?_))
  rintro m Γ H ⟨j,rfl,rfl,rfl,hj0⟩
  refine zc 6 rfl (tq_ rfl (jln rfl) ?_)
  by_cases hj:j < s.lems.length
  ·refine tq_ rfl (ltT rfl) (zl 8 rfl ?_)
   obtain ⟨m,hm⟩:∃ m,s.lems[j]? = some m:=⟨_,List.getElem?_eq_getElem hj⟩
   have hdm:=hA j m hm
   have hsb:SOk (withL s (s.lems.take j)):=LOk.withL hs (fun x hx=>hs.l x (List.mem_of_mem_take hx)) (by rw [List.length_take];omega)
   refine nz_ [so 1 (D.ptr 0 0),so 4 (D.val (.int .i64 ((j:Nat):Int)))] [hb_ 42 (scL s)] rfl rfl (dr_ 1 [(9,1),(10,1)] [1] (dz 7 rfl (kq_ rfl (Jq_sliceR_hi lmE s.lems (j) rfl rfl rfl un40 ty64 rfl (by omega)) (dz 3 rfl (DK_nil (za 2 rfl (nz_ [so 1 _,so 4 _,so 5 (D.ptr 1 0)] [_,hb_ 42 (quL s.q ++ [El.row dcE s.path,El.row lmE (s.lems.take (j))])] rfl rfl (dr_ 0 [] [] ?_))))))))
   refine dz 4 rfl (kq_ rfl (jix j hm rfl) (kq_ rfl (jlr rfl) (kc_ fn55 rfl (lemma_d (withL s (s.lems.take j)) hsb m hdm) (dz 1 rfl (DK_nil (za 5 rfl (nf_ [1] [so 1 _,so 4 _] [_,none] rfl rfl rfl (zc 2 rfl (tq_ rfl (jad (j + 1) rfl) ?_)))))))))
   refine zl 2 rfl (trim_ 1 rfl ?_)
   exact nx_ ⟨j + 1,rfl,rfl,rfl,hj⟩ rfl
  ·refine tq_ rfl (ltF rfl) (zl 13 rfl ?_)
   exact r1_ hq_ rfl rfl
set_option maxRecDepth 10000 in
set_option maxHeartbeats 2000000 in
theorem small_r (l:List Lm) (hl:l.length≤100000) (hp:∀ m∈l,m.pf.length≤100000):Ctr Tryz.prog 17 [V.one (El.row lmE l)] (R.one (V.one (Leaf.val (.bool (smallB l))))):=by
 refine bd_ Tryz.func17 Tryz.ntmps17 rfl (fun w0 A0=>?_)
 refine zc 12 rfl (lpR_ (fun m Γ H=>∃ (i:Nat),l.length - i = m∧Γ = [(0,some (D.v (V.one (El.row lmE l)))),(3,some (D.val (.int .i64 ((i:Nat):Int))))]∧H = []∧i≤l.length∧(l.take i).all smallL = true) ⟨0,rfl,rfl,rfl,Nat.zero_le _,rfl⟩ rfl ?_)
 rintro m Γ H ⟨i,rfl,rfl,rfl,hi0,hall⟩
 refine zc 5 rfl (tq_ rfl (jln rfl) ?_)
 by_cases hi:i < l.length
 ·refine tq_ rfl (ltT rfl) (zl 9 rfl ?_)
  obtain ⟨x,hx⟩:∃ x,l[i]? = some x:=⟨_,List.getElem?_eq_getElem hi⟩
  have hpx:=hp x (List.mem_of_getElem? hx)
  refine zc 3 rfl (tq_ rfl (jix i hx rfl) (tq_ rfl (jft rfl) (tq_ rfl (jfr rfl) (tq_ rfl (jli rfl) (tq_ rfl (jln rfl) ?_)))))
  by_cases he1:4 < x.v.n.length
  ·refine tq_ rfl (gtT rfl) (zl 24 rfl (zl 3 rfl ?_))
   exact r1_ hq_ rfl (by rw [smallB_f hx (smallL_f (by omega))])
  ·refine tq_ rfl (gtF rfl) (zl 1 rfl ?_)
   have hn1:x.v.n.length≤4:=by omega
   refine zl 2 rfl (tq_ rfl (jix i hx rfl) (tq_ rfl (jft rfl) (tq_ rfl (jfr rfl) (tq_ rfl (jli rfl) (tq_ rfl (jln rfl) ?_)))))
   by_cases he2:4 < x.v.d.length
   ·refine tq_ rfl (gtT rfl) (zl 18 rfl ?_)
    exact r1_ hq_ rfl (by rw [smallB_f hx (smallL_f (by omega))])
   ·refine tq_ rfl (gtF rfl) (zl 2 rfl ?_)
    have hn2:x.v.d.length≤4:=by omega
    refine zl 2 rfl (tq_ rfl (jix i hx rfl) (tq_ rfl (jfr rfl) (tq_ rfl (jli rfl) (tq_ rfl (jln rfl) ?_))))
    by_cases he3:30 < x.pf.length
    ·refine tq_ rfl (gtT rfl) (zl 9 rfl ?_)
     exact r1_ hq_ rfl (by rw [smallB_f hx (smallL_f (by omega))])
    ·refine tq_ rfl (gtF rfl) (zl 7 rfl ?_)
     have hn3:x.pf.length≤30:=by omega
     refine zc 5 rfl (lpR_ (fun m Γ H=>∃ (j:Nat),x.pf.length - j = m∧Γ = [(0,some (D.v (V.one (El.row lmE l)))),(3,some (D.val (.int .i64 ((i:Nat):Int)))),(4,some (D.val (.int .i64 ((j:Nat):Int))))]∧H = []∧j≤x.pf.length∧(x.pf.take j).all smallM = true) ⟨0,rfl,rfl,rfl,Nat.zero_le _,rfl⟩ rfl ?_)
     rintro m Γ H ⟨j,rfl,rfl,rfl,hj0,hjall⟩
     refine zc 6 rfl (tq_ rfl (jix i hx rfl) (tq_ rfl (jfr rfl) (tq_ rfl (jli rfl) (tq_ rfl (jln rfl) ?_))))
     by_cases hj:j < x.pf.length
     ·refine tq_ rfl (ltT rfl) (zl 8 rfl ?_)
      obtain ⟨y,hy⟩:∃ y,x.pf[j]? = some y:=⟨_,List.getElem?_eq_getElem hj⟩
      refine zc 3 rfl (tq_ rfl (jix i hx rfl) (tq_ rfl (jfr rfl) (tq_ rfl (jli rfl) (zl 1 rfl (tq_ rfl (jix j hy rfl) (tq_ rfl (jfr rfl) (tq_ rfl (jfr rfl) (tq_ rfl (jli rfl) (tq_ rfl (jln rfl) ?_)))))))))
      by_cases hd1:4 < y.c.n.length
      ·refine tq_ rfl (gtT rfl) (zl 22 rfl ?_)
       exact r1_ hq_ rfl (by rw [smallB_f hx (smallL_m hy (by omega))])
      ·refine tq_ rfl (gtF rfl) (zl 1 rfl ?_)
       have hm1:y.c.n.length≤4:=by omega
       refine zl 2 rfl (tq_ rfl (jix i hx rfl) (tq_ rfl (jfr rfl) (tq_ rfl (jli rfl) (zl 1 rfl (tq_ rfl (jix j hy rfl) (tq_ rfl (jfr rfl) (tq_ rfl (jfr rfl) (tq_ rfl (jli rfl) (tq_ rfl (jln rfl) ?_)))))))))
       by_cases hd2:4 < y.c.d.length
       ·refine tq_ rfl (gtT rfl) (zl 9 rfl ?_)
        exact r1_ hq_ rfl (by rw [smallB_f hx (smallL_m hy (by omega))])
       ·refine tq_ rfl (gtF rfl) (zl 7 rfl ?_)
        have hm2:y.c.d.length≤4:=by omega
        refine zc 2 rfl (tq_ rfl (jad (j + 1) rfl) (zl 2 rfl ?_))
        exact nx_ ⟨j + 1,rfl,rfl,rfl,hj,all_step hy hjall (by unfold smallM;rw [decide_eq_true hm1,decide_eq_true hm2];rfl)⟩ rfl
     ·refine tq_ rfl (ltF rfl) (zl 9 rfl ?_)
      have hpall:x.pf.all smallM = true:=by rw [show j = x.pf.length by omega,List.take_length] at hjall;exact hjall
      refine zc 2 rfl (tq_ rfl (jad (i + 1) rfl) (zl 2 rfl ?_))
      exact nx_ ⟨i + 1,rfl,rfl,rfl,hi,all_step hx hall (smallL_t ⟨hn1,hn2,hn3⟩ hpall)⟩ rfl
 ·refine tq_ rfl (ltF rfl) (zl 9 rfl ?_)
  have hie:i = l.length:=by omega
  rw [hie,List.take_length] at hall
  refine zc 2 rfl (tq_ rfl (jln rfl) (zl 4 rfl ?_))
  exact r1_ hq_ rfl (by unfold smallB;rw [hall,Bool.true_and,show decide (l.length≤20) = decide (((l.length:Nat):Int)≤20) from decide_eq_decide.2 (by omega)] <;> rfl)
end Go.Proofs.YtjdbopkbfkgpdaaGreatDoor
set_option linter.unusedSimpArgs false
set_option linter.unusedVariables false
namespace Go.Proofs.YtjdbopkbfkgpdaaGreatDoor
open Go Go.RowKit Rc
set_option maxRecDepth 10000 in
set_option maxHeartbeats 2000000 in
theorem law_derived (l:List Nat) (hb:∀ x∈l,x < 256) (n:Nat) (hn:n < 256):Ctr Tryz.prog 5 [V.one (El.row u8E l),V.one (Leaf.val (.int .u8 ((n:Nat):Int)))] (R.one (V.one (Leaf.val (.bool true)))):=by
 refine bd_ Tryz.func5 Tryz.ntmps5 rfl (fun w0 A0=>?_)
 refine zc 8 rfl (tc_ fn10 rfl (awake_t) (zl 10 rfl (tq_ rfl (jln rfl) ?_)))
 by_cases hl3:300 < l.length
 ·refine tq_ rfl (gtT rfl) (zl 8 rfl ?_)
  exact r1_ hq_ rfl rfl
 ·refine tq_ rfl (gtF rfl) (zl 6 rfl ?_)
  have hl:l.length≤1000000:=by omega
  obtain ⟨hs,h8⟩:=extM_ok l
  have h0:(0:Int)≤((n % 64:Nat):Int):=by omega
  have hb4:((n % 64:Nat):Int)≤4096:=by omega
  have hR:=(runM_ok absD_ok hs (by omega) ((n % 64:Nat):Int)).1
  have hRl:(runM absD (extM l) ((n % 64:Nat):Int)).lems.length≤100:=hR.ll
  have hP:=runM_pf hs (by omega) (extM_pf l) ((n % 64:Nat):Int)
  obtain ⟨r,hr⟩:=runM_more (extM l) ((n % 64:Nat):Int)
  have hlen:(extM l).lems.length≤(runM absD (extM l) ((n % 64:Nat):Int)).lems.length:=by rw [hr,List.length_append];omega
  have hA:=runM_derA hs (by omega) h0 hb4 (extM_derA l)
  have hE:=extM_pf l
  refine nz_ [so 0 (D.v (V.one (El.row u8E l))),so 1 (D.val (.int .u8 ((n:Nat):Int)))] [] rfl rfl (zc 2 rfl (tc_ fn11 rfl (extend_r l hl hb) (zl 7 rfl (tq_ rfl (Jq_iface (vs:=[.string ⟨#[]⟩,.int .i64 0]) rfl rfl (by kernel_rfl)) (zl 2 rfl (tq_ rfl (Jq_rem rfl rfl rfl (by decide) (r:=((n % 64:Nat):Int)) (tmodN _ _)) (tq_ rfl (jci (n % 64) rfl) ?_)))))))
  refine tc_ fn12 rfl (run_simple (extM l) hs (by omega) ((n % 64:Nat):Int) h0 hb4) (zl 10 rfl (nz_ [so 1 _,so 5 (D.ptr 0 0),so 6 (D.ptr 1 0),so 7 (D.val (.int .i64 0))] [hb_ 42 (scL (extM l)),hb_ 42 (scL (runM absD (extM l) ((n % 64:Nat):Int)))] rfl rfl (zc 6 rfl (tq_ rfl (jln rfl) (zl 2 rfl (tq_ rfl (jln rfl) (tq_ rfl (ltF rfl) (zl 8 rfl ?_))))))))
  refine nz_ [so 1 _,so 5 _,so 6 _] [_,_] rfl rfl (zc 3 rfl (tc_ fn17 rfl (small_r (runM absD (extM l) ((n % 64:Nat):Int)).lems (by omega) (fun m hm=>Nat.le_trans (hP m hm) (by decide))) (zl 3 rfl ?_)))
  refine Tc_cond rfl (fun hc41=>?_) (fun hc41=>?_)
  ·refine zc 5 rfl ?_
   exact r1_ hq_ rfl rfl
  ·refine zc 6 rfl (tc_ fn18 rfl (scope_r (runM absD (extM l) ((n % 64:Nat):Int)) hR hA) (zl 7 rfl (nz_ [so 1 _,so 5 _,so 6 _] [_,_] rfl rfl (zc 2 rfl (tq_ rfl (Jq_iface (vs:=[.string ⟨#[]⟩,.int .i64 0]) rfl rfl (by kernel_rfl)) (zl 2 rfl (tq_ rfl (Jq_rem rfl rfl rfl (by decide) (r:=((n % 64:Nat):Int)) (tmodN _ _)) (tq_ rfl (jci (n % 64) rfl) ?_))))))))
   refine tc_ fn12 rfl (run_again_simple (extM l) hs (by omega) ((n % 64:Nat):Int) h0 hb4) (zl 9 rfl (nz_ [so 5 _,so 6 _,so 8 (D.ptr 2 0),so 9 (D.val (.int .i64 0))] [_,_,hb_ 42 (scL (runM absD (extM l) ((n % 64:Nat):Int)))] rfl rfl (dr_ 0 [] [] (dz 7 rfl (kq_ rfl (jln rfl) ?_)))))
   refine kq_ rfl (Jq_sliceR_hi lmE ((runM absD (extM l) ((n % 64:Nat):Int)).lems) ((extM l).lems.length) rfl rfl rfl un40 ty64 rfl (by omega)) (keq_ (D.v (V.one (El.row lmE (extM l).lems))) rfl (by rw [hr,List.take_left]) (dz 2 rfl (kc_ fn15 rfl (samel_r (extM l).lems (by omega) (fun m hm=>Nat.le_trans (hE m hm) (by decide))) (dz 6 rfl ?_))))
   refine kc_ fn15 rfl (samel_r (runM absD (extM l) ((n % 64:Nat):Int)).lems (by omega) (fun m hm=>Nat.le_trans (hP m hm) (by decide))) (dz 2 rfl (DK_nil (za 1 rfl ?_)))
   exact r1_ hq_ rfl rfl
end Go.Proofs.YtjdbopkbfkgpdaaGreatDoor
namespace Rc
open Go Go.RowKit Go.ChangeShapes Go.WideShapes
section
variable {H:Type} {enc:TypeId × Value→H} {P:Program} {w:World} {base:Nat} {held:Bool}
@[reducible] def here (w:World):Foot:=Foot.of fun k _=>k < w.heap.size
theorem wf_u8 {n:Int} (h:(Lit.int .u8 n).wf = true):0≤n∧n≤255:=by
 simp [Lit.wf,IntKind.min,IntKind.max,IntKind.bits,IntKind.signed] at h
 omega
theorem cell_lt {a:Addr} {v:Value} (h:w.cell? a = some v):a.block < w.heap.size:=by
 unfold World.cell? at h
 cases hb:w.heap[a.block]? with
 | none=>rw [hb] at h;simp at h
 | some o=>exact (Array.getElem?_eq_some_iff.1 hb).1
variable {tb tn tu tr:Nat}
theorem rdv_u8 {t:Nat} (ht:P.underlying t = some (.int .u8)) {r:Reach} {b0:Nat} {v:Value} {d:DataW H} {p:List MemPlace} (hv:Value.okWide P w r b0 t v) (h:DataW.Trod enc P w base (fun _=>true) held t v d p) :
  ∃ n:Nat,n < 256∧(V.one (Leaf.val (.int .u8 n))).den (here w) v w:=by
 obtain ⟨x,rfl,_,_,hw⟩:=open_int ht hv h
 have:=wf_u8 hw
 exact ⟨x.toNat,by omega,by show _ = _;congr 1;omega,rfl⟩
end
theorem law_calls {P:Program} {f:Nat} {xs:List V} {w:World} {vs:List Value} (h:Ctr P f xs (R.one (V.one (Leaf.val (.bool true))))) (hg:Glob w) (hd:denVs (here w) xs vs w) :
  Calls P f vs.toArray w fun e w'=>e = .returned (.bool true)∧Below w.heap.size w w':=by
 refine Calls.mono (h w vs (fun k _=>k < w.heap.size) hg (fun _ _ hk=>hk) hd) ?_
 rintro e w' ⟨v,rfl,hv,hb⟩
 obtain ⟨rfl,_⟩:v = .bool true∧_:=hv
 exact ⟨rfl,hb⟩
end Rc
set_option linter.unusedSimpArgs false
set_option linter.unusedVariables false
namespace Go.Proofs.YtjdbopkbfkgpdaaGreatDoor
open Go Go.RowKit Rc
theorem own:ownKnob Tryz.prog.godebug = none:=by kernel_rfl
theorem laidOut:laidOutB Tryz.prog = true:=by kernel_rfl
theorem und5:Tryz.prog.underlying 5 = some (.int .u8):=by kernel_rfl
end Go.Proofs.YtjdbopkbfkgpdaaGreatDoor
namespace Rc
open Go Go.RowKit Go.ChangeShapes Go.WideShapes
theorem u8_all:∀ l:List Nat,u8E.all l = l.map fun (x:Nat)=>Leaf.val (.int .u8 (x:Int))
 | []=>rfl
 | x :: l=>by show u8E.f x ++ u8E.all l = _;rw [u8_all l];rfl
section
variable {H:Type} {enc:TypeId × Value→H} {P:Program} {w:World} {base:Nat} {held:Bool}
theorem rdv_bytes {t u:Nat} (ht:P.underlying t = some (.slice u)) (hu:P.underlying u = some (.int .u8)) (hc:P.cellsOf u = 1) {r:Reach} {b0:Nat} {v:Value} {d:DataW H} {p:List MemPlace} (hv:Value.okWide P w r b0 t v)
  (h:DataW.Trod enc P w base (fun _=>true) held t v d p):∃ l:List Nat,l.length≤maxLen∧(∀ x∈l,x < 256)∧(V.one (u8E.row l)).den (here w) v w:=by
 obtain ⟨a0,len0,cap0,rfl⟩:=okWide_slice ht hv
 obtain ⟨fuel,hf⟩:=h
 rcases open_ints ht hu hc hf with ⟨hcs,_⟩ | ⟨a,len,cap,zs,hcs,_,hl,hm,hz,_,hcell,hwf⟩
 ·simp [Value.cells] at hcs
  obtain ⟨rfl,rfl,rfl⟩:=hcs
  exact ⟨[],Nat.zero_le _,fun x hx=>by simp at hx,nil_slice _ _⟩
 ·simp [Value.cells] at hcs
  obtain ⟨rfl,rfl,rfl⟩:=hcs
  simp only [if_true] at hz
  have hlen:((zs.take len0).map Int.toNat).length = len0:=by simp;omega
  refine ⟨(zs.take len0).map Int.toNat,by rw [hlen];omega,?_,?_⟩
  ·intro y hy
   obtain ⟨n,hn,rfl⟩:=List.mem_map.1 hy
   have:=wf_u8 (hwf n (List.mem_of_mem_take hn))
   omega
  ·show (sliceRep ((zs.take len0).map Int.toNat).length _).P _ _ _
   rw [hlen,u8_all]
   refine ⟨some a,cap0,rfl,hl,hm,fun h=>by simp at h,fun ad had=>?_⟩
   cases had
   refine ⟨fun h0=>?_,fun i lf hi=>?_⟩
   ·obtain ⟨b,off,rfl,_⟩:=ints_at hcell (by first | omega | (simp at h0;omega))
    rfl
   ·rw [List.getElem?_map,List.getElem?_map,List.getElem?_take] at hi
    split at hi
    ·rename_i hil
     have hiz:i < zs.length:=by omega
     obtain ⟨b,off,rfl,hc2⟩:=ints_at hcell (by omega)
     have hci:=hc2 i hiz
     rw [List.getElem?_eq_getElem hiz] at hi
     simp only [Option.map_some,Option.some.injEq] at hi
     subst hi
     have hw:=wf_u8 (hwf zs[i] (List.getElem_mem hiz))
     have hlt:b < w.heap.size:=cell_lt hci
     refine ⟨hlt,_,hci,?_,rfl⟩
     rw [List.getD_eq_getElem?_getD,List.getElem?_eq_getElem hiz]
     simp only [Option.getD_some]
     congr 1
     omega
    ·simp at hi
variable {tb tn tu tr:Nat}
end
end Rc
set_option linter.unusedSimpArgs false
set_option linter.unusedVariables false
namespace Go.Proofs.YtjdbopkbfkgpdaaGreatDoor
open Go Go.RowKit Rc
theorem undBs:Tryz.prog.underlying 22 = some (.slice 5):=by kernel_rfl
theorem undU8:Tryz.prog.underlying 5 = some (.int .u8):=by kernel_rfl
theorem cellsU8:Tryz.prog.cellsOf 5 = 1:=by kernel_rfl
end Go.Proofs.YtjdbopkbfkgpdaaGreatDoor
set_option linter.unusedSimpArgs false
set_option linter.unusedVariables false
namespace Go.Proofs.YtjdbopkbfkgpdaaGreatDoor
open Go Go.RowKit Rc
theorem gTab : Tryz.prog.globalNamed "math/bits.deBruijn32tab" = some 0:=by kernel_rfl
theorem tTab:(Tryz.prog.globals[0]?).map (·.type) = some 206:=by kernel_rfl
theorem uTab:Tryz.prog.underlying 206 = some (.array 32 5):=by kernel_rfl
theorem uEl:Tryz.prog.underlying 5 = some (.int .u8):=by kernel_rfl
theorem cEl:Tryz.prog.cellsOf 5 = 1:=by kernel_rfl
theorem cTab:Tryz.prog.cellsOf 206 = 32:=by kernel_rfl
open Go.ChangeShapes Go.WideShapes
@[reducible] def laidL:List (String × DataW Unit):=[("math/bits.deBruijn32tab",Rows.laid_math_bits_deBruijn32tab)]
theorem door_met (os:Os) (args:Array Value):laidMetH Tryz.prog laidL ((World.doorLaid Tryz.prog 400 os).forCall (fun _ _=>0) ⟨#[],args,[]⟩).memory:=
 laidMetH_of_parts3 (fuel:=8) (laidMet_of_run' 8 (by kernel_rfl) (by kernel_rfl)) (by kernel_rfl) (by kernel_rfl)
theorem tab_data:(Rows.laid_math_bits_deBruijn32tab:DataW Unit) = .agg (bruijn.map fun n:Nat=>.lit (.int .u8 (n:Int))):=by kernel_rfl
theorem glob_of_laid {W:World} (h:laidMetH Tryz.prog laidL W):Glob W:=by
 rw [MakeChecks.laidMetH_plain _ _ _ (by kernel_rfl)] at h
 obtain ⟨ps,⟨g0,t0,cs0,f0,p0,q0,hg0,ht0,hv0,hd0,_,_⟩,_⟩:=h
 obtain rfl:=Option.some.inj (gTab.symm.trans hg0)
 obtain rfl:=Option.some.inj (tTab.symm.trans ht0)
 obtain ⟨xs,m,_,hx,hlen,hxs,hel⟩:=DataW.trod_array uTab hd0
 rw [tab_data] at hx
 have hd:=congrArg Prod.fst hx
 simp only [DataW.agg.injEq] at hd
 rw [cTab] at hlen
 have key:∀ (i:Nat) (k:Nat),bruijn[i]? = some k→cs0[i]? = some (.int .u8 (k:Int)):=by
  intro i k hk
  have hi:i < 32:=(List.getElem?_eq_some_iff.1 hk).1
  have h1:=hel i hi
  rw [List.getElem?_eq_getElem (by omega)] at h1
  obtain ⟨n,hc,hxn,_⟩:=DataW.trod_int uEl h1
  have h2:=congrArg (fun l=>l[i]?) hd
  simp only [List.getElem?_map,hk,List.getElem?_eq_getElem (show i < xs.length by omega),Option.map_some,hxn] at h2
  have h3:n = (k:Int):=by
   have:=Option.some.inj h2
   simp only [DataW.lit.injEq,Lit.int.injEq,true_and] at this
   exact this.symm
  subst h3
  rw [cEl,Nat.mul_one] at hc
  have h4:=congrArg (fun l=>l[0]?) hc
  simp only [List.getElem?_take,List.getElem?_drop,Nat.add_zero,Nat.zero_lt_one,if_true,List.getElem?_cons_zero] at h4
  rw [← Array.getElem?_toList]
  exact h4
 intro p hp
 have hp':p = (0,bruijn.map fun n:Nat=>Value.int .u8 (n:Int)):=by simpa [tab,bruijn] using hp
 subst hp'
 have hcell:=fun i:Nat=>World.var?_cell hg0 hv0 i
 refine ⟨?_,fun i v hv=>?_⟩
 ·have h0:=hcell 0
  rw [key 0 0 rfl] at h0
  unfold World.cell? at h0
  cases hh:W.heap[0]? with
  | none=>simp [hh] at h0
  | some o=>exact (Array.getElem?_eq_some_iff.1 hh).1
 ·simp only [List.getElem?_map] at hv
  cases hk:bruijn[i]? with
  | none=>rw [hk] at hv;simp at hv
  | some k=>
   rw [hk] at hv
   simp only [Option.map_some,Option.some.injEq] at hv
   rw [hcell i,key i k hk,hv]
end Go.Proofs.YtjdbopkbfkgpdaaGreatDoor
