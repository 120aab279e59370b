/- Parts of the proof, 12: the texts WlE2, WlF2, WlS, Awk, Awb, WlG2, WkBoxLower, FwZ, FactsZ, FwX, FactsX, FactsT, FactsK, Fw3, FactsL, WkBoxRun, WkBoxProves, as far as they are used. -/
import Derived.Test.YtmpkandbccallaaGreatDoorBa11
import Derived.WalkKit
import Derived.ProofKit
import Derived.OpenShut
import Derived.ShutString
import Derived.ChangeOld
import Derived.Below
import Derived.Test.YtmpkandbccallaaGreatDoorProg
import Derived.KernelRfl
import Derived.Test.YtmpkandbccallaaGreatDoorRows
import Derived.LaidMore
import Derived.LaidLaws
import Derived.LaidHandle
import Derived.JoinedOf
import Derived.ChangeSame
import Derived.ChangeVars
import Derived.Stop.Joined
set_option linter.unusedSimpArgs false
set_option linter.unusedVariables false
namespace Go.Proofs.YtmpkandbccallaaGreatDoor
open Go Go.RowKit Rc
set_option maxRecDepth 10000 in
theorem one_r (r:Rw):Ctr Tryz.prog 168 [rwV r] (R.one (V.one (El.row muE (one1 r)))):=by
 refine bd_ Tryz.func168 Tryz.ntmps168 rfl (fun w0 A0=>?_)
 refine zc 7 rfl (dr_ 0 [] [] (dz 1 rfl (kc_ fn36 rfl (rqof 1 (by decide) (by decide)) (dz 1 rfl (ke_ rfl (fun _=>Je_buildSlice rfl un44 ty105 tz105 rfl (by decide) (by decide) rfl (by decide) rfl) (dz 1 rfl (DK_nil (za 1 rfl ?_))))))))
 exact r1_ hq_ rfl rfl
set_option maxRecDepth 10000 in
theorem one_f (r:Rw):Ctr Tryz.prog 168 [rwV r] (R.one (V.one (Leaf.rep (sliceFull 1 (muE.all (one1 r)))))):=by
 refine bd_ Tryz.func168 Tryz.ntmps168 rfl (fun w0 A0=>?_)
 refine zc 7 rfl (dr_ 0 [] [] (dz 1 rfl (kc_ fn36 rfl (rqof 1 (by decide) (by decide)) (dz 1 rfl (ke_ rfl (fun _=>Je_buildFull rfl un44 ty105 tz105 rfl (by decide) (by decide) rfl (by decide) rfl) (dz 1 rfl (DK_nil (za 1 rfl ?_))))))))
 exact r1_ hq_ rfl rfl
set_option maxRecDepth 10000 in
theorem dec_r (s:Sc) (hs:SB 40001 s) (k:Nat) (j:Int):Ctr Tryz.prog 203 [scV s,V.one (Leaf.val (.int .i64 ((k:Int)))),V.one (Leaf.val (.int .i64 (j)))] (R.one (V.one (Leaf.val (.bool (decM s.path k j))))):=by
 refine bd_ Tryz.func203 Tryz.ntmps203 rfl (fun w0 A0=>?_)
 have hB:=hs.B;have hq:=hs.q;have hd:=hs.d;have hpl:=hs.pl;have hl:=hs.ll
 have hg:=hq.g;have hr:=hq.r;have hlo:=hr.lo;have hhi:=hr.hi
 have h1:=hg.i1;have h2:=hg.i3;have h3:=hg.u4;have h4:=hg.o1;have h5:=hg.o3
 refine zc 13 rfl (lpR_ (fun m Γ H=>∃ (i:Nat),s.path.length - i = m∧Γ = [(1,some (D.val (.int .i64 ((k:Nat):Int)))),(2,some (D.val (.int .i64 j))),(3,some (D.ptr 0 0)),(7,some (D.val (.int .i64 ((i:Nat):Int))))]∧H = [hb_ 42 (scL s)]∧i≤s.path.length∧decN s.path k j i = false) ⟨0,rfl,rfl,rfl,Nat.zero_le _,rfl⟩ rfl ?_)
 rintro m Γ H ⟨i,rfl,rfl,rfl,hi0,hno⟩
 refine zc 6 rfl (tq_ rfl (jln rfl) ?_)
 by_cases hi:i < s.path.length
 ·refine tq_ rfl (ltT rfl) (zl 8 rfl ?_)
  obtain ⟨x,hx⟩:∃ x,s.path[i]? = some x:=⟨_,List.getElem?_eq_getElem hi⟩
  have hxd:=hd x (List.mem_of_getElem? hx)
  refine dr_ 0 [] [] (dz 3 rfl (kq_ rfl (jix i hx rfl) (kq_ rfl (jfr rfl) (kq_ rfl (jli rfl) (dz 3 rfl ?_)))))
  refine ktw_ rfl (fun hk1=>?_) (fun hk1=>?_)
  ·refine dz 19 rfl (DK_nil (za 7 rfl (tq_ rfl (jad (i + 1) rfl) (zl 2 rfl ?_))))
   exact nx_ ⟨i + 1,rfl,rfl,rfl,hi,by rw [decN_succ hx,hno,hk1];rfl⟩ rfl
  ·refine dz 3 rfl (kq_ rfl (jix i hx rfl) (kq_ rfl (jfr rfl) (kq_ rfl (jli rfl) (dz 4 rfl ?_))))
   refine ktw_ rfl (fun hk2=>?_) (fun hk2=>?_)
   ·refine dz 9 rfl (DK_nil (za 7 rfl (tq_ rfl (jad (i + 1) rfl) (zl 2 rfl ?_))))
    exact nx_ ⟨i + 1,rfl,rfl,rfl,hi,by rw [decN_succ hx,hno,hk1,hk2];rfl⟩ rfl
   ·refine dz 5 rfl (kq_ rfl (jix i hx rfl) (kq_ rfl (jlr rfl) (kc_ fn30 rfl (fits_okY s.q hq x hxd (by omega)) (dz 1 rfl (DK_nil (za 7 rfl ?_))))))
    exact r1_ hq_ rfl (by rw [decM_t hx hk1 hk2])
 ·refine tq_ rfl (ltF rfl) (zl 13 rfl ?_)
  exact r1_ hq_ rfl (by rw [← decM_end,← show i = s.path.length by omega,hno])
set_option maxRecDepth 10000 in
theorem off_r (s:Sc) (hs:SB 40001 s) (j:Nat) (hj:j < s.q.g.us.length):Ctr Tryz.prog 169 [scV s,V.one (Leaf.val (.int .i64 ((j:Int))))] (R.tup [rwV (offRow s j),V.one (Leaf.val (.bool (hiOff s j)))]):=by
 refine bd_ Tryz.func169 Tryz.ntmps169 rfl (fun w0 A0=>?_)
 have hB:=hs.B;have hq:=hs.q;have hd:=hs.d;have hpl:=hs.pl;have hl:=hs.ll
 have hg:=hq.g;have hr:=hq.r;have hlo:=hr.lo;have hhi:=hr.hi
 have h1:=hg.i1;have h2:=hg.i3;have h3:=hg.u4;have h4:=hg.o1;have h5:=hg.o3
 refine zc 11 rfl (tc_ fn32 rfl (best_r s (by assumption) (by omega) (by omega) ((j:Nat):Int)) (zl 12 rfl (tc_ fn203 rfl (dec_r s (by assumption) 2 ((j:Nat):Int)) (zl 2 rfl ?_))))
 refine Tc_cond rfl (fun hd1=>?_) (fun hd1=>?_)
 ·refine zc 8 rfl ?_
  exact r2_ hq_ rfl (by rw [offRow_t hd1,show hiOff s j = true from by simp [hiOff,hd1]])
 ·refine zc 8 rfl ?_
  by_cases h1:(best s.lems ((j:Nat):Int)).2≠0
  ·refine tq_ rfl (gtT rfl) (zl 1 rfl ?_)
   obtain ⟨z,hz,_,_,hlz,hz0,hzl⟩:=best_hi h1
   haveI:=hB z (List.mem_of_getElem? hz)
   refine zl 3 rfl (tq_ rfl (jsb (((best s.lems ((j:Nat):Int)).2) - 1) rfl) (tq_ rfl (jix ((best s.lems ((j:Nat):Int)).2 - 1) hz rfl) (tq_ rfl (jft rfl) (tq_ rfl (jlr rfl) (tc_ fn37 rfl (rqsign z.v (z.v.q) rfl (Fq.use (x:=z.v) (by omega))) ?_)))))
   by_cases h2:z.v.q≤0
   ·refine tq_ rfl (leT rfl (sg_le.2 h2)) (zl 5 rfl ?_)
    exact r2_ hq_ rfl (by rw [offRow_f hd1,show hiOff s j = true from by simp [hiOff,hd1,h1,hlz,h2]])
   ·refine tq_ rfl (leF rfl (fun e=>h2 (sg_le.1 e))) (zl 5 rfl ?_)
    exact r2_ hq_ rfl (by rw [offRow_f hd1,show hiOff s j = false from by simp [hiOff,hd1,h1,hlz,h2]])
  ·refine tq_ rfl (gtF rfl) (zl 15 rfl ?_)
   exact r2_ hq_ rfl (by rw [offRow_f hd1,show hiOff s j = false from by simp [hiOff,hd1,h1]])
set_option maxRecDepth 10000 in
theorem on_r (s:Sc) (hs:SB 40001 s) (j:Nat) (hj:j < s.q.g.us.length):Ctr Tryz.prog 170 [scV s,V.one (Leaf.val (.int .i64 ((j:Int))))] (R.tup [rwV (onRow s j),V.one (Leaf.val (.bool (hiOn s j)))]):=by
 refine bd_ Tryz.func170 Tryz.ntmps170 rfl (fun w0 A0=>?_)
 have hB:=hs.B;have hq:=hs.q;have hd:=hs.d;have hpl:=hs.pl;have hl:=hs.ll
 have hg:=hq.g;have hr:=hq.r;have hlo:=hr.lo;have hhi:=hr.hi
 have h1:=hg.i1;have h2:=hg.i3;have h3:=hg.u4;have h4:=hg.o1;have h5:=hg.o3
 refine zc 11 rfl (tc_ fn32 rfl (best_r s (by assumption) (by omega) (by omega) ((j:Nat):Int)) (zl 12 rfl (tc_ fn203 rfl (dec_r s (by assumption) 1 ((j:Nat):Int)) (zl 2 rfl ?_))))
 refine Tc_cond rfl (fun hd1=>?_) (fun hd1=>?_)
 ·refine zc 8 rfl ?_
  exact r2_ hq_ rfl (by rw [onRow_t hd1,show hiOn s j = true from by simp [hiOn,hd1]])
 ·refine zc 8 rfl ?_
  by_cases h1:(best s.lems ((j:Nat):Int)).1≠0
  ·refine tq_ rfl (gtT rfl) (zl 1 rfl ?_)
   obtain ⟨y,hy,_,_,hly,hy0,hyl⟩:=best_lo h1
   haveI:=hB y (List.mem_of_getElem? hy)
   refine zl 3 rfl (tq_ rfl (jsb (((best s.lems ((j:Nat):Int)).1) - 1) rfl) (tq_ rfl (jix ((best s.lems ((j:Nat):Int)).1 - 1) hy rfl) (tq_ rfl (jft rfl) (tq_ rfl (jlr rfl) (tc_ fn37 rfl (rqsign y.v (y.v.q) rfl (Fq.use (x:=y.v) (by omega))) ?_)))))
   by_cases h2:0≤y.v.q
   ·refine tq_ rfl (geT rfl (sg_ge.2 h2)) (zl 5 rfl ?_)
    exact r2_ hq_ rfl (by rw [onRow_f hd1,show hiOn s j = true from by simp [hiOn,hd1,h1,hly,h2]])
   ·refine tq_ rfl (geF rfl (fun e=>h2 (sg_ge.1 e))) (zl 5 rfl ?_)
    exact r2_ hq_ rfl (by rw [onRow_f hd1,show hiOn s j = false from by simp [hiOn,hd1,h1,hly,h2]])
  ·refine tq_ rfl (gtF rfl) (zl 15 rfl ?_)
   exact r2_ hq_ rfl (by rw [onRow_f hd1,show hiOn s j = false from by simp [hiOn,hd1,h1]])
set_option maxRecDepth 10000 in
theorem least_r (s:Sc) (hs:SB 40001 s) (j:Nat) (hj:j < s.q.g.us.length):Ctr Tryz.prog 113 [scV s,V.one (Leaf.val (.int .i64 ((j:Int))))] (R.one (bdV (lowM s j).1.q (lowM s j).2 true)):=by
 refine bd_ Tryz.func113 Tryz.ntmps113 rfl (fun w0 A0=>?_)
 have hB:=hs.B;have hq:=hs.q;have hd:=hs.d;have hpl:=hs.pl;have hl:=hs.ll
 have hg:=hq.g;have hr:=hq.r;have hlo:=hr.lo;have hhi:=hr.hi
 have h1:=hg.i1;have h2:=hg.i3;have h3:=hg.u4;have h4:=hg.o1;have h5:=hg.o3
 refine zc 10 rfl (tc_ fn32 rfl (best_r s (by assumption) (by omega) (by omega) ((j:Nat):Int)) (zl 9 rfl ?_))
 refine nz_ [so 1 (D.val (.int .i64 ((j:Nat):Int))),so 2 (D.ptr 0 0),so 4 (D.ptr 1 0),so 5 (D.val (.int .i64 (((best s.lems ((j:Nat):Int)).1:Nat):Int)))] [hb_ 42 (scL s),hb_ 111 [Leaf.val (.bool false),natL ([]),natL ([]),El.row muE ([]),Leaf.val (.bool false)]] rfl rfl (zc 2 rfl ?_)
 by_cases h1:(best s.lems ((j:Nat):Int)).1 = 0
 ·refine tq_ rfl (eqT rfl) (zl 15 rfl (nf_ [0] [so 1 _,so 4 _] [none,_] rfl rfl rfl (zc 2 rfl (eq_ (D.agg (qL 0)) rfl (ratZ) (zl 2 rfl (tc_ fn168 rfl (one_r ⟨5,((j:Nat):Int),0,0⟩) (zl 4 rfl ?_)))))))
  exact r1_ hq_ rfl (by rw [lowM_f (fun e=>e.1 h1)];show R.one (bdV 0 _ _) = R.one (bdV qZero.q _ _);rw [qZero_q])
 ·refine tq_ rfl (eqF rfl) (zl 1 rfl ?_)
  obtain ⟨y,hy,_,_,hly,hy0,hyl⟩:=best_lo h1
  haveI:=hB y (List.mem_of_getElem? hy)
  refine zl 3 rfl (tq_ rfl (jsb (((best s.lems ((j:Nat):Int)).1) - 1) rfl) (tq_ rfl (jix ((best s.lems ((j:Nat):Int)).1 - 1) hy rfl) (tq_ rfl (jft rfl) (tq_ rfl (jlr rfl) (tc_ fn37 rfl (rqsign y.v (y.v.q) rfl (Fq.use (x:=y.v) (by omega))) ?_)))))
  by_cases h2:y.v.q≤0
  ·refine tq_ rfl (leT rfl (sg_le.2 h2)) (zl 5 rfl (nf_ [0] [so 1 _,so 4 _] [none,_] rfl rfl rfl (zc 2 rfl (eq_ (D.agg (qL 0)) rfl (ratZ) (zl 2 rfl (tc_ fn168 rfl (one_r ⟨5,((j:Nat):Int),0,0⟩) (zl 4 rfl ?_)))))))
   exact r1_ hq_ rfl (by rw [lowM_f (fun e=>by rw [hly] at e;grind)];show R.one (bdV 0 _ _) = R.one (bdV qZero.q _ _);rw [qZero_q])
  ·refine tq_ rfl (leF rfl (fun e=>h2 (sg_le.1 e))) (zl 7 rfl (nz_ [so 1 _,so 2 _,so 4 _,so 5 _] [_,_] rfl rfl (zc 3 rfl (tc_ fn168 rfl (one_f ⟨6,(j:Int),0,0⟩) (zl 3 rfl (tc_ fn168 rfl (one_r ⟨11,(j:Int),((best s.lems ((j:Nat):Int)).1:Int),0⟩) ?_))))))
   obtain ⟨ti3,hi3,hz3,hs3,hb3⟩:=in105
   refine te_ rfl (Je_appendFull rfl rfl rfl rfl rfl (by decide) Nat.zero_lt_one un44 un44 hi3 hz3 hs3 rfl (by show 1 + 1≤maxLen;decide) (by show (1 + 1) * _≤_;rw [hb3];omega) (nm:=2) rfl (ls:=(muE.all [⟨⟨6,(j:Int),0,0⟩,qOf ((1:Int):Rat)⟩,⟨⟨11,(j:Int),((best s.lems ((j:Nat):Int)).1:Int),0⟩,qOf ((1:Int):Rat)⟩])) rfl _) (zl 8 rfl ?_)
   refine tq_ rfl (jsb (((best s.lems ((j:Nat):Int)).1) - 1) rfl) (tq_ rfl (jix ((best s.lems ((j:Nat):Int)).1 - 1) hy rfl) (tq_ rfl (jft rfl) (tq_ rfl (jlr rfl) (tc_ fn57 rfl (rqcanon y.v (y.v.q) rfl (Fq.use (x:=y.v) (by omega))) (zl 5 rfl ?_)))))
   exact r1_ hq_ rfl (by rw [lowM_t ⟨h1,by rw [hly];grind⟩,lvr_get hy] <;> rfl)
set_option maxRecDepth 10000 in
set_option maxHeartbeats 2000000 in
theorem most_r (s:Sc) (hs:SB 40001 s) (j:Nat) (hj:j < s.q.g.us.length):Ctr Tryz.prog 112 [scV s,V.one (Leaf.val (.int .i64 ((j:Int))))] (R.one (bdV (highP s j).1.q (highP s j).2.1 (highP s j).2.2)):=by
 refine bd_ Tryz.func112 Tryz.ntmps112 rfl (fun w0 A0=>?_)
 have hB:=hs.B;have hq:=hs.q;have hd:=hs.d;have hpl:=hs.pl;have hl:=hs.ll
 have hg:=hq.g;have hr:=hq.r;have hlo:=hr.lo;have hhi:=hr.hi
 have h1:=hg.i1;have h2:=hg.i3;have h3:=hg.u4;have h4:=hg.o1;have h5:=hg.o3
 refine zc 10 rfl (tc_ fn169 rfl (off_r s (by assumption) j (by omega)) (zl 10 rfl (nz_ [so 1 _,so 2 _,so 4 _,so 5 (D.ptr 2 0),so 6 (D.bool (hiOff s j))] [_,_,hb_ 103 [Leaf.val (.int .i64 ((offRow s j).kind)),Leaf.val (.int .i64 ((offRow s j).idx)),Leaf.val (.int .i64 ((offRow s j).lo)),Leaf.val (.int .i64 ((offRow s j).hi))]] rfl rfl (zc 4 rfl ?_))))
 refine Tc_cond rfl (fun hof=>?_) (fun hof=>?_)
 ·refine zc 3 rfl (eq_ (D.agg (qL 0)) rfl (ratZ) (zl 1 rfl (tc_ fn168 rfl (one_r (offRow s j)) (zl 4 rfl ?_))))
  exact r1_ hq_ rfl (by rw [highP_some (highM_off hof)];show R.one (bdV 0 _ _) = R.one (bdV qZero.q _ _);rw [qZero_q])
 ·refine zc 6 rfl (tc_ fn32 rfl (best_r s (by assumption) (by omega) (by omega) ((j:Nat):Int)) (zl 8 rfl (nz_ [so 1 _,so 2 _,so 4 _,so 5 _,so 7 (D.val (.int .i64 (((best s.lems ((j:Nat):Int)).1:Nat):Int))),so 8 (D.val (.int .i64 (((best s.lems ((j:Nat):Int)).2:Nat):Int)))] [_,_,_] rfl rfl (zc 3 rfl (tc_ fn170 rfl (on_r s (by assumption) j (by omega)) ?_)))))
  refine zl 9 rfl (nz_ [so 1 _,so 2 _,so 4 _,so 5 _,so 7 _,so 8 _,so 9 (D.bool (hiOn s j))] [_,_,hb_ 103 [Leaf.val (.int .i64 ((onRow s j).kind)),Leaf.val (.int .i64 ((onRow s j).idx)),Leaf.val (.int .i64 ((onRow s j).lo)),Leaf.val (.int .i64 ((onRow s j).hi))]] rfl rfl (zc 2 rfl ?_))
  by_cases hh:(best s.lems ((j:Nat):Int)).2 = 0
  ·refine tq_ rfl (eqT rfl) (zl 12 rfl (nf_ [0,2] [so 4 _] [none,_,none] rfl rfl rfl (zc 2 rfl (eq_ (D.agg (bdL 0 [] false)) rfl (bdZ) (zl 3 rfl ?_)))))
   exact r1_ hq_ rfl (by rw [highP_none (highM_n1 hof hh)];show R.one (bdV 0 _ _) = R.one (bdV qZero.q _ _);rw [qZero_q])
  ·refine tq_ rfl (eqF rfl) ?_
   obtain ⟨z,hz,_,_,hlz,hz0,hzl⟩:=best_hi hh
   haveI:=hB z (List.mem_of_getElem? hz)
   refine zl 4 rfl ?_
   refine two_ rfl (fun hon=>?_) (fun hon=>?_)
   ·have hon1:hiOn s j = true:=by simpa using hon
    refine zl 10 rfl (nz_ [so 1 _,so 2 _,so 4 _,so 5 _,so 7 _,so 8 _,so 9 _] [_,_,_] rfl rfl (zc 4 rfl (tq_ rfl (jsb (((best s.lems ((j:Nat):Int)).2) - 1) rfl) (tq_ rfl (jix ((best s.lems ((j:Nat):Int)).2 - 1) hz rfl) (tq_ rfl (jft rfl) (tq_ rfl (jlr rfl) (zl 5 rfl ?_)))))))
    refine nz_ [so 1 _,so 2 _,so 4 _,so 5 _,so 7 _,so 8 _,so 9 _,so 10 (D.ptr 3 0)] [_,_,_,hb_ 27 [Leaf.val (.bool z.v.neg),natL z.v.n,natL z.v.d]] rfl rfl (zc 14 rfl ?_)
    refine Tc_cond rfl (fun hon2=>?_) (fun hon2=>?_)
    ·refine zc 1 rfl (dr_ 0 [(8,1)] [1] (dz 1 rfl (kc_ fn57 rfl (rqcanon z.v (z.v.q) rfl (Fq.use (x:=z.v) (by omega))) (dz 1 rfl (kc_ fn168 rfl (one_f (onRow s j)) (dz 1 rfl (kc_ fn168 rfl (one_r ⟨12,(j:Int),0,((best s.lems ((j:Nat):Int)).2:Int)⟩) ?_)))))))
     obtain ⟨ti2,hi2,hz2,hs2,hb2⟩:=in105
     refine ke_ rfl (fun _=>Je_appendFull rfl rfl rfl rfl rfl (by decide) Nat.zero_lt_one un44 un44 hi2 hz2 hs2 rfl (by show 1 + 1≤maxLen;decide) (by show (1 + 1) * _≤_;rw [hb2];omega) (nm:=2) rfl (ls:=(muE.all [⟨(onRow s j),qOf ((1:Int):Rat)⟩,⟨⟨12,(j:Int),0,((best s.lems ((j:Nat):Int)).2:Int)⟩,qOf ((1:Int):Rat)⟩])) rfl _) (dz 2 rfl (DK_nil (za 1 rfl ?_)))
     exact r1_ hq_ rfl (by rw [highP_some (highM_on hof hh hon1),lvr_get hz] <;> rfl)
    ·rw [hon1] at hon2;cases hon2
   ·have hnon:hiOn s j = false:=by simpa using hon
    refine zl 1 rfl ?_
    by_cases hl0:(best s.lems ((j:Nat):Int)).1 = 0
    ·refine tq_ rfl (eqT rfl) (zl 6 rfl (nf_ [0,2] [so 4 _] [none,_,none] rfl rfl rfl (zc 2 rfl (eq_ (D.agg (bdL 0 [] false)) rfl (bdZ) (zl 3 rfl ?_)))))
     exact r1_ hq_ rfl (by rw [highP_none (highM_n2 hof hh hnon hl0)];show R.one (bdV 0 _ _) = R.one (bdV qZero.q _ _);rw [qZero_q])
    ·refine tq_ rfl (eqF rfl) (zl 12 rfl (tq_ rfl (jsb (((best s.lems ((j:Nat):Int)).2) - 1) rfl) (tq_ rfl (jix ((best s.lems ((j:Nat):Int)).2 - 1) hz rfl) (tq_ rfl (jft rfl) (tq_ rfl (jlr rfl) (zl 5 rfl (nz_ [so 1 _,so 2 _,so 4 _,so 5 _,so 7 _,so 8 _,so 9 _,so 10 (D.ptr 3 0)] [_,_,_,hb_ 27 [Leaf.val (.bool z.v.neg),natL z.v.n,natL z.v.d]] rfl rfl (zc 14 rfl ?_))))))))
     refine Tc_cond rfl (fun hon2=>?_) (fun hon2=>?_)
     ·rw [hnon] at hon2;cases hon2
     ·refine zc 3 rfl ?_
      obtain ⟨y,hy,_,_,hly,hy0,hyl⟩:=best_lo hl0
      haveI:=hB y (List.mem_of_getElem? hy)
      have hne:z.v.q - y.v.q≠0:=by have:=tri_ne hof hh hnon hl0;rwa [lvr_get hz,lvr_get hy] at this
      refine dr_ 1 [(14,5),(15,5)] [5] (kc_ fn36 rfl (rqof 1 (by decide) (by decide)) (dz 4 rfl (kq_ rfl (jsb (((best s.lems ((j:Nat):Int)).1) - 1) rfl) (kq_ rfl (jix ((best s.lems ((j:Nat):Int)).1 - 1) hy rfl) (kq_ rfl (jft rfl) (kq_ rfl (jlr rfl) (kc_ fn66 rfl (rqsub z.v (z.v.q) rfl (Fq.use (x:=z.v) (by omega)) y.v (y.v.q) rfl (Fq.use (x:=y.v) (by omega))) ?_)))))))
      refine kc_ fn171 rfl (rqdiv (qOf (((1:Int):Rat))) (((1:Int):Rat)) (qOf_q _) (Br.use (by omega)) (qOf ((z.v.q) - (y.v.q))) ((z.v.q) - (y.v.q)) (qOf_q _) (Br.use (by omega)) (by assumption)) (dz 6 rfl (DK_nil (za 2 rfl ?_)))
      refine nf_ [0,2] [so 1 _,so 4 _,so 7 _,so 8 _,so 10 _,so 11 (D.ptr 4 0),so 12 (D.ptr 5 0)] [none,_,none,_,hb_ 103 [Leaf.val (.int .i64 12),Leaf.val (.int .i64 ((j:Nat):Int)),Leaf.val (.int .i64 0),Leaf.val (.int .i64 (((best s.lems ((j:Nat):Int)).2:Nat):Int))],hb_ 27 (qL ((((1:Int):Rat)) / ((z.v.q) - (y.v.q))))] rfl rfl rfl (zc 10 rfl ?_)
      refine dr_ 0 [(12,1)] [1] (dz 1 rfl (kc_ fn57 rfl (rqcanon z.v (z.v.q) rfl (Fq.use (x:=z.v) (by omega))) (dz 3 rfl (kc_ fn55 rfl (rqmul (qOf ((((1:Int):Rat)) / ((z.v.q) - (y.v.q)))) ((((1:Int):Rat)) / ((z.v.q) - (y.v.q))) (qOf_q _) (Br.use (by omega)) z.v (z.v.q) rfl (Fq.use (x:=z.v) (by omega))) (dz 4 rfl ?_)))))
      refine ke_ rfl (fun _=>Je_buildSlice rfl un44 ty105 tz105 rfl (by decide) (by decide) rfl (by decide) rfl) (dz 2 rfl (DK_nil (za 1 rfl ?_)))
      exact r1_ hq_ rfl (by rw [highP_some (highM_tri hof hh hnon hl0),lvr_get hz,lvr_get hy,Rat.mul_comm] <;> rfl)
set_option maxRecDepth 10000 in
theorem inputr (s:Sc) (hs:SB 40001 s) (i:Nat) (hi:i < s.q.g.inp) (up:Bool):Ctr Tryz.prog 111 [scV s,V.one (Leaf.val (.int .i64 ((i:Int)))),V.one (Leaf.val (.bool up))] (R.one (bdV (inpM s i up).1 (one1 (inpM s i up).2) true)):=by
 refine bd_ Tryz.func111 Tryz.ntmps111 rfl (fun w0 A0=>?_)
 have hB:=hs.B;have hq:=hs.q;have hd:=hs.d;have hpl:=hs.pl;have hl:=hs.ll
 have hg:=hq.g;have hr:=hq.r;have hlo:=hr.lo;have hhi:=hr.hi
 have h1:=hg.i1;have h2:=hg.i3;have h3:=hg.u4;have h4:=hg.o1;have h5:=hg.o3
 obtain ⟨a0,ha0⟩:∃ a,s.q.r.lo[i]? = some a:=⟨_,List.getElem?_eq_getElem (by omega)⟩
 obtain ⟨c0,hc0⟩:∃ a,s.q.r.hi[i]? = some a:=⟨_,List.getElem?_eq_getElem (by omega)⟩
 have ha:s.q.r.lo[i]? = some ((s.q.r.lo[i]?).getD 0):=by rw [ha0];rfl
 have hc_:s.q.r.hi[i]? = some ((s.q.r.hi[i]?).getD 0):=by rw [hc0];rfl
 refine zc 16 rfl (dr_ 1 [(9,3),(10,3)] [3] (dz 3 rfl (kq_ rfl (jix i ha rfl) (kq_ rfl (jlr rfl) (dz 2 rfl (kc_ fn168 rfl (one_r ⟨1,((i:Nat):Int),0,0⟩) (dz 3 rfl (DK_nil (za 2 rfl ?_)))))))))
 refine nz_ [so 1 (D.val (.int .i64 ((i:Nat):Int))),so 2 (D.bool up),so 3 (D.ptr 0 0),so 6 (D.ptr 1 0),so 7 (D.ptr 2 0),so 8 (D.ptr 3 0)] [hb_ 42 (scL s),_,hb_ 36 [El.row ratE s.q.r.lo,El.row ratE s.q.r.hi,El.row afE s.q.r.rows],hb_ 111 [Leaf.val (.bool (cneg ((s.q.r.lo[i]?).getD 0))),natL (limbs (cnum ((s.q.r.lo[i]?).getD 0))),natL (limbs (cden ((s.q.r.lo[i]?).getD 0))),El.row muE (one1 ⟨1,((i:Nat):Int),0,0⟩),Leaf.val (.bool true)]] rfl rfl ?_
 refine zc 5 rfl ?_
 refine mt_ [so 1 (D.val (.int .i64 ((i:Nat):Int))),so 3 (D.ptr 0 0),so 6 (D.ptr 1 0),so 8 (D.ptr 3 0),so 9 (D.val (.int .i64 (((if up = true then 4 else 3):Nat):Int))),so 10 (D.val (.int .i64 (if up = true then (-1:Int) else 1)))] [hb_ 42 (scL s),hb_ 111 [Leaf.val (.bool false),natL ([]),natL ([]),El.row muE ([]),Leaf.val (.bool false)],none,hb_ 111 [Leaf.val (.bool (cneg ((inp0 s i up).1))),natL (limbs (cnum ((inp0 s i up).1))),natL (limbs (cden ((inp0 s i up).1))),El.row muE (one1 (inp0 s i up).2),Leaf.val (.bool true)]] ?_ ?_
 ·refine zc 5 rfl ?_
  refine Tc_cond rfl (fun hup=>?_) (fun hup=>?_)
  ·subst hup
   refine zc 1 rfl (dr_ 0 [(9,3)] [3] (dz 3 rfl (kq_ rfl (jix i hc_ rfl) (kq_ rfl (jlr rfl) (dz 2 rfl (kc_ fn168 rfl (one_r ⟨2,((i:Nat):Int),0,0⟩) (dz 2 rfl (DK_nil (za 1 rfl ?_)))))))))
   refine nf_ [2] [so 1 _,so 3 _,so 6 _,so 8 _] [_,_,none,hb_ 111 [Leaf.val (.bool (cneg ((s.q.r.hi[i]?).getD 0))),natL (limbs (cnum ((s.q.r.hi[i]?).getD 0))),natL (limbs (cden ((s.q.r.hi[i]?).getD 0))),El.row muE (one1 ⟨2,((i:Nat):Int),0,0⟩),Leaf.val (.bool true)]] rfl rfl rfl (zc 4 rfl ?_)
   exact mx_ rfl
  ·subst hup
   refine zc 1 rfl (At_free 2 ?_)
   exact mx_ rfl
 ·refine zc 7 rfl ?_
  refine lpR_ (fun m Γ H=>∃ (n:Nat) (b:Rat × Rw),s.path.length - n = m∧Γ = [(1,some (D.val (.int .i64 ((i:Nat):Int)))),(3,some (D.ptr 0 0)),(6,some (D.ptr 1 0)),(8,some (D.ptr 3 0)),(9,some (D.val (.int .i64 (((if up = true then 4 else 3):Nat):Int)))),(10,some (D.val (.int .i64 (if up = true then (-1:Int) else 1)))),(11,some (D.val (.int .i64 ((n:Nat):Int))))]∧H = [hb_ 42 (scL s),hb_ 111 [Leaf.val (.bool false),natL ([]),natL ([]),El.row muE ([]),Leaf.val (.bool false)],none,hb_ 111 [Leaf.val (.bool (cneg b.1)),natL (limbs (cnum b.1)),natL (limbs (cden b.1)),El.row muE (one1 b.2),Leaf.val (.bool true)]]∧n≤s.path.length∧b = inpN s i up n) ⟨0,inp0 s i up,rfl,rfl,rfl,Nat.zero_le _,rfl⟩ rfl ?_
  rintro m Γ H ⟨n,b,rfl,rfl,rfl,hn0,hb⟩
  refine zc 6 rfl (tq_ rfl (jln rfl) ?_)
  by_cases hn:n < s.path.length
  ·refine tq_ rfl (ltT rfl) (zl 8 rfl ?_)
   obtain ⟨d,hdx⟩:∃ d,s.path[n]? = some d:=⟨_,List.getElem?_eq_getElem hn⟩
   have hdo:=hd d (List.mem_of_getElem? hdx)
   haveI:=hdo.2.br
   haveI hbb:Br b.1 201:=by rw [hb];exact inpN_hb hs hi up (by omega)
   obtain ⟨hg1,hg2⟩:=inp_rg (up:=up) (a:=d.pt) (b:=b.1)
   refine zc 4 rfl (tq_ rfl (jix n hdx rfl) (tq_ rfl (jlr rfl) (zl 5 rfl ?_)))
   refine nz_ [so 1 (D.val (.int .i64 ((i:Nat):Int))),so 3 (D.ptr 0 0),so 6 (D.ptr 1 0),so 8 (D.ptr 3 0),so 9 (D.val (.int .i64 (((if up = true then 4 else 3):Nat):Int))),so 10 (D.val (.int .i64 (if up = true then (-1:Int) else 1))),so 11 (D.val (.int .i64 ((n:Nat):Int))),so 12 (D.ptr 4 0)] [hb_ 42 (scL s),hb_ 111 [Leaf.val (.bool false),natL ([]),natL ([]),El.row muE ([]),Leaf.val (.bool false)],none,hb_ 111 [Leaf.val (.bool (cneg b.1)),natL (limbs (cnum b.1)),natL (limbs (cden b.1)),El.row muE (one1 b.2),Leaf.val (.bool true)],hb_ 78 [Leaf.val (.int .i64 ((d.kind:Nat):Int)),Leaf.val (.int .i64 ((d.idx:Nat):Int)),Leaf.val (.bool (cneg d.pt)),natL (limbs (cnum d.pt)),natL (limbs (cden d.pt))]] rfl rfl ?_
   refine zc 4 rfl ?_
   by_cases hk:d.kind = (if up = true then 4 else 3)
   ·refine tq_ rfl (eqT rfl (by rw [hk])) (zl 4 rfl ?_)
    by_cases hx:d.idx = i
    ·refine tq_ rfl (eqT rfl) (zl 5 rfl (tc_ fn30 rfl (fits_okY s.q hq d hdo (by omega)) (zl 7 rfl (tc_ fn26 rfl (rqcmp (qOf (d.pt)) (d.pt) (qOf_q _) (Br.use (by omega)) (qOf (b.1)) (b.1) (qOf_q _) (Br.use (by omega))) (tq_ rfl (Jq_mul rfl rfl rfl (r:=((if up = true then (-1:Int) else 1) * cmpq d.pt b.1)) (w64 rfl (by omega) (by omega))) ?_)))))
     by_cases hc:(if up = true then d.pt < b.1 else b.1 < d.pt)
     ·refine tq_ rfl (gtT rfl (inp_sg2.2 hc)) (zl 4 rfl (nz_ [so 1 _,so 3 _,so 6 _,so 8 _,so 9 _,so 10 _,so 11 _,so 12 _] [_,_,none,_,_] rfl rfl (dr_ 0 [(6,3)] [3] (dz 4 rfl (kc_ fn168 rfl (one_r ⟨4,((n:Nat):Int),0,0⟩) (dz 2 rfl (DK_nil (za 4 rfl (tq_ rfl (jad (n + 1) rfl) ?_)))))))))
      refine zl 2 rfl (At_free 4 (trim_ 4 rfl ?_))
      exact nx_ ⟨n + 1,(d.pt,⟨4,(n:Int),0,0⟩),rfl,rfl,rfl,hn,(by rw [hb] at hc;exact (inpN_t hdx ⟨hk,hx,hc⟩).symm)⟩ rfl
     ·refine tq_ rfl (gtF rfl (fun e=>hc (inp_sg2.1 e))) (zl 7 rfl (nf_ [4] [so 1 _,so 3 _,so 6 _,so 8 _,so 9 _,so 10 _,so 11 _] [_,_,none,_,none] rfl rfl rfl (zc 2 rfl (tq_ rfl (jad (n + 1) rfl) (zl 2 rfl (trim_ 4 rfl ?_))))))
      exact nx_ ⟨n + 1,b,rfl,rfl,rfl,hn,(by rw [hb];exact (inpN_f hdx (fun e=>hc (by rw [hb];exact e.2.2))).symm)⟩ rfl
    ·refine tq_ rfl (eqF rfl) (zl 23 rfl (nf_ [4] [so 1 _,so 3 _,so 6 _,so 8 _,so 9 _,so 10 _,so 11 _] [_,_,none,_,none] rfl rfl rfl (zc 2 rfl (tq_ rfl (jad (n + 1) rfl) (zl 2 rfl (trim_ 4 rfl ?_))))))
     exact nx_ ⟨n + 1,b,rfl,rfl,rfl,hn,(by rw [hb];exact (inpN_f hdx (fun e=>hx e.2.1)).symm)⟩ rfl
   ·refine tq_ rfl (eqF rfl (fun e=>hk (Int.ofNat_inj.1 e))) (zl 24 rfl (zc 4 rfl (nf_ [4] [so 1 _,so 3 _,so 6 _,so 8 _,so 9 _,so 10 _,so 11 _] [_,_,none,_,none] rfl rfl rfl (zc 2 rfl (tq_ rfl (jad (n + 1) rfl) (zl 2 rfl (trim_ 4 rfl ?_)))))))
    exact nx_ ⟨n + 1,b,rfl,rfl,rfl,hn,(by rw [hb];exact (inpN_f hdx (fun e=>hk e.1)).symm)⟩ rfl
  ·refine tq_ rfl (ltF rfl) (zl 9 rfl ?_)
   have hie:n = s.path.length:=by omega
   rw [hie] at hb
   refine zc 5 rfl ?_
   exact r1_ hq_ rfl (by unfold inpM;rw [← hb])
set_option maxRecDepth 10000 in
theorem of_r (s:Sc) (hs:SB 40001 s) (v:Nat) (hv:v < (s.q.g.inp + s.q.g.us.length)) (up:Bool):Ctr Tryz.prog 53 [scV s,V.one (Leaf.val (.int .i64 ((v:Int)))),V.one (Leaf.val (.bool up))] (R.one (bdV (bndP s v up).1.q (bndP s v up).2.1 (bndP s v up).2.2)):=by
 refine bd_ Tryz.func53 Tryz.ntmps53 rfl (fun w0 A0=>?_)
 have hB:=hs.B;have hq:=hs.q;have hd:=hs.d;have hpl:=hs.pl;have hl:=hs.ll
 have hg:=hq.g;have hr:=hq.r;have hlo:=hr.lo;have hhi:=hr.hi
 have h1:=hg.i1;have h2:=hg.i3;have h3:=hg.u4;have h4:=hg.o1;have h5:=hg.o3
 refine zc 21 rfl (tc_ fn50 rfl (qvalid_r s.q hq) (zl 3 rfl (tq_ rfl (ltF rfl) (zl 6 rfl (tc_ fn52 rfl (vars_r s.q.g (by assumption)) (tq_ rfl (geF rfl) (zl 9 rfl ?_)))))))
 by_cases hvi:v < s.q.g.inp
 ·refine tq_ rfl (ltT rfl) (zl 9 rfl (tc_ fn111 rfl (inputr s hs v hvi up) (zl 3 rfl ?_)))
  exact r1_ hq_ rfl (by rw [bndP_in hvi];show R.one (bdV (inpM s v up).1 _ _) = R.one (bdV (qOf (inpM s v up).1).q _ _);rw [qOf_q])
 ·refine tq_ rfl (ltF rfl) (zl 10 rfl ?_)
  refine Tc_cond rfl (fun hup=>?_) (fun hup=>?_)
  ·refine zc 5 rfl (tq_ rfl (jsb (v - s.q.g.inp) rfl) (tc_ fn112 rfl (most_r s (by assumption) (v - s.q.g.inp) (by omega)) (zl 3 rfl ?_)))
   exact r1_ hq_ rfl (by rw [hup,bndP_up hvi])
  ·refine zc 8 rfl (tq_ rfl (jsb (v - s.q.g.inp) rfl) (tc_ fn113 rfl (least_r s (by assumption) (v - s.q.g.inp) (by omega)) (zl 3 rfl ?_)))
   exact r1_ hq_ rfl (by rw [hup,bndP_lo hvi])
end Go.Proofs.YtmpkandbccallaaGreatDoor
set_option linter.unusedSimpArgs false
set_option linter.unusedVariables false
namespace Go.Proofs.YtmpkandbccallaaGreatDoor
open Go Go.RowKit Rc
set_option maxRecDepth 10000 in
set_option maxHeartbeats 2000000 in
theorem boxr (s:Sc) (hs:SB 40001 s) (f:Af) {b:Nat} (hf:FOk b (s.q.g.inp + s.q.g.us.length) f) (hb:b≤50000000):Ctr Tryz.prog 13 [scV s,afV f] (R.tup [qV (qOf (boxD s f).1),V.one (El.row muE (boxD s f).2.1),V.one (Leaf.val (.bool (boxD s f).2.2))]):=by
 refine bd_ Tryz.func13 Tryz.ntmps13 rfl (fun w0 A0=>?_)
 have hB:=hs.B;have hq:=hs.q;have hd:=hs.d;have hpl:=hs.pl;have hl:=hs.ll
 have hg:=hq.g;have hr:=hq.r;have hlo:=hr.lo;have hhi:=hr.hi
 have h1:=hg.i1;have h2:=hg.i3;have h3:=hg.u4;have h4:=hg.o1;have h5:=hg.o3
 have hfl:=hf.fl
 haveI:=hfl.fm (by omega);haveI:=hfl.cb
 have h7:=hfl.len7 hq
 refine zc 11 rfl (dr_ 0 [] [] (dz 2 rfl (kc_ fn50 rfl (qvalid_r s.q hq) (dz 6 rfl (kc_ fn52 rfl (vars_r s.q.g (by assumption)) (kc_ fn51 rfl (rvalid_ok f hf (by omega) (s.q.g.inp + s.q.g.us.length) (Nat.le_refl _) (by omega)) (dz 2 rfl (DK_nil (za 5 rfl ?_)))))))))
 refine nz_ [so 2 (D.ptr 0 0),so 3 (D.ptr 1 0),so 4 (D.ptr 2 0)] [hb_ 42 (scL s),hb_ 29 (afL f),hb_ 27 [Leaf.val (.bool false),natL ([]),natL ([])]] rfl rfl (zc 19 rfl ?_)
 refine lpR_ (fun m Γ H=>∃ (i:Nat) (x:Rat) (l:List Mu),f.ts.length - i = m∧Γ = [(2,some (D.ptr 0 0)),(3,some (D.ptr 1 0)),(4,some (D.ptr 2 0)),(7,some (D.ptr 3 0)),(8,some (D.v (V.one (El.row muE l)))),(9,some (D.val (.int .i64 ((i:Nat):Int))))]∧H = [hb_ 42 (scL s),hb_ 29 (afL f),hb_ 27 [Leaf.val (.bool false),natL ([]),natL ([])],hb_ 27 (qL x)]∧i≤f.ts.length∧boxN s f i = some (x,l)) ⟨0,f.c,[],rfl,rfl,rfl,Nat.zero_le _,rfl⟩ rfl ?_
 rintro m Γ H ⟨i,x,l,rfl,rfl,rfl,hi0,hR⟩
 refine zc 6 rfl (tq_ rfl (jln rfl) ?_)
 by_cases hi:i < f.ts.length
 ·refine tq_ rfl (ltT rfl) (zl 8 rfl ?_)
  obtain ⟨t,ht⟩:∃ t,f.ts[i]? = some t:=⟨_,List.getElem?_eq_getElem hi⟩
  have htm:=List.mem_of_getElem? ht
  have htv:=hf.var t htm
  haveI htb:Br t.2 (b + 1):=(hf.bd t htm).br
  have hbo:=box_ok hs hfl i (by omega) x _ hR
  have htl:(f.ts.take i).length≤7:=by rw [List.length_take];omega
  have hmul:=Nat.mul_le_mul_right (40001 + (b + 1) + 210) htl
  have hmul2:=Nat.mul_le_mul_right (8 * 40001 + 2 * (b + 1) + 40) htl
  haveI:Br x (b + 1 + 7 * (40001 + (b + 1) + 210)):=hbo.br.mono (by omega)
  have hlb:=hbo.der.bd
  have hll:=hbo.der.len
  refine nz_ [so 2 (D.ptr 0 0),so 3 (D.ptr 1 0),so 4 (D.ptr 2 0),so 7 (D.ptr 3 0),so 8 (D.v (V.one (El.row muE l))),so 9 (D.val (.int .i64 ((i:Nat):Int)))] [hb_ 42 (scL s),hb_ 29 (afL f),hb_ 27 [Leaf.val (.bool false),natL ([]),natL ([])],hb_ 27 (qL x)] rfl rfl (zc 4 rfl (tq_ rfl (jix i ht rfl) (tq_ rfl (jlr rfl) (zl 5 rfl (dr_ 1 [(8,5),(9,5)] [5] (dz 5 rfl ?_))))))
  refine kc_ fn37 rfl (rqsign (qOf (t.2)) (t.2) (qOf_q _) (Br.use (by omega))) (kq_ rfl (Jq_lss rfl rfl rfl (b:=(decide (t.2 < 0))) (decide_eq_decide.2 sg_lt)) (kc_ fn53 rfl (of_r s hs t.1 htv (decide (t.2 < 0))) (dz 2 rfl (DK_nil (za 3 rfl ?_)))))
  refine nz_ [so 2 _,so 3 _,so 4 _,so 7 _,so 8 _,so 9 _,so 10 (D.ptr 4 0),so 11 (D.ptr 5 0)] [_,_,_,_,hb_ 92 [Leaf.val (.int .i64 ((t.1:Nat):Int)),Leaf.val (.bool (cneg t.2)),natL (limbs (cnum t.2)),natL (limbs (cden t.2))],hb_ 111 [Leaf.val (.bool (cneg ((bndP s t.1 (decide (t.2 < 0))).1.q))),natL (limbs (cnum ((bndP s t.1 (decide (t.2 < 0))).1.q))),natL (limbs (cden ((bndP s t.1 (decide (t.2 < 0))).1.q))),El.row muE ((bndP s t.1 (decide (t.2 < 0))).2.1),Leaf.val (.bool ((bndP s t.1 (decide (t.2 < 0))).2.2))]] rfl rfl ?_
  refine zc 6 rfl ?_
  refine Tc_cond rfl (fun hok=>?_) (fun hok=>?_)
  ·refine zc 8 rfl ?_
   exact r3_ hq_ rfl (by rw [boxN_stop ht hR (by simpa using hok)];show _ = R.tup [qV (qOf 0),_,_];rw [← qV_zero] <;> rfl)
  ·refine zc 3 rfl ?_
   have hok1:(bndP s t.1 (decide (t.2 < 0))).2.2 = true:=by simpa using hok
   have hbk:=bnd_ok hs htv (bndP_t hok1)
   haveI:Br (bndP s t.1 (decide (t.2 < 0))).1.q 40202:=by haveI:=hbk.fq;exact (inferInstance:Fq (bndP s t.1 (decide (t.2 < 0))).1 _).br
   have hst:=hbk.step
   have hsl:=hst.len
   refine dr_ 0 [(7,3)] [3] (kp_ [] rfl (Jq_load_agg rfl rfl rfl (by decide) ty27 (by decide) (Nat.le_of_ble_eq_true rfl) rfl) (dz 4 rfl (kc_ fn55 rfl (rqmul (qOf (t.2)) (t.2) (qOf_q _) (Br.use (by omega)) (qOf ((bndP s t.1 (decide (t.2 < 0))).1.q)) ((bndP s t.1 (decide (t.2 < 0))).1.q) (qOf_q _) (Br.use (by omega))) ?_)))
   refine kc_ fn54 rfl (rqadd (qOf (x)) (x) (qOf_q _) (Br.use (by omega)) (qOf ((t.2) * ((bndP s t.1 (decide (t.2 < 0))).1.q))) ((t.2) * ((bndP s t.1 (decide (t.2 < 0))).1.q)) (qOf_q _) (Br.use (by omega))) (dz 1 rfl (DK_nil (za 2 rfl ?_)))
   refine nz_ [so 2 _,so 3 _,so 4 _,so 7 _,so 8 _,so 9 _,so 10 _,so 11 _] [_,_,_,hb_ 27 (qL ((x) + ((t.2) * ((bndP s t.1 (decide (t.2 < 0))).1.q)))),_,_] rfl rfl (zc 19 rfl (fr_ [4] rfl ?_))
   refine lpR_ (fun m Γ H=>∃ (k:Nat) (l2:List Mu),(bndP s t.1 (decide (t.2 < 0))).2.1.length - k = m∧Γ = [(2,some (D.ptr 0 0)),(3,some (D.ptr 1 0)),(4,some (D.ptr 2 0)),(7,some (D.ptr 3 0)),(8,some (D.v (V.one (El.row muE l2)))),(9,some (D.val (.int .i64 ((i:Nat):Int)))),(11,some (D.ptr 5 0)),(12,some (D.ptr 6 0)),(13,some (D.val (.int .i64 ((k:Nat):Int))))]∧H = [hb_ 42 (scL s),hb_ 29 (afL f),hb_ 27 [Leaf.val (.bool false),natL ([]),natL ([])],hb_ 27 (qL ((x) + ((t.2) * ((bndP s t.1 (decide (t.2 < 0))).1.q)))),none,hb_ 111 [Leaf.val (.bool (cneg ((bndP s t.1 (decide (t.2 < 0))).1.q))),natL (limbs (cnum ((bndP s t.1 (decide (t.2 < 0))).1.q))),natL (limbs (cden ((bndP s t.1 (decide (t.2 < 0))).1.q))),El.row muE ((bndP s t.1 (decide (t.2 < 0))).2.1),Leaf.val (.bool ((bndP s t.1 (decide (t.2 < 0))).2.2))],hb_ 27 [Leaf.val (.bool false),natL (limbs (cnum t.2)),natL (limbs (cden t.2))]]∧k≤(bndP s t.1 (decide (t.2 < 0))).2.1.length∧l2 = mergeM l ((bndP s t.1 (decide (t.2 < 0))).2.1.take k) (rq false (cnum t.2) (cden t.2))) ⟨0,l,rfl,rfl,rfl,Nat.zero_le _,rfl⟩ rfl ?_
   rintro m Γ H ⟨k,l2,rfl,rfl,rfl,hk0,hl2⟩
   refine zc 6 rfl (tq_ rfl (jln rfl) ?_)
   by_cases hk:k < (bndP s t.1 (decide (t.2 < 0))).2.1.length
   ·refine tq_ rfl (ltT rfl) (zl 7 rfl ?_)
    obtain ⟨y,hy⟩:∃ y,(bndP s t.1 (decide (t.2 < 0))).2.1[k]? = some y:=⟨_,List.getElem?_eq_getElem hk⟩
    haveI hyb:=hst.bd y (List.mem_of_getElem? hy)
    have hMB:MB (7 * (8 * 40001 + 2 * (b + 1) + 40) + 2 * (4 * 40001 + 12 + (b + 1 + 1) + 2)) l2:=by
     rw [hl2]
     refine (mergeM_bd (c:=rq false (cnum t.2) (cden t.2)) (D:=b + 1 + 1) hlb (fun m hm=>hst.bd m (List.mem_of_mem_take hm))).mono ?_
     have:=Nat.mul_le_mul_right (4 * 40001 + 12 + (b + 1 + 1) + 2) (show ((bndP s t.1 (decide (t.2 < 0))).2.1.take k).length≤2 by rw [List.length_take];omega)
     omega
    have hl2l:l2.length≤100:=by rw [hl2];refine Nat.le_trans (mergeM_len _ _ _) ?_;rw [List.length_take];omega
    refine nz_ [so 2 (D.ptr 0 0),so 3 (D.ptr 1 0),so 4 (D.ptr 2 0),so 7 (D.ptr 3 0),so 8 (D.v (V.one (El.row muE l2))),so 9 (D.val (.int .i64 ((i:Nat):Int))),so 11 (D.ptr 5 0),so 12 (D.ptr 6 0),so 13 (D.val (.int .i64 ((k:Nat):Int)))] [hb_ 42 (scL s),hb_ 29 (afL f),hb_ 27 [Leaf.val (.bool false),natL ([]),natL ([])],hb_ 27 (qL ((x) + ((t.2) * ((bndP s t.1 (decide (t.2 < 0))).1.q)))),none,hb_ 111 [Leaf.val (.bool (cneg ((bndP s t.1 (decide (t.2 < 0))).1.q))),natL (limbs (cnum ((bndP s t.1 (decide (t.2 < 0))).1.q))),natL (limbs (cden ((bndP s t.1 (decide (t.2 < 0))).1.q))),El.row muE ((bndP s t.1 (decide (t.2 < 0))).2.1),Leaf.val (.bool ((bndP s t.1 (decide (t.2 < 0))).2.2))],hb_ 27 [Leaf.val (.bool false),natL (limbs (cnum t.2)),natL (limbs (cden t.2))]] rfl rfl ?_
    refine dr_ 0 [] [] (dz 4 rfl (kq_ rfl (jix k hy rfl) (kq_ rfl (jft rfl) (kq_ rfl (jlr rfl) (dz 4 rfl (kq_ rfl (jix k hy rfl) (kq_ rfl (jfr rfl) (kq_ rfl (jlr rfl) ?_))))))))
    refine kc_ fn55 rfl (rqmul (Qr.mk false (limbs (cnum t.2)) (limbs (cden t.2)) (small_limbs _) (small_limbs _)) (rq false (cnum t.2) (cden t.2)) (qr_eq (val_limbs _) (val_limbs _)) (Fit.mk (Br.use (r:=t.2) (by omega)).n (Br.use (r:=t.2) (by omega)).d) y.c (y.c.q) rfl (Fq.use (x:=y.c) (by omega))) ?_
    refine kc_ fn56 rfl (plus_r l2 y.r ((rq false (cnum t.2) (cden t.2)) * (y.c.q)) (by assumption) (by omega) (by omega)) (dz 1 rfl (DK_nil (za 2 rfl (nz_ [so 2 _,so 3 _,so 4 _,so 7 _,so 8 (D.v (V.one (El.row muE (plusM l2 y.r ((rq false (cnum t.2) (cden t.2)) * (y.c.q)))))),so 9 _,so 11 _,so 12 _,so 13 _] [_,_,_,_,none,_,_] rfl rfl (zc 2 rfl (tq_ rfl (jad (k + 1) rfl) ?_))))))
    refine zl 2 rfl ?_
    exact nx_ ⟨k + 1,_,rfl,rfl,rfl,hk,(by rw [hl2,mergeM_take hy,Rat.mul_comm])⟩ rfl
   ·refine tq_ rfl (ltF rfl) (zl 9 rfl ?_)
    rw [show k = (bndP s t.1 (decide (t.2 < 0))).2.1.length by omega,List.take_length] at hl2
    refine zc 2 rfl (tq_ rfl (jad (i + 1) rfl) (zl 2 rfl (At_free 5 (At_free 6 (trim_ 4 rfl ?_)))))
    exact nx_ ⟨i + 1,_,_,rfl,rfl,rfl,hi,(by rw [hl2];exact boxN_step ht hR hok1)⟩ rfl
 ·refine tq_ rfl (ltF rfl) (zl 9 rfl ?_)
  have hie:i = f.ts.length:=by omega
  have hbo:=box_ok hs hfl i (by omega) x _ hR
  have htl:(f.ts.take i).length≤7:=by rw [List.length_take];omega
  have hmul:=Nat.mul_le_mul_right (40001 + (b + 1) + 210) htl
  haveI:Br x (b + 1 + 7 * (40001 + (b + 1) + 210)):=hbo.br.mono (by omega)
  rw [hie] at hR
  refine nf_ [0,1] [so 4 (D.ptr 2 0),so 7 (D.ptr 3 0),so 8 (D.v (V.one (El.row muE l)))] [none,none,hb_ 27 [Leaf.val (.bool false),natL ([]),natL ([])],hb_ 27 (qL x)] rfl rfl rfl (zc 2 rfl (tc_ fn57 rfl (rqcanon (qOf (x)) (x) (qOf_q _) (Br.use (by omega))) (zl 6 rfl ?_)))
  exact r3_ hq_ rfl (by rw [boxD_some (show boxO s f = _ from hR)])
end Go.Proofs.YtmpkandbccallaaGreatDoor
set_option linter.unusedSimpArgs false
set_option linter.unusedVariables false
namespace Go.Proofs.YtmpkandbccallaaGreatDoor
open Go Go.RowKit Rc
set_option maxRecDepth 10000 in
theorem samem_r (l:List Mu) (hl:l.length≤1000000):Ctr Tryz.prog 16 [V.one (El.row muE l),V.one (El.row muE l)] (R.one (V.one (Leaf.val (.bool true)))):=by
 refine bd_ Tryz.func16 Tryz.ntmps16 rfl (fun w0 A0=>?_)
 refine zc 9 rfl (tq_ rfl (jln rfl) (zl 1 rfl (tq_ rfl (jln rfl) (tq_ rfl (neF rfl) (zl 12 rfl (lpR_ (fun m Γ H=>∃ (i:Nat),l.length - i = m∧Γ = [(0,some (D.v (V.one (El.row muE l)))),(1,some (D.v (V.one (El.row muE l)))),(5,some (D.val (.int .i64 ((i:Nat):Int))))]∧H = []∧i≤l.length) ⟨0,rfl,rfl,rfl,Nat.zero_le _⟩ rfl ?_))))))
 rintro m Γ H ⟨i,rfl,rfl,rfl,hi0⟩
 refine zc 5 rfl (tq_ rfl (jln rfl) ?_)
 by_cases hi:i < l.length
 ·refine tq_ rfl (ltT rfl) (zl 8 rfl ?_)
  obtain ⟨x,hx⟩:∃ x,l[i]? = some x:=⟨_,List.getElem?_eq_getElem hi⟩
  refine dr_ 0 [] [] (dz 2 rfl (kq_ rfl (jix i hx rfl) (kq_ rfl (jft rfl) (kq_ rfl (jlr rfl) (dz 2 rfl (kq_ rfl (jix i hx rfl) (kq_ rfl (jft rfl) (kq_ rfl (jlr rfl) (kq_ rfl (Jq_neq4 rfl rfl rfl row_i4 (d:=false) (by rw [eq4_t rfl];rfl)) ?_)))))))))
  refine dz 3 rfl (kq_ rfl (jix i hx rfl) (kq_ rfl (jfr rfl) (kq_ rfl (jlr rfl) (dz 2 rfl (kq_ rfl (jix i hx rfl) (kq_ rfl (jfr rfl) (kq_ rfl (jlr rfl) (kc_ fn15 rfl (rqsame x.c x.c) (kis_ true rfl (sameQ_self _) ?_)))))))))
  refine dz 2 rfl (DK_nil (za 7 rfl (tq_ rfl (jad (i + 1) rfl) (zl 2 rfl ?_))))
  exact nx_ ⟨i + 1,rfl,rfl,rfl,hi⟩ rfl
 ·refine tq_ rfl (ltF rfl) (zl 13 rfl ?_)
  exact r1_ hq_ rfl rfl
end Go.Proofs.YtmpkandbccallaaGreatDoor
set_option linter.unusedSimpArgs false
set_option linter.unusedVariables false
namespace Rc
open Go Go.RowKit
def awF:Af:=⟨[(0,((1:Int):Rat))],((-1:Int):Rat)⟩
def awQ:Qu:=⟨⟨1,[awF],[awF]⟩,⟨[0],[((3:Int):Rat)],[]⟩,fZ⟩
def awS:Sc:=⟨awQ,[],[]⟩
theorem rat0:D.agg [Leaf.val (.bool false),nilL,nilL] = D.agg (qL 0):=by
 show _ = D.agg [Leaf.val (.bool (cneg 0)),natL (limbs (cnum 0)),natL (limbs (cden 0))]
 rw [cnum_zero,cden_zero,limbs_zero];rfl
theorem awF_ok (n:Nat) (h:1≤n):FOk 3 n awF:=
 ⟨⟨by decide,fun t ht=>by simp at ht,trivial⟩,fun t ht=>by simp [awF] at ht;subst ht;exact Hb.int (by decide),Hb.int (by decide),fun t ht=>by simp [awF] at ht;subst ht;exact h⟩
theorem awQ_ok:QOk awQ:=by
 refine ⟨⟨by decide,by decide,by decide,by decide,by decide,fun j x hx=>?_,fun x hx=>?_⟩,⟨rfl,rfl,by decide,fun j x y hx hy=>?_,fun x hx=>by simp [awQ] at hx⟩,⟨trivial,fun t ht=>by simp [awQ,fZ] at ht,Hb.z,fun t ht=>by simp [awQ,fZ] at ht⟩⟩
 ·have hx:[awF][j]? = some x:=hx
  have:=List.mem_of_getElem? hx
  rw [List.mem_singleton] at this
  subst this;exact awF_ok _ (by show 1≤1 + j;omega)
 ·have hx:x∈[awF]:=hx
  rw [List.mem_singleton] at hx
  subst hx;exact awF_ok _ (by decide)
 ·have hx:[(0:Rat)][j]? = some x:=hx
  have hy:[((3:Int):Rat)][j]? = some y:=hy
  have h1:=List.mem_of_getElem? hx
  have h2:=List.mem_of_getElem? hy
  rw [List.mem_singleton] at h1 h2
  subst h1;subst h2
  exact ⟨Hb.z,Hb.int (by decide),by decide⟩
theorem awS_ok:SOk awS:=⟨awQ_ok,fun d hd=>by simp [awS] at hd,by decide,fun m hm=>by simp [awS] at hm,by decide⟩
theorem awq_ls:D.agg [Leaf.val (.int .i64 1),afE.row [awF],afE.row [awF],ratE.row [0],ratE.row [((3:Int):Rat)],afE.row [],tmE.row [],Leaf.val (.bool false),nilL,nilL] = (D.v (quV awQ)):=by
 show _ = D.agg [Leaf.val (.int .i64 1),afE.row [awF],afE.row [awF],ratE.row [0],ratE.row [((3:Int):Rat)],afE.row [],tmE.row [],Leaf.val (.bool (cneg 0)),natL (limbs (cnum 0)),natL (limbs (cden 0))]
 rw [cnum_zero,cden_zero,limbs_zero];rfl
end Rc
set_option linter.unusedSimpArgs false
set_option linter.unusedVariables false
namespace Rc
open Go Go.RowKit
def bwL:List Lm:=[⟨0,false,qOf ((-1:Int):Rat),(boxD awS awF).2.1⟩]
theorem bw_lo:(boxD awS awF).2.2 = true∧(boxD awS awF).1 = ((-1:Int):Rat):=by decide +kernel
theorem bw_hi:(boxD (withL awS bwL) (negF awF)).2.2 = true∧(boxD (withL awS bwL) (negF awF)).1 = ((-2:Int):Rat):=by decide +kernel
def bwL2:List Lm:=[⟨0,false,qOf ((-1:Int):Rat),(boxD awS awF).2.1⟩,⟨0,true,qOf ((2:Int):Rat),(boxD (withL awS bwL) (negF awF)).2.1⟩]
def bwS:Sc:=withL awS bwL2
theorem bw_run:(runM boxD awS 0).lems = bwL2:=by
 have h1:runN boxD awS 0 0 = []:=rfl
 have hA:runA boxD awS 0 [] 0 awF = bwL:=by
  have hv:sideV boxD awS 0 false awF = ((-1:Int):Rat):=by
   unfold sideV;rw [if_neg (by decide)];show rndB (boxD awS awF).1 false 0 = _;unfold rndB;rw [if_pos rfl,bw_lo.2]
  show [] ++ sideN boxD awS 0 0 false awF = _
  rw [sideN_t (d:=boxD) (s:=awS) (bits:=0) (j:=0) (up:=false) (p:=awF) bw_lo.1 (by rfl),hv];rfl
 have hB:sideN boxD (withL awS bwL) 0 0 true awF = [⟨0,true,qOf ((2:Int):Rat),(boxD (withL awS bwL) (negF awF)).2.1⟩]:=by
  have hv:sideV boxD (withL awS bwL) 0 true awF = ((2:Int):Rat):=by
   unfold sideV;rw [if_pos rfl];show rndB (-(boxD (withL awS bwL) (negF awF)).1) true 0 = _;unfold rndB;rw [if_pos rfl,bw_hi.2];decide +kernel
  rw [sideN_t (d:=boxD) (s:=withL awS bwL) (bits:=0) (j:=0) (up:=true) (p:=awF) bw_hi.1 (by rfl),hv];rfl
 show runN boxD awS 0 (0 + 1) = _
 rw [runN_get (p:=awF) rfl,h1,hA,hB];rfl
theorem bw_runS:runM boxD awS 0 = bwS:=by
 show (⟨awQ,[],(runM boxD awS 0).lems⟩:Sc) = _
 rw [bw_run];rfl
def bwF:Af:=⟨[(0,((1:Int):Rat)),(1,((-1:Int):Rat))],0⟩
theorem bwF_ok:FOk 3 2 bwF:=
 ⟨⟨by decide,fun t ht=>by simp at ht;subst ht;decide,⟨by decide,fun t ht=>by simp at ht,trivial⟩⟩,fun t ht=>by simp [bwF] at ht;rcases ht with rfl | rfl <;> exact Hb.int (by decide),Hb.z,fun t ht=>by simp [bwF] at ht;rcases ht with rfl | rfl <;> decide⟩
theorem bw_sok:SOk bwS:=by rw [← bw_runS];exact (runM_ok boxD_ok awS_ok (by decide) 0).1
theorem bw_val:(boxD bwS bwF).1 = ((-2:Int):Rat)∧(boxD bwS bwF).2.1.length = 3∧(boxD bwS bwF).2.2 = true:=by decide +kernel
theorem bw_low:sg (bndP bwS 1 false).1.q = 0∧(bndP bwS 1 false).2.2 = true:=by decide +kernel
theorem bw_high:(bndP bwS 1 true).1 = qOf ((2:Int):Rat)∧(bndP bwS 1 true).2.2 = true:=by
 have e:highM bwS 0 = some (lvr bwS.lems (bHi bwS 0),_):=highM_tri (by decide +kernel) (by decide +kernel) (by decide +kernel) (by decide +kernel)
 have e2:bndP bwS 1 true = highP bwS 0:=bndP_up (s:=bwS) (v:=1) (by decide +kernel)
 rw [e2,highP_some e]
 exact ⟨rfl,rfl⟩
theorem bw_fq:Fq (bndP bwS 1 false).1 40202:=(bnd_ok bw_sok.sb (by decide) (bndP_t bw_low.2)).fq
theorem bwf_ls:D.agg [tmE.row [(0,((1:Int):Rat)),(1,((-1:Int):Rat))],Leaf.val (.bool false),nilL,nilL] = D.v (afV bwF):=by
 show _ = D.agg [tmE.row [(0,((1:Int):Rat)),(1,((-1:Int):Rat))],Leaf.val (.bool (cneg 0)),natL (limbs (cnum 0)),natL (limbs (cden 0))]
 rw [cnum_zero,cden_zero,limbs_zero];rfl
end Rc
set_option linter.unusedSimpArgs false
set_option linter.unusedVariables false
namespace Go.Proofs.YtmpkandbccallaaGreatDoor
open Go Go.RowKit Rc
set_option maxRecDepth 10000 in
theorem form23 (l:List Nat) (hl:l.length≤1000000) (hb:∀ x∈l,x < 256) (g:Gr) (hg:GOk g):Ctr Tryz.prog 17 [V.one (El.row u8E l),grV g] (R.one (afV (formq l 0 (g.inp + g.us.length)).1)):=by
 refine bd_ Tryz.func17 Tryz.ntmps17 rfl (fun w0 A0=>?_)
 have hk0:0≤l.length:=Nat.zero_le _
 have h1:=hg.i1;have h2:=hg.i3;have h3:=hg.u4;have h4:=hg.o1;have h5:=hg.o3
 refine zc 9 rfl ?_
 refine Tl_inline rfl rfl Tryz.func59 rfl rfl Tryz.ntmps59 (Nat.le_of_ble_eq_true rfl) rfl (fun a1 d1 s1=>?_)
 refine qc_ (zc 7 rfl (te_ rfl (Je_build0F rfl un22 ty5 _) (zl 1 rfl ?_)))
 obtain ⟨ti2,hi2,hz2,hs2,hb2⟩:=in5
 refine te_ rfl (Je_append0F u8E l rfl rfl rfl (by decide) un22 un22 hi2 hz2 hs2 rfl (by simp only [maxLen];omega) (by rw [hb2];omega) (H2:=_)) (zl 5 rfl (Tc_retI1 [(3,some (D.ptr 0 0)),(4,some (D.ptr 1 0))] (fun _ _ h=>h) d1 s1 rfl rfl rfl ⟨rfl,rfl,trivial⟩ (zl 7 rfl (tc_ fn52 rfl (vars_r g (by assumption)) ?_))))
 refine te_ rfl (Je_call_ptr rfl fn60 rfl rfl rfl rfl (form_spec l 0 (g.inp + g.us.length) (by omega) hl (by assumption) hb)) (zl 3 rfl ?_)
 exact r1_ hq_ rfl rfl
set_option maxRecDepth 10000 in
theorem req7 (f:Af) (hl:f.ts.length≤1000000):Ctr Tryz.prog 19 [afV f,afV f] (R.one (V.one (Leaf.val (.bool true)))):=by
 refine bd_ Tryz.func19 Tryz.ntmps19 rfl (fun w0 A0=>?_)
 refine zc 12 rfl (tq_ rfl (jln rfl) (zl 2 rfl (tq_ rfl (jln rfl) (tq_ rfl (neF rfl) (zl 5 rfl (tc_ fn15 rfl (rqsame (qOf f.c) (qOf f.c)) (is_ true rfl (sameQ_self _) (zl 14 rfl ?_))))))))
 refine lpR_ (fun m Γ H=>∃ (i:Nat),f.ts.length - i = m∧Γ = [(2,some (D.ptr 0 0)),(3,some (D.ptr 1 0)),(5,some (D.val (.int .i64 ((i:Nat):Int))))]∧H = [hb_ 29 (afL f),hb_ 29 (afL f)]∧i≤f.ts.length) ⟨0,rfl,rfl,rfl,Nat.zero_le _⟩ rfl ?_
 rintro m Γ H ⟨i,rfl,rfl,rfl,hi0⟩
 refine zc 6 rfl (tq_ rfl (jln rfl) ?_)
 by_cases hi:i < f.ts.length
 ·refine tq_ rfl (ltT rfl) (zl 8 rfl ?_)
  obtain ⟨x,hx⟩:∃ x,f.ts[i]? = some x:=⟨_,List.getElem?_eq_getElem hi⟩
  refine dr_ 0 [] [] (dz 3 rfl (kq_ rfl (jix i hx rfl) (kq_ rfl (jfr rfl) (kq_ rfl (jli rfl) (dz 3 rfl (kq_ rfl (jix i hx rfl) (kq_ rfl (jfr rfl) (kq_ rfl (jli rfl) (kq_ rfl (neF rfl) ?_)))))))))
  refine dz 4 rfl (kq_ rfl (jix i hx rfl) (kq_ rfl (jfr rfl) (kq_ rfl (jlr rfl) (dz 3 rfl (kq_ rfl (jix i hx rfl) (kq_ rfl (jfr rfl) (kq_ rfl (jlr rfl) (kc_ fn15 rfl (rqsame (qOf x.2) (qOf x.2)) (kis_ true rfl (sameQ_self _) ?_)))))))))
  refine dz 2 rfl (DK_nil (za 7 rfl (tq_ rfl (jad (i + 1) rfl) (zl 2 rfl ?_))))
  exact nx_ ⟨i + 1,rfl,rfl,rfl,hi⟩ rfl
 ·refine tq_ rfl (ltF rfl) (zl 13 rfl ?_)
  exact r1_ hq_ rfl rfl
theorem run_box (s:Sc) (hs:SOk s) (h80:s.lems.length≤80) (bits:Int) (h0:0≤bits) (h4:bits≤4096):Ctr Tryz.prog 31 [V.one (Leaf.val (ifV 47 [])),scV s,V.one (Leaf.val (.int .i64 (bits)))] (R.tup [scV (runM boxD s bits),V.one (Leaf.val (.int .i64 0))]):=
 drun boxD boxD_ok 47 12 [] rfl (by kernel_rfl) fn12 (fun s f hs hf=>box_p s hs.sb f hf (by omega)) s hs h80 bits h0 h4
theorem run_aw24:Ctr Tryz.prog 31 [V.one (Leaf.val (ifV 47 [])),scV awS,V.one (Leaf.val (.int .i64 (0)))] (R.tup [scV bwS,V.one (Leaf.val (.int .i64 0))]):=by
 have h:=run_box awS awS_ok (by decide) 0 (by decide) (by decide)
 rwa [bw_runS] at h
set_option maxRecDepth 10000 in
set_option maxHeartbeats 2000000 in
theorem awake24  : Ctr Tryz.prog 10 [] (R.one (V.one (Leaf.val (.bool true)))):=by
 refine bd_ Tryz.func10 Tryz.ntmps10 rfl (fun w0 A0=>?_)
 refine zc 7 rfl (tc_ fn36 rfl (rqof 1 (by decide) (by decide)) (zl 5 rfl (dr_ 1 [(5,1),(6,1)] [1] (dz 2 rfl (ke_ rfl (fun _=>Je_buildSlice rfl un23 ty92 tz92 rfl (by decide) (by decide) rfl (by decide) rfl) (kc_ fn36 rfl (rqof (-1) (by decide) (by decide)) (dz 3 rfl (DK_nil (za 2 rfl ?_)))))))))
 refine dr_ 1 [(11,2),(12,2)] [2] (dz 1 rfl (ke_ rfl (fun _=>Je_buildSlice rfl un31 ty29 tz29 rfl (by decide) (by decide) rfl (by decide) rfl) (dz 1 rfl (ke_ rfl (fun _=>Je_buildSlice rfl un31 ty29 tz29 rfl (by decide) (by decide) rfl (by decide) rfl) (dz 2 rfl (keq_ (D.agg (qL 0)) rfl (rat0) ?_))))))
 refine ke_ rfl (fun _=>Je_buildSlice rfl un34 ty27 tz27 rfl (by decide) (by decide) rfl (by decide) rfl) (kc_ fn36 rfl (rqof 3 (by decide) (by decide)) (ke_ rfl (fun _=>Je_buildSlice rfl un34 ty27 tz27 rfl (by decide) (by decide) rfl (by decide) rfl) (dz 2 rfl (keq_ (D.v (quV awQ)) rfl (awq_ls) (dz 2 rfl (DK_nil (za 4 rfl ?_)))))))
 refine tq_ rfl (Jq_iface (vs:=[]) rfl rfl (by kernel_rfl)) (zl 2 rfl (tc_ fn31 rfl (run_aw24) (zl 9 rfl (dr_ 1 [(13,4),(14,4)] [4] (dz 4 rfl (kc_ fn36 rfl (rqof (-1) (by decide) (by decide)) (dz 1 rfl (ke_ rfl (fun _=>Je_buildSlice rfl un23 ty92 tz92 rfl (by decide) (by decide) rfl (by decide) rfl) (dz 1 rfl ?_)))))))))
 refine keq_ (D.v (afV bwF)) rfl (bwf_ls) (kc_ fn12 rfl (box_p bwS bw_sok.sb bwF (b:=3) bwF_ok (by decide)) (dz 4 rfl (kis_ true rfl (bw_val.2.2) (dz 4 rfl (DK_nil (za 4 rfl (tc_ fn14 rfl (var_p bwS bw_sok.sb 1 (by decide)) (zl 4 rfl (is_ true rfl (bw_low.2) ?_)))))))))
 refine zl 1 rfl (is_ true rfl (bw_high.2) (zl 9 rfl (dr_ 0 [] [] (dz 7 rfl (kq_ rfl (jln rfl) (kq_ rfl (eqT rfl (by rw [bw_val.2.1];rfl)) (dz 3 rfl (kc_ fn36 rfl (rqof (-2) (by decide) (by decide)) (kc_ fn15 rfl (rqsame (qOf (boxD bwS bwF).1) (qOf ((-2:Int):Rat))) ?_)))))))))
 refine kis_ true rfl (by rw [bw_val.1];exact sameQ_self _) (dz 9 rfl (kc_ fn37 rfl (rqsign (bndP bwS 1 false).1 (bndP bwS 1 false).1.q rfl (Fit.mono bw_fq.fit (by omega))) (kq_ rfl (eqT rfl bw_low.1) (dz 3 rfl (kc_ fn36 rfl (rqof 2 (by decide) (by decide)) (kc_ fn15 rfl (rqsame (bndP bwS 1 true).1 (qOf ((2:Int):Rat))) (kis_ true rfl (by rw [bw_high.1];exact sameQ_self _) ?_)))))))
 refine dz 2 rfl (DK_nil (za 1 rfl ?_))
 exact r1_ hq_ rfl rfl
set_option maxRecDepth 10000 in
theorem scope24 (l:List Nat) (hl:l.length≤1000000) (hb:∀ x∈l,x < 256):Ctr Tryz.prog 11 [V.one (El.row u8E l)] (R.one (scV (extM l))):=by
 refine bd_ Tryz.func11 Tryz.ntmps11 rfl (fun w0 A0=>?_)
 refine zc 8 rfl (tc_ fn38 rfl (extend_r l hl hb) (zl 3 rfl ?_))
 exact r1_ hq_ rfl rfl
end Go.Proofs.YtmpkandbccallaaGreatDoor
set_option linter.unusedSimpArgs false
set_option linter.unusedVariables false
namespace Go.Proofs.YtmpkandbccallaaGreatDoor
open Go Go.RowKit Rc
set_option maxRecDepth 10000 in
set_option maxHeartbeats 2000000 in
theorem law_blower (l:List Nat) (hb:∀ x∈l,x < 256) (l2:List Nat) (hb2:∀ x∈l2,x < 256) (lm:List Lm) (hm0:lm.length≤9223372036854775807) (hm1:∀ m∈lm,m.pf.length≤9223372036854775807):Ctr Tryz.prog 9 [V.one (El.row u8E l),V.one (El.row u8E l2),V.one (El.row lmE lm)] (R.one (V.one (Leaf.val (.bool true)))):=by
 refine bd_ Tryz.func9 Tryz.ntmps9 rfl (fun w0 A0=>?_)
 refine zc 8 rfl (tc_ fn10 rfl (awake24) (zl 10 rfl (tq_ rfl (jln rfl) ?_)))
 by_cases hl3:300 < l.length
 ·refine tq_ rfl (gtT rfl) (zl 18 rfl ?_)
  exact r1_ hq_ rfl rfl
 ·refine tq_ rfl (gtF rfl) (zl 2 rfl (tq_ rfl (jln rfl) ?_))
  by_cases hl40:100 < l2.length
  ·refine tq_ rfl (gtT rfl) (zl 14 rfl ?_)
   exact r1_ hq_ rfl rfl
  ·refine tq_ rfl (gtF rfl) (zl 3 rfl (tc_ fn33 rfl (small_r lm hm0 hm1) (zl 4 rfl ?_)))
   refine Tc_cond rfl (fun hsm=>?_) (fun hsm=>?_)
   ·refine zc 5 rfl ?_
    exact r1_ hq_ rfl rfl
   ·refine zc 3 rfl ?_
    have hl:l.length≤1000000:=by omega
    obtain ⟨hs,h8⟩:=extM_ok l
    have hg_:=hs.q.g
    have hi1:=hg_.i1;have hi3:=hg_.i3;have hu4:=hg_.u4
    have hF:FOk 3 ((extM l).q.g.inp + (extM l).q.g.us.length) (formq l2 0 ((extM l).q.g.inp + (extM l).q.g.us.length)).1:=formq_fok l2 0 _
    obtain ⟨hm2,hmB⟩:=smallB_of (by simpa using hsm)
    have hs2:SB 40001 (withL (extM l) ((extM l).lems ++ lm)):=sb_more hs (by omega) hm2 hmB
    have hdl:=(boxD_der hs2 hF.fl).len
    refine nz_ [so 0 (D.v (V.one (El.row u8E l))),so 1 (D.v (V.one (El.row u8E l2))),so 2 (D.v (V.one (El.row lmE lm)))] [] rfl rfl (zc 2 rfl (tc_ fn11 rfl (scope24 l hl hb) (zl 6 rfl (Tl_build0 rfl rfl rfl rfl un40 ty133 rfl (Tl_ownG 32 1 rfl rfl (zl 2 rfl (te_ rfl (jal (e:=lmE) (l:=[]) rfl rfl) (zl 1 rfl (te_ rfl (jal rfl rfl) ?_)))))))))
    refine zl 5 rfl (nz_ [so 1 _,so 7 (D.ptr 0 0)] [hb_ 42 (quL ((extM l).q) ++ [El.row dcE ((extM l).path),Leaf.own 1 2]),hgr 133 6 lmE ([] ++ (extM l).lems ++ lm) 2] rfl rfl (zc 5 rfl (tc_ fn17 rfl (form23 l2 (by omega) (by assumption) (extM l).q.g (by assumption)) (zl 7 rfl (tq_ rfl (jvl 11 rfl rfl) (zl 1 rfl ?_))))))
    refine tc_ fn12 rfl (box_p (withL (extM l) ((extM l).lems ++ lm)) hs2 (formq l2 0 ((extM l).q.g.inp + (extM l).q.g.us.length)).1 hF (by omega)) (zl 11 rfl ?_)
    refine nz_ [so 7 _,so 8 (D.ptr 2 0),so 9 (D.ptr 3 0),so 10 (D.v (V.one (El.row muE ((boxD (withL (extM l) ((extM l).lems ++ lm)) ((formq l2 0 ((extM l).q.g.inp + (extM l).q.g.us.length)).1)).2.1)))),so 11 (D.bool ((boxD (withL (extM l) ((extM l).lems ++ lm)) ((formq l2 0 ((extM l).q.g.inp + (extM l).q.g.us.length)).1)).2.2))] [_,_,hb_ 29 (afL ((formq l2 0 ((extM l).q.g.inp + ((extM l).q.g.us).length)).1)),hb_ 27 (qL ((boxD (withL (extM l) ((extM l).lems ++ lm)) ((formq l2 0 ((extM l).q.g.inp + (extM l).q.g.us.length)).1)).1))] rfl rfl ?_
    refine zc 1 rfl (tq_ rfl (jvl 11 rfl rfl) (zl 1 rfl (tc_ fn13 rfl (boxr (withL (extM l) ((extM l).lems ++ lm)) hs2 (formq l2 0 ((extM l).q.g.inp + (extM l).q.g.us.length)).1 hF (by omega)) (zl 11 rfl ?_))))
    refine nf_ [0,2] [so 9 _,so 10 _,so 11 _,so 12 (D.ptr 4 0),so 13 (D.v (V.one (El.row muE ((boxD (withL (extM l) ((extM l).lems ++ lm)) ((formq l2 0 ((extM l).q.g.inp + (extM l).q.g.us.length)).1)).2.1)))),so 14 (D.bool ((boxD (withL (extM l) ((extM l).lems ++ lm)) ((formq l2 0 ((extM l).q.g.inp + (extM l).q.g.us.length)).1)).2.2))] [none,_,none,_,hb_ 27 (qL ((boxD (withL (extM l) ((extM l).lems ++ lm)) ((formq l2 0 ((extM l).q.g.inp + (extM l).q.g.us.length)).1)).1))] rfl rfl rfl ?_
    refine zc 3 rfl (tq_ rfl (Jq_eql_bool rfl rfl rfl un4 (d:=true) (by simp)) (zl 3 rfl (tc_ fn15 rfl (rqsame (qOf (boxD (withL (extM l) ((extM l).lems ++ lm)) (formq l2 0 ((extM l).q.g.inp + (extM l).q.g.us.length)).1).1) (qOf (boxD (withL (extM l) ((extM l).lems ++ lm)) (formq l2 0 ((extM l).q.g.inp + (extM l).q.g.us.length)).1).1)) (is_ true rfl (sameQ_self _) (zl 4 rfl ?_)))))
    refine tc_ fn16 rfl (samem_r (boxD (withL (extM l) ((extM l).lems ++ lm)) (formq l2 0 ((extM l).q.g.inp + (extM l).q.g.us.length)).1).2.1 (by omega)) (zl 3 rfl (tc_ fn35 rfl (box_name) (tq_ rfl (Jq_str_eq rfl rfl rfl (d:=true) (by decide +kernel)) (zl 4 rfl ?_))))
    exact r1_ hq_ rfl rfl
end Go.Proofs.YtmpkandbccallaaGreatDoor
namespace Rc
open Go Go.RowKit Go.ChangeShapes Go.WideShapes
def fldL (P:Program) (t:Nat):Option (List (Nat × Nat)):=
 match P.underlying t with
 | some (.struct fs)=>some (fs.toList.map fun f=>(f.offset,f.type))
 | _=>none
theorem fldL_spec {P:Program} {t:Nat} {l:List (Nat × Nat)} (h:fldL P t = some l):∃ fs,P.underlying t = some (.struct fs)∧fs.toList.map (fun f=>(f.offset,f.type)) = l:=by
 unfold fldL at h
 cases hu:P.underlying t with
 | none=>rw [hu] at h;simp at h
 | some d=>
  rw [hu] at h
  cases d <;> simp only [reduceCtorEq] at h
  exact ⟨_,rfl,by simpa using h⟩
section
variable {H:Type} {enc:TypeId × Value→H} {P:Program} {w:World} {base:Nat} {held:Bool}
@[reducible] def here (w:World):Foot:=Foot.of fun k _=>k < w.heap.size
theorem rd_fields {t:Nat} {l:List (Nat × Nat)} {cs:List Value} {fuel:Nat} {x:DataW H × List MemPlace} {spare:Nat→Bool} (hf:fldL P t = some l) (h:DataW.trod enc P w base spare held fuel t cs = some x) :
  cs.length = P.cellsOf t∧∃ n,∀ (i off ty:Nat),l[i]? = some (off,ty)→∃ y,DataW.trod enc P w base spare held n ty ((cs.drop off).take (P.cellsOf ty)) = some y:=by
 obtain ⟨fs,hu,hl⟩:=fldL_spec hf
 obtain ⟨xs,n,_,_,hlen,hxs,hall⟩:=DataW.trod_struct hu h
 refine ⟨hlen,n,fun i off ty hi=>?_⟩
 rw [← hl,List.getElem?_map] at hi
 cases hfi:fs.toList[i]? with
 | none=>rw [hfi] at hi;simp at hi
 | some f=>
  rw [hfi] at hi
  simp only [Option.map_some,Option.some.injEq,Prod.mk.injEq] at hi
  obtain ⟨rfl,rfl⟩:=hi
  have hfi':fs[i]? = some f:=by simpa using hfi
  have:=hall i f hfi'
  have hlt:i < xs.length:=by rw [hxs];exact (Array.getElem?_eq_some_iff.1 hfi').1
  exact ⟨xs[i],by rw [this,List.getElem?_eq_getElem hlt]⟩
theorem rd_bool {t:Nat} {cs:List Value} {fuel:Nat} {x:DataW H × List MemPlace} {spare:Nat→Bool} (ht:P.underlying t = some .bool) (h:DataW.trod enc P w base spare held fuel t cs = some x):∃ b,cs = [.bool b]:=by
 cases fuel with
 | zero=>simp [DataW.trod] at h
 | succ n=>
  unfold DataW.trod at h
  rw [ht] at h
  split at h <;> simp_all
theorem rd_int {t:Nat} {k:IntKind} {cs:List Value} {fuel:Nat} {x:DataW H × List MemPlace} {spare:Nat→Bool} (ht:P.underlying t = some (.int k)) (h:DataW.trod enc P w base spare held fuel t cs = some x) :
  ∃ n,cs = [.int k n]∧(Lit.int k n).wf = true:=by
 obtain ⟨n,rfl,_,hw⟩:=DataW.trod_int ht h
 exact ⟨n,rfl,hw⟩
theorem wf_u32 {n:Int} (h:(Lit.int .u32 n).wf = true):0≤n∧n≤4294967295:=by
 simp [Lit.wf,IntKind.min,IntKind.max,IntKind.bits,IntKind.signed] at h
 omega
theorem wf_u8 {n:Int} (h:(Lit.int .u8 n).wf = true):0≤n∧n≤255:=by
 simp [Lit.wf,IntKind.min,IntKind.max,IntKind.bits,IntKind.signed] at h
 omega
theorem cell_lt {a:Addr} {v:Value} (h:w.cell? a = some v):a.block < w.heap.size:=by
 unfold World.cell? at h
 cases hb:w.heap[a.block]? with
 | none=>rw [hb] at h;simp at h
 | some o=>exact (Array.getElem?_eq_some_iff.1 hb).1
theorem rd_nat {t u:Nat} {cs:List Value} {fuel:Nat} {x:DataW H × List MemPlace} (ht:P.underlying t = some (.slice u)) (hu:P.underlying u = some (.int .u32)) (hc:P.cellsOf u = 1)
  (h:DataW.trod enc P w base (fun _=>true) held fuel t cs = some x):∃ c l,cs = [c]∧Small l∧(natL l).den (here w) c w:=by
 rcases open_ints ht hu hc h with ⟨rfl,_⟩ | ⟨a,len,cap,zs,rfl,_,hl,hm,hz,_,hcell,hwf⟩
 ·exact ⟨_,[],rfl,Small.nil,nil_slice _ _⟩
 ·simp only [if_true] at hz
  refine ⟨_,(zs.take len).map Int.toNat,rfl,?_,?_⟩
  ·intro y hy
   obtain ⟨n,hn,rfl⟩:=List.mem_map.1 hy
   have:=wf_u32 (hwf n (List.mem_of_mem_take hn))
   omega
  ·have hlen:((zs.take len).map Int.toNat).length = len:=by simp;omega
   show (sliceRep ((zs.take len).map Int.toNat).length _).P _ _ _
   rw [hlen]
   refine ⟨some a,cap,rfl,hl,hm,fun h=>by simp at h,fun ad had=>?_⟩
   cases had
   refine ⟨fun h0=>?_,fun i lf hi=>?_⟩
   ·obtain ⟨b,off,rfl,_⟩:=ints_at hcell (by omega)
    rfl
   ·rw [List.getElem?_map,List.getElem?_map,List.getElem?_take] at hi
    split at hi
    ·rename_i hil
     have hiz:i < zs.length:=by omega
     obtain ⟨b,off,rfl,hc2⟩:=ints_at hcell (by omega)
     have hci:=hc2 i hiz
     rw [List.getElem?_eq_getElem hiz] at hi
     simp only [Option.map_some,Option.some.injEq] at hi
     subst hi
     have hw:=wf_u32 (hwf zs[i] (List.getElem_mem hiz))
     have hlt:b < w.heap.size:=cell_lt hci
     refine ⟨hlt,_,hci,?_,rfl⟩
     rw [List.getD_eq_getElem?_getD,List.getElem?_eq_getElem hiz]
     simp only [Option.getD_some]
     congr 1
     omega
    ·simp at hi
structure NumTy (P:Program) (tb tn tu tr:Nat):Prop where
 b:P.underlying tb = some .bool
 u:P.underlying tu = some (.int .u32)
 n:P.underlying tn = some (.slice tu)
 cb:P.cellsOf tb = 1
 cu:P.cellsOf tu = 1
 cn:P.cellsOf tn = 1
 r:fldL P tr = some [(0,tb),(1,tn),(2,tn)]
 cr:P.cellsOf tr = 3
variable {tb tn tu tr:Nat}
theorem rd_rat (hT:NumTy P tb tn tu tr) {cs:List Value} {fuel:Nat} {x:DataW H × List MemPlace} (h:DataW.trod enc P w base (fun _=>true) held fuel tr cs = some x) :
  ∃ q:Qr,denL (here w) (qV q).leaves cs w:=by
 obtain ⟨hlen,n,hall⟩:=rd_fields hT.r h
 rw [hT.cr] at hlen
 match cs,hlen with
 | [c0,c1,c2],_=>
  obtain ⟨y0,h0⟩:=hall 0 _ _ rfl
  obtain ⟨y1,h1⟩:=hall 1 _ _ rfl
  obtain ⟨y2,h2⟩:=hall 2 _ _ rfl
  rw [hT.cb] at h0
  rw [hT.cn] at h1 h2
  obtain ⟨b,e0⟩:=rd_bool hT.b h0
  obtain ⟨k1,l1,e1,s1,d1⟩:=rd_nat hT.n hT.u hT.cu h1
  obtain ⟨k2,l2,e2,s2,d2⟩:=rd_nat hT.n hT.u hT.cu h2
  simp at e0 e1 e2
  subst e0;subst e1;subst e2
  exact ⟨⟨b,l1,l2,s1,s2⟩,⟨rfl,rfl⟩,d1,d2,trivial⟩
theorem denL_split {A:Foot} {l1 l2:List Leaf} {cs:List Value} (k:Nat) (h1:denL A l1 (cs.take k) w) (h2:denL A l2 (cs.drop k) w):denL A (l1 ++ l2) cs w:=by
 have:=h1.append h2
 rwa [List.take_append_drop] at this
theorem rdv_u8 {t:Nat} (ht:P.underlying t = some (.int .u8)) {r:Reach} {b0:Nat} {v:Value} {d:DataW H} {p:List MemPlace} (hv:Value.okWide P w r b0 t v) (h:DataW.Trod enc P w base (fun _=>true) held t v d p) :
  ∃ n:Nat,n < 256∧(V.one (Leaf.val (.int .u8 n))).den (here w) v w:=by
 obtain ⟨x,rfl,_,_,hw⟩:=open_int ht hv h
 have:=wf_u8 hw
 exact ⟨x.toNat,by omega,by show _ = _;congr 1;omega,rfl⟩
end
theorem law_calls {P:Program} {f:Nat} {xs:List V} {w:World} {vs:List Value} (h:Ctr P f xs (R.one (V.one (Leaf.val (.bool true))))) (hg:Glob w) (hd:denVs (here w) xs vs w) :
  Calls P f vs.toArray w fun e w'=>e = .returned (.bool true)∧Below w.heap.size w w':=by
 refine Calls.mono (h w vs (fun k _=>k < w.heap.size) hg (fun _ _ hk=>hk) hd) ?_
 rintro e w' ⟨v,rfl,hv,hb⟩
 obtain ⟨rfl,_⟩:v = .bool true∧_:=hv
 exact ⟨rfl,hb⟩
end Rc
set_option linter.unusedSimpArgs false
set_option linter.unusedVariables false
namespace Go.Proofs.YtmpkandbccallaaGreatDoor
open Go Go.RowKit Rc
theorem own:ownKnob Tryz.prog.godebug = none:=by kernel_rfl
theorem laidOut:laidOutB Tryz.prog = true:=by kernel_rfl
theorem numTy:NumTy Tryz.prog 4 25 164 27:=⟨by kernel_rfl,by kernel_rfl,by kernel_rfl,by kernel_rfl,by kernel_rfl,by kernel_rfl,by kernel_rfl,by kernel_rfl⟩
theorem und5:Tryz.prog.underlying 5 = some (.int .u8):=by kernel_rfl
end Go.Proofs.YtmpkandbccallaaGreatDoor
namespace Rc
open Go Go.RowKit Go.ChangeShapes Go.WideShapes
theorem u8_all:∀ l:List Nat,u8E.all l = l.map fun (x:Nat)=>Leaf.val (.int .u8 (x:Int))
 | []=>rfl
 | x :: l=>by show u8E.f x ++ u8E.all l = _;rw [u8_all l];rfl
section
variable {H:Type} {enc:TypeId × Value→H} {P:Program} {w:World} {base:Nat} {held:Bool}
theorem rdv_bytes {t u:Nat} (ht:P.underlying t = some (.slice u)) (hu:P.underlying u = some (.int .u8)) (hc:P.cellsOf u = 1) {r:Reach} {b0:Nat} {v:Value} {d:DataW H} {p:List MemPlace} (hv:Value.okWide P w r b0 t v)
  (h:DataW.Trod enc P w base (fun _=>true) held t v d p):∃ l:List Nat,l.length≤maxLen∧(∀ x∈l,x < 256)∧(V.one (u8E.row l)).den (here w) v w:=by
 obtain ⟨a0,len0,cap0,rfl⟩:=okWide_slice ht hv
 obtain ⟨fuel,hf⟩:=h
 rcases open_ints ht hu hc hf with ⟨hcs,_⟩ | ⟨a,len,cap,zs,hcs,_,hl,hm,hz,_,hcell,hwf⟩
 ·simp [Value.cells] at hcs
  obtain ⟨rfl,rfl,rfl⟩:=hcs
  exact ⟨[],Nat.zero_le _,fun x hx=>by simp at hx,nil_slice _ _⟩
 ·simp [Value.cells] at hcs
  obtain ⟨rfl,rfl,rfl⟩:=hcs
  simp only [if_true] at hz
  have hlen:((zs.take len0).map Int.toNat).length = len0:=by simp;omega
  refine ⟨(zs.take len0).map Int.toNat,by rw [hlen];omega,?_,?_⟩
  ·intro y hy
   obtain ⟨n,hn,rfl⟩:=List.mem_map.1 hy
   have:=wf_u8 (hwf n (List.mem_of_mem_take hn))
   omega
  ·show (sliceRep ((zs.take len0).map Int.toNat).length _).P _ _ _
   rw [hlen,u8_all]
   refine ⟨some a,cap0,rfl,hl,hm,fun h=>by simp at h,fun ad had=>?_⟩
   cases had
   refine ⟨fun h0=>?_,fun i lf hi=>?_⟩
   ·obtain ⟨b,off,rfl,_⟩:=ints_at hcell (by first | omega | (simp at h0;omega))
    rfl
   ·rw [List.getElem?_map,List.getElem?_map,List.getElem?_take] at hi
    split at hi
    ·rename_i hil
     have hiz:i < zs.length:=by omega
     obtain ⟨b,off,rfl,hc2⟩:=ints_at hcell (by omega)
     have hci:=hc2 i hiz
     rw [List.getElem?_eq_getElem hiz] at hi
     simp only [Option.map_some,Option.some.injEq] at hi
     subst hi
     have hw:=wf_u8 (hwf zs[i] (List.getElem_mem hiz))
     have hlt:b < w.heap.size:=cell_lt hci
     refine ⟨hlt,_,hci,?_,rfl⟩
     rw [List.getD_eq_getElem?_getD,List.getElem?_eq_getElem hiz]
     simp only [Option.getD_some]
     congr 1
     omega
    ·simp at hi
variable {tb tn tu tr:Nat}
end
end Rc
set_option linter.unusedSimpArgs false
set_option linter.unusedVariables false
namespace Go.Proofs.YtmpkandbccallaaGreatDoor
open Go Go.RowKit Rc
theorem undBs:Tryz.prog.underlying 22 = some (.slice 5):=by kernel_rfl
theorem undU8:Tryz.prog.underlying 5 = some (.int .u8):=by kernel_rfl
theorem cellsU8:Tryz.prog.cellsOf 5 = 1:=by kernel_rfl
end Go.Proofs.YtmpkandbccallaaGreatDoor
set_option linter.unusedSimpArgs false
set_option linter.unusedVariables false
namespace Go.Proofs.YtmpkandbccallaaGreatDoor
open Go Go.RowKit Rc
theorem gTab : Tryz.prog.globalNamed "math/bits.deBruijn32tab" = some 0:=by kernel_rfl
theorem tTab:(Tryz.prog.globals[0]?).map (·.type) = some 238:=by kernel_rfl
theorem uTab:Tryz.prog.underlying 238 = some (.array 32 5):=by kernel_rfl
theorem uEl:Tryz.prog.underlying 5 = some (.int .u8):=by kernel_rfl
theorem cEl:Tryz.prog.cellsOf 5 = 1:=by kernel_rfl
theorem cTab:Tryz.prog.cellsOf 238 = 32:=by kernel_rfl
theorem undI:Tryz.prog.underlying 3 = some (.int .i64):=by kernel_rfl
theorem cellsI64:Tryz.prog.cellsOf 3 = 1:=by kernel_rfl
open Go.ChangeShapes Go.WideShapes
@[reducible] def laidL:List (String × DataW Unit):=[("math/bits.deBruijn32tab",Rows.laid_math_bits_deBruijn32tab)]
theorem door_met (os:Os) (args:Array Value):laidMetH Tryz.prog laidL ((World.doorLaid Tryz.prog 400 os).forCall (fun _ _=>0) ⟨#[],args,[]⟩).memory:=
 laidMetH_of_parts3 (fuel:=8) (laidMet_of_run' 8 (by kernel_rfl) (by kernel_rfl)) (by kernel_rfl) (by kernel_rfl)
theorem tab_data:(Rows.laid_math_bits_deBruijn32tab:DataW Unit) = .agg (bruijn.map fun n:Nat=>.lit (.int .u8 (n:Int))):=by kernel_rfl
theorem glob_of_laid {W:World} (h:laidMetH Tryz.prog laidL W):Glob W:=by
 rw [MakeChecks.laidMetH_plain _ _ _ (by kernel_rfl)] at h
 obtain ⟨ps,⟨g0,t0,cs0,f0,p0,q0,hg0,ht0,hv0,hd0,_,_⟩,_⟩:=h
 obtain rfl:=Option.some.inj (gTab.symm.trans hg0)
 obtain rfl:=Option.some.inj (tTab.symm.trans ht0)
 obtain ⟨xs,m,_,hx,hlen,hxs,hel⟩:=DataW.trod_array uTab hd0
 rw [tab_data] at hx
 have hd:=congrArg Prod.fst hx
 simp only [DataW.agg.injEq] at hd
 rw [cTab] at hlen
 have key:∀ (i:Nat) (k:Nat),bruijn[i]? = some k→cs0[i]? = some (.int .u8 (k:Int)):=by
  intro i k hk
  have hi:i < 32:=(List.getElem?_eq_some_iff.1 hk).1
  have h1:=hel i hi
  rw [List.getElem?_eq_getElem (by omega)] at h1
  obtain ⟨n,hc,hxn,_⟩:=DataW.trod_int uEl h1
  have h2:=congrArg (fun l=>l[i]?) hd
  simp only [List.getElem?_map,hk,List.getElem?_eq_getElem (show i < xs.length by omega),Option.map_some,hxn] at h2
  have h3:n = (k:Int):=by
   have:=Option.some.inj h2
   simp only [DataW.lit.injEq,Lit.int.injEq,true_and] at this
   exact this.symm
  subst h3
  rw [cEl,Nat.mul_one] at hc
  have h4:=congrArg (fun l=>l[0]?) hc
  simp only [List.getElem?_take,List.getElem?_drop,Nat.add_zero,Nat.zero_lt_one,if_true,List.getElem?_cons_zero] at h4
  rw [← Array.getElem?_toList]
  exact h4
 intro p hp
 have hp':p = (0,bruijn.map fun n:Nat=>Value.int .u8 (n:Int)):=by simpa [tab,bruijn] using hp
 subst hp'
 have hcell:=fun i:Nat=>World.var?_cell hg0 hv0 i
 refine ⟨?_,fun i v hv=>?_⟩
 ·have h0:=hcell 0
  rw [key 0 0 rfl] at h0
  unfold World.cell? at h0
  cases hh:W.heap[0]? with
  | none=>simp [hh] at h0
  | some o=>exact (Array.getElem?_eq_some_iff.1 hh).1
 ·simp only [List.getElem?_map] at hv
  cases hk:bruijn[i]? with
  | none=>rw [hk] at hv;simp at hv
  | some k=>
   rw [hk] at hv
   simp only [Option.map_some,Option.some.injEq] at hv
   rw [hcell i,key i k hk,hv]
end Go.Proofs.YtmpkandbccallaaGreatDoor
set_option linter.unusedSimpArgs false
set_option linter.unusedVariables false
namespace Go.Proofs.YtmpkandbccallaaGreatDoor
open Go Go.RowKit Rc
end Go.Proofs.YtmpkandbccallaaGreatDoor
set_option linter.unusedSimpArgs false
set_option linter.unusedVariables false
namespace Rc
open Go Go.RowKit Go.ChangeShapes Go.WideShapes
theorem pick_list {α:Type} {p:Nat→α→Prop}:∀ n:Nat,(∀ i,i < n→∃ a,p i a)→∃ l:List α,l.length = n∧∀ i a,l[i]? = some a→p i a
 | 0,_=>⟨[],rfl,fun i a h=>by simp at h⟩
 | n + 1,h=>by
  obtain ⟨l,hl,hp⟩:=pick_list n (fun i hi=>h i (by omega))
  obtain ⟨a,ha⟩:=h n (by omega)
  refine ⟨l ++ [a],by simp [hl],fun i b hb=>?_⟩
  by_cases e:i < n
  ·rw [List.getElem?_append_left (by omega)] at hb;exact hp i b hb
  ·rw [List.getElem?_append_right (by omega)] at hb
   have h1:=(List.getElem?_eq_some_iff.1 hb).1
   have h2:i = n:=by simp at h1;omega
   subst h2
   simp [hl] at hb;subst hb;exact ha
section
variable {H:Type} {enc:TypeId × Value→H} {P:Program} {w:World} {base:Nat} {held:Bool}
theorem rd_row {α:Type} (E:El α) (Pr:α→Prop) {t e:Nat} (ht:P.underlying t = some (.slice e)) (hc:P.cellsOf e = E.sz) (hsz:0 < E.sz)
  (hel:∀ (cs:List Value) (fuel:Nat) (x:DataW H × List MemPlace),DataW.trod enc P w base (fun _=>true) held fuel e cs = some x→∃ a,denL (here w) (E.f a) cs w∧Pr a)
  {cs:List Value} {fuel:Nat} {x:DataW H × List MemPlace} (h:DataW.trod enc P w base (fun _=>true) held fuel t cs = some x) :
  ∃ c l,cs = [c]∧l.length≤maxLen∧(∀ a∈l,Pr a)∧(E.row l).den (here w) c w:=by
 rcases DataW.trod_slice ht h with ⟨rfl,_⟩ | ⟨a,len,cap,elems,rest,n,_,rfl,_,_,hl,hm,hlen,hget,hsp,_⟩
 ·exact ⟨_,[],rfl,Nat.zero_le _,fun a h=>by simp at h,nil_slice _ _⟩
 obtain ⟨hrl,hrest⟩:=hsp rfl
 have each:∀ i,i < cap→∃ cs' m y,w.cells? base (a.add (i * E.sz)) E.sz = some cs'∧DataW.trod enc P w base (fun _=>true) held m e cs' = some y:=by
  intro i hi
  have hb:∃ y,(w.cells? base (a.add (i * P.cellsOf e)) (P.cellsOf e)).bind (DataW.trod enc P w base (fun _=>true) held n e) = some y:=by
   by_cases hil:i < len
   ·exact ⟨_,(hget i hil).trans (List.getElem?_eq_getElem (by omega))⟩
   ·have h1:=hrest (i - len) (by omega)
    rw [show len + (i - len) = i by omega] at h1
    exact ⟨_,h1.trans (List.getElem?_eq_getElem (by omega))⟩
  obtain ⟨y,hy⟩:=hb
  rw [hc,Option.bind_eq_some_iff] at hy
  obtain ⟨cs',h1,h2⟩:=hy
  exact ⟨cs',n,y,h1,h2⟩
 obtain ⟨l,hll,hlp⟩:=pick_list (p:=fun i b=>∃ cs',w.cells? base (a.add (i * E.sz)) E.sz = some cs'∧denL (here w) (E.f b) cs' w∧Pr b) len (fun i hi=>by
  obtain ⟨cs',m,y,h1,h2⟩:=each i (by omega)
  obtain ⟨b,h3,h4⟩:=hel cs' m y h2
  exact ⟨b,cs',h1,h3,h4⟩)
 refine ⟨_,l,rfl,by omega,fun b hb=>?_,?_⟩
 ·obtain ⟨i,hi⟩:=List.mem_iff_getElem?.1 hb
  obtain ⟨_,_,_,h4⟩:=hlp i b hi
  exact h4
 show (sliceRep l.length (E.all l)).P _ _ _
 rw [hll]
 have hspot:0 < cap→a.spot = none:=fun h0=>by
  obtain ⟨cs',m,y,h1,h2⟩:=each 0 h0
  have h3:=(World.cells?_some h1).2.2 0 hsz
  have hcl:=(World.cells?_some h1).2.1
  rw [List.getElem?_eq_getElem (by omega)] at h3
  simpa [Addr.add] using World.cell?_spot h3
 refine ⟨some a,cap,rfl,hl,hm,fun h=>by simp at h,fun ad had=>?_⟩
 cases had
 refine ⟨hspot,fun i lf hi=>?_⟩
 have hi0:i < l.length * E.sz:=by have:=(List.getElem?_eq_some_iff.1 hi).1;rwa [El.all_length] at this
 have hq:i / E.sz < l.length:=(Nat.div_lt_iff_lt_mul hsz).2 hi0
 have hr:i % E.sz < E.sz:=Nat.mod_lt _ hsz
 have hqr:i / E.sz * E.sz + i % E.sz = i:=by rw [Nat.mul_comm];exact Nat.div_add_mod i E.sz
 obtain ⟨cs',h1,h2,_⟩:=hlp (i / E.sz) _ (List.getElem?_eq_getElem hq)
 have hlf:(E.f l[i / E.sz])[i % E.sz]? = some lf:=by
  rw [← El.all_get E hq,List.getElem?_take,if_pos hr,List.getElem?_drop,hqr];exact hi
 obtain ⟨v,hv,hd⟩:=h2.get hlf
 have h3:=(World.cells?_some h1).2.2 (i % E.sz) hr
 rw [hv] at h3
 have hsp0:=hspot (Nat.lt_of_lt_of_le (Nat.lt_of_le_of_lt (Nat.zero_le _) hq) (by omega))
 obtain ⟨b,off,spot⟩:=a
 subst hsp0
 rw [Go.WideShapes.add_plain,Go.WideShapes.add_plain,Nat.add_assoc,hqr] at h3
 have hlt:b < w.heap.size:=cell_lt h3
 exact ⟨hlt,v,h3,hd⟩
variable {tb tn tu tr ti:Nat}
structure LmTy (P:Program) (tb tn tu tr ti tw tm tl ts tk:Nat):Prop where
 n:NumTy P tb tn tu tr
 i:P.underlying ti = some (.int .i64)
 ci:P.cellsOf ti = 1
 w:fldL P tw = some [(0,ti),(1,ti),(2,ti),(3,ti)]
 cw:P.cellsOf tw = 4
 m:fldL P tm = some [(0,tw),(4,tr)]
 cm:P.cellsOf tm = 7
 s:P.underlying ts = some (.slice tm)
 cs:P.cellsOf ts = 1
 l:fldL P tl = some [(0,ti),(1,tb),(2,tr),(5,ts)]
 cl:P.cellsOf tl = 6
 k:P.underlying tk = some (.slice tl)
theorem rd_row4 {tw:Nat} (hw:fldL P tw = some [(0,ti),(1,ti),(2,ti),(3,ti)]) (hcw:P.cellsOf tw = 4) (hi:P.underlying ti = some (.int .i64)) (hci:P.cellsOf ti = 1) {cs:List Value} {fuel:Nat} {x:DataW H × List MemPlace}
  (h:DataW.trod enc P w base (fun _=>true) held fuel tw cs = some x):∃ r:Rw,cs = [.int .i64 r.kind,.int .i64 r.idx,.int .i64 r.lo,.int .i64 r.hi]:=by
 obtain ⟨hlen,n,hall⟩:=rd_fields hw h
 rw [hcw] at hlen
 match cs,hlen with
 | [c0,c1,c2,c3],_=>
  obtain ⟨y0,h0⟩:=hall 0 _ _ rfl
  obtain ⟨y1,h1⟩:=hall 1 _ _ rfl
  obtain ⟨y2,h2⟩:=hall 2 _ _ rfl
  obtain ⟨y3,h3⟩:=hall 3 _ _ rfl
  rw [hci] at h0 h1 h2 h3
  obtain ⟨k0,e0,_⟩:=rd_int hi h0
  obtain ⟨k1,e1,_⟩:=rd_int hi h1
  obtain ⟨k2,e2,_⟩:=rd_int hi h2
  obtain ⟨k3,e3,_⟩:=rd_int hi h3
  simp at e0 e1 e2 e3
  subst e0;subst e1;subst e2;subst e3
  exact ⟨⟨k0,k1,k2,k3⟩,rfl⟩
theorem rd_lemma {tw tm tl ts tk:Nat} (hT:LmTy P tb tn tu tr ti tw tm tl ts tk) {cs:List Value} {fuel:Nat} {x:DataW H × List MemPlace} (h:DataW.trod enc P w base (fun _=>true) held fuel tl cs = some x) :
  ∃ m:Lm,denL (here w) (lmE.f m) cs w∧m.pf.length≤maxLen:=by
 obtain ⟨hlen,n,hall⟩:=rd_fields hT.l h
 rw [hT.cl] at hlen
 match cs,hlen with
 | [c0,c1,c2,c3,c4,c5],_=>
  obtain ⟨y0,h0⟩:=hall 0 _ _ rfl
  obtain ⟨y1,h1⟩:=hall 1 _ _ rfl
  obtain ⟨y2,h2⟩:=hall 2 _ _ rfl
  obtain ⟨y3,h3⟩:=hall 3 _ _ rfl
  rw [hT.ci] at h0
  rw [hT.n.cb] at h1
  rw [hT.n.cr] at h2
  rw [hT.cs] at h3
  obtain ⟨k0,e0,_⟩:=rd_int hT.i h0
  obtain ⟨b1,e1⟩:=rd_bool hT.n.b h1
  obtain ⟨q,hq⟩:=rd_rat hT.n h2
  obtain ⟨c,l,e3,hlm,_,hl⟩:=rd_row muE (fun _=>True) hT.s hT.cm (by decide) (fun cs' fuel' x' h'=>by
   obtain ⟨hlen',n',hall'⟩:=rd_fields hT.m h'
   rw [hT.cm] at hlen'
   obtain ⟨z0,g0⟩:=hall' 0 _ _ rfl
   obtain ⟨z1,g1⟩:=hall' 1 _ _ rfl
   rw [hT.cw] at g0
   rw [hT.n.cr] at g1
   obtain ⟨r,hr⟩:=rd_row4 hT.w hT.cw hT.i hT.ci g0
   obtain ⟨c,hc⟩:=rd_rat hT.n g1
   refine ⟨⟨r,c⟩,?_⟩
   have:=denL_split (w:=w) (A:=here w) (l1:=[Leaf.val (.int .i64 r.kind),Leaf.val (.int .i64 r.idx),Leaf.val (.int .i64 r.lo),Leaf.val (.int .i64 r.hi)]) (l2:=(qV c).leaves) (cs:=cs') 4 (by
    rw [List.drop_zero] at hr;rw [hr];exact ⟨⟨rfl,rfl⟩,⟨rfl,rfl⟩,⟨rfl,rfl⟩,⟨rfl,rfl⟩,trivial⟩) (by rw [List.take_of_length_le (by simp;omega)] at hc;exact hc)
   exact ⟨this,trivial⟩) h3
  simp at e0 e1 e3
  subst e0;subst e1;subst e3
  exact ⟨⟨k0,b1,q,l⟩,⟨⟨rfl,rfl⟩,⟨rfl,rfl⟩,hq.1,hq.2.1,hq.2.2.1,hl,trivial⟩,hlm⟩
theorem rdv_lemmas {tw tm tl ts tk:Nat} (hT:LmTy P tb tn tu tr ti tw tm tl ts tk) {r:Reach} {b0:Nat} {v:Value} {d:DataW H} {p:List MemPlace} (hv:Value.okWide P w r b0 tk v) (h:DataW.Trod enc P w base (fun _=>true) held tk v d p) :
  ∃ l:List Lm,l.length≤maxLen∧(∀ m∈l,m.pf.length≤maxLen)∧(V.one (lmE.row l)).den (here w) v w:=by
 obtain ⟨a0,len0,cap0,rfl⟩:=okWide_slice hT.k hv
 obtain ⟨fuel,hf⟩:=h
 obtain ⟨c,l,hc,hl,hp,hd⟩:=rd_row lmE (fun m=>m.pf.length≤maxLen) hT.k hT.cl (by decide) (fun cs' fuel' x' h'=>rd_lemma hT h') hf
 simp [Value.cells] at hc
 subst hc
 exact ⟨l,hl,hp,hd⟩
end
end Rc
set_option linter.unusedSimpArgs false
set_option linter.unusedVariables false
namespace Go.Proofs.YtmpkandbccallaaGreatDoor
open Go Go.RowKit Rc
theorem lmTy:LmTy Tryz.prog 4 25 164 27 3 103 105 133 44 40:=⟨numTy,undI,cellsI64,by kernel_rfl,by kernel_rfl,by kernel_rfl,by kernel_rfl,by kernel_rfl,by kernel_rfl,by kernel_rfl,by kernel_rfl,by kernel_rfl⟩
end Go.Proofs.YtmpkandbccallaaGreatDoor
set_option linter.unusedSimpArgs false
set_option linter.unusedVariables false
namespace Go.Proofs.YtmpkandbccallaaGreatDoor
open Go Go.RowKit Rc
set_option maxRecDepth 10000 in
set_option maxHeartbeats 2000000 in
theorem law_brun (l:List Nat) (hb:∀ x∈l,x < 256) (l2:List Nat) (hb2:∀ x∈l2,x < 256) (n:Nat) (hn:n < 256):Ctr Tryz.prog 8 [V.one (El.row u8E l),V.one (El.row u8E l2),V.one (Leaf.val (.int .u8 ((n:Nat):Int)))] (R.one (V.one (Leaf.val (.bool true)))):=by
 refine bd_ Tryz.func8 Tryz.ntmps8 rfl (fun w0 A0=>?_)
 refine zc 8 rfl (tc_ fn10 rfl (awake24) (zl 10 rfl (tq_ rfl (jln rfl) ?_)))
 by_cases hl3:300 < l.length
 ·refine tq_ rfl (gtT rfl) (zl 13 rfl ?_)
  exact r1_ hq_ rfl rfl
 ·refine tq_ rfl (gtF rfl) (zl 2 rfl (tq_ rfl (jln rfl) ?_))
  by_cases hl40:100 < l2.length
  ·refine tq_ rfl (gtT rfl) (zl 9 rfl ?_)
   exact r1_ hq_ rfl rfl
  ·refine tq_ rfl (gtF rfl) (zl 7 rfl ?_)
   have hl:l.length≤1000000:=by omega
   obtain ⟨hs,h8⟩:=extM_ok l
   have hg_:=hs.q.g
   have hi1:=hg_.i1;have hi3:=hg_.i3;have hu4:=hg_.u4
   have h0:(0:Int)≤((n % 32:Nat):Int):=by omega
   have hb4:((n % 32:Nat):Int)≤4096:=by omega
   have hR:=(runM_ok boxD_ok hs (by omega) ((n % 32:Nat):Int)).1
   have hRl:(runM boxD (extM l) ((n % 32:Nat):Int)).lems.length≤100:=hR.ll
   have hRB:=hR.B
   have hgR:=hR.q.g
   have hA:DerA (runM boxD (extM l) ((n % 32:Nat):Int)) (runM boxD (extM l) ((n % 32:Nat):Int)).lems:=runM_derD boxD_d hs (by omega) h0 hb4 (extM_derA l)
   have hP:=derA_pf hA
   have hfull:Full (runM boxD (extM l) ((n % 32:Nat):Int)) (runM boxD (extM l) ((n % 32:Nat):Int)).lems (runM boxD (extM l) ((n % 32:Nat):Int)).q.g.us.length:=runM_full boxD_ok boxD_t hs (by omega) ((n % 32:Nat):Int)
   have hF2:FOk 3 ((runM boxD (extM l) ((n % 32:Nat):Int)).q.g.inp + (runM boxD (extM l) ((n % 32:Nat):Int)).q.g.us.length) (formq l2 0 ((runM boxD (extM l) ((n % 32:Nat):Int)).q.g.inp + (runM boxD (extM l) ((n % 32:Nat):Int)).q.g.us.length)).1:=formq_fok l2 0 _
   have hbt:(boxD (runM boxD (extM l) ((n % 32:Nat):Int)) (formq l2 0 ((runM boxD (extM l) ((n % 32:Nat):Int)).q.g.inp + (runM boxD (extM l) ((n % 32:Nat):Int)).q.g.us.length)).1).2.2 = true:=boxD_t (runM boxD (extM l) ((n % 32:Nat):Int)) hR (runM boxD (extM l) ((n % 32:Nat):Int)).q.g.us.length (Nat.le_refl _) hfull _ hF2
   have hul:(runM boxD (extM l) ((n % 32:Nat):Int)).q.g.us.length≤4:=hgR.u4
   refine nz_ [so 0 (D.v (V.one (El.row u8E l))),so 1 (D.v (V.one (El.row u8E l2))),so 2 (D.val (.int .u8 ((n:Nat):Int)))] [] rfl rfl (zc 2 rfl (tq_ rfl (Jq_iface (vs:=[]) rfl rfl (by kernel_rfl)) (zl 1 rfl (tc_ fn11 rfl (scope24 l hl hb) (zl 1 rfl (tq_ rfl (Jq_rem rfl rfl rfl (by decide) (r:=((n % 32:Nat):Int)) (tmodN _ _)) (tq_ rfl (jci (n % 32) rfl) ?_)))))))
   refine tc_ fn31 rfl (run_box (extM l) hs (by omega) ((n % 32:Nat):Int) h0 hb4) (zl 10 rfl (nz_ [so 1 _,so 7 (D.ptr 0 0),so 8 (D.val (.int .i64 0))] [hb_ 42 (scL (runM boxD (extM l) ((n % 32:Nat):Int)))] rfl rfl (zc 2 rfl (tq_ rfl (neF rfl rfl) (zl 12 rfl (tq_ rfl (jln rfl) (zl 4 rfl ?_)))))))
   refine lpR_ (fun m Γ H=>∃ (i:Nat),(runM boxD (extM l) ((n % 32:Nat):Int)).q.g.us.length - i = m∧Γ = [(1,some (D.v (V.one (El.row u8E l2)))),(7,some (D.ptr 0 0)),(42,some (D.val (.int .i64 ((((runM boxD (extM l) ((n % 32:Nat):Int)).q.g.us).length:Nat):Int)))),(43,some (D.val (.int .i64 ((i:Nat):Int))))]∧H = [hb_ 42 (scL (runM boxD (extM l) ((n % 32:Nat):Int)))]∧i≤(runM boxD (extM l) ((n % 32:Nat):Int)).q.g.us.length) ⟨0,rfl,rfl,rfl,Nat.zero_le _⟩ rfl ?_
   rintro m Γ H ⟨i,rfl,rfl,rfl,hi0⟩
   refine zc 1 rfl (nz_ [so 1 (D.v (V.one (El.row u8E l2))),so 7 (D.ptr 0 0),so 42 (D.val (.int .i64 ((((runM boxD (extM l) ((n % 32:Nat):Int)).q.g.us).length:Nat):Int))),so 43 (D.val (.int .i64 ((i:Nat):Int)))] [hb_ 42 (scL (runM boxD (extM l) ((n % 32:Nat):Int)))] rfl rfl (zc 1 rfl ?_))
   by_cases hi:i < (runM boxD (extM l) ((n % 32:Nat):Int)).q.g.us.length
   ·refine tq_ rfl (ltT rfl) (zl 18 rfl (tc_ fn32 rfl (best_r (runM boxD (extM l) ((n % 32:Nat):Int)) hRB (by omega) (by omega) ((i:Nat):Int)) (zl 8 rfl ?_)))
    refine nz_ [so 1 _,so 7 _,so 10 (D.val (.int .i64 (((best (runM boxD (extM l) ((n % 32:Nat):Int)).lems ((i:Nat):Int)).1:Nat):Int))),so 11 (D.val (.int .i64 (((best (runM boxD (extM l) ((n % 32:Nat):Int)).lems ((i:Nat):Int)).2:Nat):Int))),so 42 _,so 43 _] [_] rfl rfl (zc 2 rfl (tq_ rfl (eqF rfl (by have:=(hfull i hi).1;omega)) (zl 2 rfl ?_)))
    refine tq_ rfl (eqF rfl (by have:=(hfull i hi).2;omega)) (zl 8 rfl (tq_ rfl (jad (i + 1) rfl) (zl 2 rfl ?_)))
    exact nx_ ⟨i + 1,rfl,rfl,rfl,hi⟩ rfl
   ·refine tq_ rfl (ltF rfl) (zl 10 rfl (nz_ [so 1 _,so 7 _] [_] rfl rfl (dr_ 1 [(12,1),(13,1)] [1] (dz 6 rfl (kc_ fn17 rfl (form23 l2 (by omega) (by assumption) (runM boxD (extM l) ((n % 32:Nat):Int)).q.g (by assumption)) ?_)))))
    refine kc_ fn12 rfl (box_p (runM boxD (extM l) ((n % 32:Nat):Int)) hR.sb (formq l2 0 ((runM boxD (extM l) ((n % 32:Nat):Int)).q.g.inp + (runM boxD (extM l) ((n % 32:Nat):Int)).q.g.us.length)).1 hF2 (by omega)) (dz 4 rfl (kis_ true rfl (hbt) (dz 4 rfl (DK_nil (za 2 rfl (nf_ [1] [so 7 _,so 14 (D.bool true)] [_,none] rfl rfl rfl (zc 5 rfl ?_)))))))
    refine tc_ fn33 rfl (small_r (runM boxD (extM l) ((n % 32:Nat):Int)).lems (by omega) (fun m hm=>Nat.le_trans (hP m hm) (by decide))) (zl 2 rfl ?_)
    refine two_ rfl (fun hb77=>?_) (fun hb77=>?_)
    ·refine zl 1 rfl (tc_ fn34 rfl (scope_r (runM boxD (extM l) ((n % 32:Nat):Int)) hR hA) (zl 5 rfl ?_))
     exact r1_ hq_ rfl rfl
    ·refine zl 7 rfl ?_
     exact r1_ hq_ rfl rfl
end Go.Proofs.YtmpkandbccallaaGreatDoor
set_option linter.unusedSimpArgs false
set_option linter.unusedVariables false
namespace Go.Proofs.YtmpkandbccallaaGreatDoor
open Go Go.RowKit Rc
set_option maxRecDepth 10000 in
set_option maxHeartbeats 2000000 in
theorem law_bproves (l:List Nat) (hb:∀ x∈l,x < 256) (l2:List Nat) (hb2:∀ x∈l2,x < 256):Ctr Tryz.prog 4 [V.one (El.row u8E l),V.one (El.row u8E l2)] (R.one (V.one (Leaf.val (.bool true)))):=by
 refine bd_ Tryz.func4 Tryz.ntmps4 rfl (fun w0 A0=>?_)
 refine zc 8 rfl (tc_ fn10 rfl (awake24) (zl 10 rfl (tq_ rfl (jln rfl) ?_)))
 by_cases hl3:300 < l.length
 ·refine tq_ rfl (gtT rfl) (zl 13 rfl ?_)
  exact r1_ hq_ rfl rfl
 ·refine tq_ rfl (gtF rfl) (zl 2 rfl (tq_ rfl (jln rfl) ?_))
  by_cases hl40:100 < l2.length
  ·refine tq_ rfl (gtT rfl) (zl 9 rfl ?_)
   exact r1_ hq_ rfl rfl
  ·refine tq_ rfl (gtF rfl) (zl 7 rfl ?_)
   have hl:l.length≤1000000:=by omega
   obtain ⟨hs,h8⟩:=extM_ok l
   have hg_:=hs.q.g
   have hi1:=hg_.i1;have hi3:=hg_.i3;have hu4:=hg_.u4
   have hF:FOk 3 ((extM l).q.g.inp + (extM l).q.g.us.length) (formq l2 0 ((extM l).q.g.inp + (extM l).q.g.us.length)).1:=formq_fok l2 0 _
   have hdr:=boxD_d.der (extM l) hs _ hF
   have hdc:=hdr.can
   have hdb:=hdr.bd
   have hdo:=hdr.ok
   have hdl:=hdr.len
   have hpl_:=hs.pl
   have hsB:=hs.B
   have hsd:=hs.d
   have hsll:=hs.ll
   have hfl:=hF.fl
   haveI:=hfl.fm (by have:=hg_.i3;have:=hg_.u4;omega);haveI:=hfl.cb
   haveI hxb:Br (boxD (extM l) (formq l2 0 ((extM l).q.g.inp + (extM l).q.g.us.length)).1).1 500000:=(boxD_br hs.sb hF.fl).mono (by omega)
   have hn:FL 500000 ((extM l).q.g.inp + (extM l).q.g.us.length) (fN (boxD (extM l) (formq l2 0 ((extM l).q.g.inp + (extM l).q.g.us.length)).1).1):=FL.n hxb
   haveI:=hn.fm (by have:=hg_.i3;have:=hg_.u4;omega);haveI:=hn.cb
   refine nz_ [so 0 (D.v (V.one (El.row u8E l))),so 1 (D.v (V.one (El.row u8E l2)))] [] rfl rfl (zc 2 rfl (tc_ fn11 rfl (scope24 l hl hb) (zl 10 rfl (tc_ fn17 rfl (form23 l2 (by omega) (by assumption) (extM l).q.g (by assumption)) (zl 5 rfl ?_)))))
   refine nz_ [so 5 (D.ptr 0 0),so 6 (D.ptr 1 0)] [hb_ 42 (scL (extM l)),hb_ 29 (afL ((formq l2 0 ((extM l).q.g.inp + ((extM l).q.g.us).length)).1))] rfl rfl (zc 4 rfl (tc_ fn12 rfl (box_p (extM l) hs.sb (formq l2 0 ((extM l).q.g.inp + (extM l).q.g.us.length)).1 hF (by omega)) (zl 12 rfl ?_)))
   refine nz_ [so 5 _,so 6 _,so 7 (D.ptr 2 0),so 8 (D.v (V.one (El.row muE ((boxD (extM l) ((formq l2 0 ((extM l).q.g.inp + (extM l).q.g.us.length)).1)).2.1)))),so 9 (D.bool ((boxD (extM l) ((formq l2 0 ((extM l).q.g.inp + (extM l).q.g.us.length)).1)).2.2))] [_,_,hb_ 27 (qL ((boxD (extM l) ((formq l2 0 ((extM l).q.g.inp + (extM l).q.g.us.length)).1)).1))] rfl rfl (zc 5 rfl ?_)
   refine Tc_cond rfl (fun hok=>?_) (fun hok=>?_)
   ·refine zc 5 rfl ?_
    exact r1_ hq_ rfl rfl
   ·have hsum:sumM (extM l) (boxD (extM l) (formq l2 0 ((extM l).q.g.inp + (extM l).q.g.us.length)).1).2.1 = fSub (formq l2 0 ((extM l).q.g.inp + (extM l).q.g.us.length)).1 (fN (boxD (extM l) (formq l2 0 ((extM l).q.g.inp + (extM l).q.g.us.length)).1).1):=boxD_sum hs.sb hF.fl (by simpa using hok)
    refine zc 6 rfl (tc_ fn18 rfl (sum_r (extM l) hsB (by omega) (by omega) hs.q hsd (by omega) (by omega) (boxD (extM l) (formq l2 0 ((extM l).q.g.inp + (extM l).q.g.us.length)).1).2.1 hdc hdb (by omega) hdo (by omega)) (zl 9 rfl ?_))
    refine nf_ [0] [so 6 _,so 7 _,so 10 (D.ptr 3 0),so 11 (D.val (.int .i64 0))] [none,_,_,hb_ 29 (afL (sumM (extM l) (boxD (extM l) (formq l2 0 ((extM l).q.g.inp + (extM l).q.g.us.length)).1).2.1))] rfl rfl rfl (dr_ 0 [] [] (dz 5 rfl (kc_ fn21 rfl (rnumber ((boxD (extM l) ((formq l2 0 ((extM l).q.g.inp + (extM l).q.g.us.length)).1)).1)) ?_)))
    refine kc_ fn20 rfl (rsub7 (formq l2 0 ((extM l).q.g.inp + (extM l).q.g.us.length)).1 (fN (boxD (extM l) (formq l2 0 ((extM l).q.g.inp + (extM l).q.g.us.length)).1).1) (by omega) (by omega) (by omega)) (dz 1 rfl ?_)
    refine keq_ (D.agg (afL (fSub (formq l2 0 ((extM l).q.g.inp + (extM l).q.g.us.length)).1 (fN (boxD (extM l) (formq l2 0 ((extM l).q.g.inp + (extM l).q.g.us.length)).1).1)))) rfl (by rw [hsum]) ?_
    refine kc_ fn19 rfl (req7 (fSub (formq l2 0 ((extM l).q.g.inp + (extM l).q.g.us.length)).1 (fN (boxD (extM l) (formq l2 0 ((extM l).q.g.inp + (extM l).q.g.us.length)).1).1)) (by have h:=(hF.fl.sub hn).fm (n:=((extM l).q.g.inp + (extM l).q.g.us.length)) (by have:=hg_.i3;have:=hg_.u4;omega);have h2:=h.len;have:=hg_.i3;have:=hg_.u4;omega)) (dz 2 rfl (DK_nil (za 1 rfl ?_)))
    exact r1_ hq_ rfl rfl
end Go.Proofs.YtmpkandbccallaaGreatDoor
