/- Parts of the proof, 11: the texts WlB2, WlC2, WlD2, WlY, WlE2, WlF2, WlS, Awk, Awb, WlG2, BoxI, FwZ, FwX, Fw3, Raw, WlI2, as far as they are used. -/
import Derived.Test.YtmpkandbccallaaGreatDoorBo10
import Derived.WalkKit
import Derived.ProofKit
import Derived.OpenShut
import Derived.ShutString
import Derived.ChangeOld
import Derived.Below
set_option linter.unusedSimpArgs false
set_option linter.unusedVariables false
namespace Go.Proofs.YtmpkandbccallaaGreatDoor
open Go Go.RowKit Rc
set_option maxRecDepth 10000 in
theorem qsub (x:Qr) (r:Rat) (hr:x.q = r) (hfx:Fit 200000000000 x) (y:Qr) (s:Rat) (hs:y.q = s) (hfy:Fit 200000000000 y):Ctr Tryz.prog 151 [qV x,qV y] (R.one (qV (qOf (r - s)))):=by
 refine bd_ Tryz.func151 Tryz.ntmps151 rfl (fun w0 A0=>?_)
 haveI ixn:Bn (val x.n) 200000000000:=Bn.val x.hn hfx.n
 haveI ixd:Bn (val x.d) 200000000000:=Bn.val x.hd hfx.d
 haveI iyn:Bn (val y.n) 200000000000:=Bn.val y.hn hfy.n
 haveI iyd:Bn (val y.d) 200000000000:=Bn.val y.hd hfy.d
 haveI ir:Br r 200000000000:=hr ▸ Br.q hfx
 haveI is:Br s 200000000000:=hs ▸ Br.q hfy
 refine zc 20 rfl (tc_ fn44 rfl (qadd x (r) hr (hfx.mono (by omega)) (Qr.mk (!y.neg) y.n y.d y.hn y.hd) (-(s)) (qr_neg hs) (Fit.neg (hfy.mono (by omega)))) (zl 3 rfl ?_))
 exact r1_ hq_ rfl (by rw [Rat.sub_eq_add_neg] <;> rfl)
set_option maxRecDepth 10000 in
theorem qdiv (x:Qr) (r:Rat) (hr:x.q = r) (hfx:Fit 1000000000000 x) (y:Qr) (s:Rat) (hs:y.q = s) (hfy:Fit 1000000000000 y) (hs0:s≠0):Ctr Tryz.prog 150 [qV x,qV y] (R.tup [qV (qOf (r / s)),V.one (Leaf.val (.int .i64 0))]):=by
 refine bd_ Tryz.func150 Tryz.ntmps150 rfl (fun w0 A0=>?_)
 haveI ixn:Bn (val x.n) 1000000000000:=Bn.val x.hn hfx.n
 haveI ixd:Bn (val x.d) 1000000000000:=Bn.val x.hd hfx.d
 haveI iyn:Bn (val y.n) 1000000000000:=Bn.val y.hn hfy.n
 haveI iyd:Bn (val y.d) 1000000000000:=Bn.val y.hd hfy.d
 have hyn:val y.n≠0:=fun e=>hs0 (by rw [← hs];unfold Qr.q;rw [rq_eq_zero];exact e)
 refine zc 12 rfl (tc_ fn43 rfl (qsign y (s) hs (hfy.mono (by omega))) (tq_ rfl (eqF rfl (sg_ne hs0)) (zl 6 rfl (dr_ 0 [(16,2)] [2] (dz 4 rfl (kq_ rfl (Jq_neq_bool rfl rfl rfl un4 (d:=_) (rfl)) (dz 3 rfl (kc_ fn101 rfl (qunder y (hfy.mono (by omega))) ?_))))))))
 refine kc_ fn100 rfl (mul_w x.n x.hn (hfx.mono (by omega)).n (dl y.d) (small_dl y.hd) (len_dl hfy.d (by omega)) (val x.n) rfl (dn (val y.d)) (val_dl _)) (dz 1 rfl (kc_ fn101 rfl (qunder x (hfx.mono (by omega))) (dz 2 rfl (kc_ fn100 rfl (mul_w (dl x.d) (small_dl x.hd) (len_dl hfx.d (by omega)) y.n y.hn (hfy.mono (by omega)).n (dn (val x.d)) (val_dl _) (val y.n) rfl) ?_))))
 refine kc_ fn99 rfl (qquot (x.neg != y.neg) (limbs ((val x.n) * (dn (val y.d)))) (limbs ((dn (val x.d)) * (val y.n))) (small_limbs _) (small_limbs _) (Bn.use (by omega)) (Bn.use (by omega)) ((val x.n) * (dn (val y.d))) ((dn (val x.d)) * (val y.n)) (val_limbs _) (val_limbs _) (Nat.mul_ne_zero (dn_ne _) hyn)) (dz 2 rfl (DK_nil (za 1 rfl ?_)))
 exact r2_ hq_ rfl (by subst hr;subst hs;rw [rq_quo _ _ _ _ _ _ hyn] <;> rfl)
set_option maxRecDepth 10000 in
theorem zero_p (x:Rat) (h:x = 0):Ctr Tryz.prog 189 [V.agg (qL (x))] (R.one (V.one (Leaf.val (.bool true)))):=by
 refine bd_ Tryz.func189 Tryz.ntmps189 rfl (fun w0 A0=>?_)
 refine zc 11 rfl (is_ true rfl (by rw [h];rfl) (zl 3 rfl (tq_ rfl (jln rfl) (tq_ rfl (eqT rfl (by rw [h,cnum_zero,limbs_zero];rfl)) (zl 4 rfl (tq_ rfl (jln rfl) (tq_ rfl (eqT rfl (by rw [h,cden_zero,limbs_zero];rfl)) (zl 4 rfl ?_))))))))
 exact r1_ hq_ rfl rfl
set_option maxRecDepth 10000 in
theorem fits_i (q:Qu) (d:Dc) {b:Nat} (hd:DOk b q d) (hb:b≤1000000):Ctr Tryz.prog 144 [quV q,dcV d] (R.one (V.one (Leaf.val (.bool true)))):=by
 refine bd_ Tryz.func144 Tryz.ntmps144 rfl (fun w0 A0=>?_)
 obtain ⟨hk,hbt⟩:=hd
 haveI:=hbt.br
 have hkk:d.kind = 1 ∨ d.kind = 2 ∨ d.kind = 3 ∨ d.kind = 4:=by rcases hk with ⟨h,_⟩ | ⟨h,_⟩ <;> omega
 refine zc 18 rfl ?_
 by_cases h1:d.kind = 1
 ·refine tq_ rfl (eqT rfl) (zl 8 rfl ?_)
  have hp0:d.idx < q.g.us.length∧d.pt = 0:=by rcases hk with ⟨_,h⟩ | ⟨h,_⟩ <;> first | exact h | omega
  refine zc 3 rfl (tq_ rfl (geT rfl) (zl 6 rfl (tq_ rfl (jln rfl) (tq_ rfl (ltT rfl) (zl 4 rfl (tc_ fn189 rfl (zero_p d.pt hp0.2) (zl 4 rfl ?_)))))))
  exact r1_ hq_ rfl rfl
 ·refine tq_ rfl (eqF rfl) (zl 5 rfl ?_)
  by_cases h2:d.kind = 2
  ·refine tq_ rfl (eqT rfl) (zl 5 rfl ?_)
   have hp0:d.idx < q.g.us.length∧d.pt = 0:=by rcases hk with ⟨_,h⟩ | ⟨h,_⟩ <;> first | exact h | omega
   refine zc 3 rfl (tq_ rfl (geT rfl) (zl 6 rfl (tq_ rfl (jln rfl) (tq_ rfl (ltT rfl) (zl 4 rfl (tc_ fn189 rfl (zero_p d.pt hp0.2) (zl 4 rfl ?_)))))))
   exact r1_ hq_ rfl rfl
  ·refine tq_ rfl (eqF rfl) (zl 7 rfl ?_)
   by_cases h3:d.kind = 3
   ·refine tq_ rfl (eqT rfl) (zl 8 rfl ?_)
    have hp0:d.idx < q.g.inp:=by rcases hk with ⟨h,_⟩ | ⟨_,h⟩ <;> first | exact h | omega
    refine zc 3 rfl (tq_ rfl (geT rfl) (zl 6 rfl (tq_ rfl (ltT rfl) (zl 4 rfl (tc_ fn90 rfl (qvalid (qOf (d.pt)) (d.pt) (qOf_q _) (Br.use (by omega))) (is_ true rfl (isC_of _) (zl 4 rfl ?_)))))))
    exact r1_ hq_ rfl rfl
   ·refine tq_ rfl (eqF rfl) (zl 5 rfl (tq_ rfl (eqT rfl) (zl 5 rfl ?_)))
    have hp0:d.idx < q.g.inp:=by rcases hk with ⟨h,_⟩ | ⟨_,h⟩ <;> first | exact h | omega
    refine zc 3 rfl (tq_ rfl (geT rfl) (zl 6 rfl (tq_ rfl (ltT rfl) (zl 4 rfl (tc_ fn90 rfl (qvalid (qOf (d.pt)) (d.pt) (qOf_q _) (Br.use (by omega))) (is_ true rfl (isC_of _) (zl 4 rfl ?_)))))))
    exact r1_ hq_ rfl rfl
set_option maxRecDepth 10000 in
theorem fits_p (q:Qu) (hq:QOk q) (d:Dc) {b:Nat} (hd:DOk b q d) (hb:b≤1000000):Ctr Tryz.prog 89 [quV q,dcV d] (R.one (V.one (Leaf.val (.bool true)))):=by
 refine bd_ Tryz.func89 Tryz.ntmps89 rfl (fun w0 A0=>?_)
 refine zc 10 rfl (tc_ fn75 rfl (qvalid_p q hq) (zl 3 rfl (tc_ fn144 rfl (fits_i q d hd hb) (zl 4 rfl ?_))))
 exact r1_ hq_ rfl rfl
set_option maxRecDepth 10000 in
theorem gvars_p (g:Gr) (hg:GOk g):Ctr Tryz.prog 41 [grV g] (R.one (V.one (Leaf.val (.int .i64 (((g.inp + g.us.length:Nat):Int)))))):=by
 refine bd_ Tryz.func41 Tryz.ntmps41 rfl (fun w0 A0=>?_)
 have h1:=hg.i1;have h2:=hg.i3;have h3:=hg.u4;have h4:=hg.o1;have h5:=hg.o3
 refine zc 10 rfl (tc_ fn91 rfl (gvalid_p g (by assumption)) (zl 12 rfl (tq_ rfl (jln rfl) (tq_ rfl (jad (g.inp + g.us.length) rfl) (zl 3 rfl ?_)))))
 exact r1_ hq_ rfl rfl
set_option maxRecDepth 10000 in
theorem look_p (s:Sc) (hs:SB 40001 s):Ctr Tryz.prog 39 [scV s] (R.tup [vwV s,V.one (Leaf.val (.bool true))]):=by
 refine bd_ Tryz.func39 Tryz.ntmps39 rfl (fun w0 A0=>?_)
 have hB:=hs.B;have hq:=hs.q;have hd:=hs.d;have hpl:=hs.pl;have hl:=hs.ll
 have hg:=hq.g;have hr:=hq.r;have hlo:=hr.lo;have hhi:=hr.hi
 have h1:=hg.i1;have h2:=hg.i3;have h3:=hg.u4;have h4:=hg.o1;have h5:=hg.o3
 refine zc 12 rfl (tc_ fn75 rfl (qvalid_p s.q hq) (zl 9 rfl (tq_ rfl (Jq_build rfl tx144 rfl pl144 rfl) (zl 6 rfl ?_))))
 refine Tc_growB 1 4 1 (ls':=[Leaf.val (.int .i64 ((s.q.g.inp:Nat):Int)),El.row afE s.q.g.us,El.row afE s.q.g.os,El.row ratE s.q.r.lo,El.row ratE s.q.r.hi,El.row afE s.q.r.rows,El.row tmE s.q.goal.ts,Leaf.val (.bool (cneg s.q.goal.c)),natL (limbs (cnum s.q.goal.c)),natL (limbs (cden s.q.goal.c)),El.row dcE s.path,El.row lmE s.lems,Leaf.own 2 0]) rfl rfl rfl ⟨.inl rfl,.inl rfl,.inl rfl,.inl rfl,.inl rfl,.inl rfl,.inl rfl,.inl rfl,.inl rfl,.inl rfl,.inl rfl,.inl rfl,.inr ⟨rfl,rfl⟩,trivial⟩ ?_
 refine zc 3 rfl (tq_ rfl (jln rfl) (zl 4 rfl ?_))
 refine lpR_ (fun m Γ H=>∃ (i:Nat) (n:Nat) (out:List Bool),s.path.length - i = m∧Γ = [(1,some (D.ptr 0 0)),(4,some (D.ptr 1 0)),(15,some (D.v (V.one (El.row dcE s.path)))),(16,some (D.val (.int .i64 ((s.path.length:Nat):Int)))),(17,some (D.val (.int .i64 ((i:Nat):Int))))]∧H = [hb_ 42 (scL s),hb_ 144 (quL s.q ++ [El.row dcE s.path,El.row lmE s.lems,Leaf.own 2 n]),hgr 4 1 boE out n]∧i≤s.path.length∧out = List.replicate i true) ⟨0,0,[],rfl,rfl,rfl,Nat.zero_le _,rfl⟩ rfl ?_
 rintro m Γ H ⟨i,n,out,rfl,rfl,rfl,hi0,hout⟩
 refine zc 2 rfl ?_
 by_cases hi:i < s.path.length
 ·refine tq_ rfl (ltT rfl) (zl 9 rfl ?_)
  obtain ⟨d,hdx⟩:∃ d,s.path[i]? = some d:=⟨_,List.getElem?_eq_getElem hi⟩
  have hdo:=hd d (List.mem_of_getElem? hdx)
  have hol:out.length≤100:=by rw [hout,List.length_replicate];omega
  refine zc 1 rfl (tq_ rfl (jix i hdx rfl) (tq_ rfl (jlr rfl) (zl 4 rfl (dr_ 0 [(10,2),(13,1)] [2,1] (dz 4 rfl (kp_ [2] rfl (jld rfl) (dz 3 rfl (kc_ fn89 rfl (fits_p s.q hq d hdo (by omega)) (ke_ rfl (fun _=>Je_buildSlice rfl un142 ty4 tz4 rfl (by decide) (by decide) rfl (by decide) rfl) ?_)))))))))
  refine ki_ 2 rfl (dap true rfl rfl) (dz 3 rfl (DK_nil (za 3 rfl (tq_ rfl (jad (i + 1) rfl) (zl 2 rfl (At_free 3 (trim_ 3 rfl ?_)))))))
  exact nx_ ⟨i + 1,_,_,rfl,rfl,rfl,hi,(by rw [hout,rep_snoc])⟩ rfl
 ·refine tq_ rfl (ltF rfl) (zl 10 rfl ?_)
  have hie:i = s.path.length:=by omega
  rw [hie] at hout
  refine Tc_viewB 1 (ls':=[Leaf.val (.int .i64 ((s.q.g.inp:Nat):Int)),El.row afE s.q.g.us,El.row afE s.q.g.os,El.row ratE s.q.r.lo,El.row ratE s.q.r.hi,El.row afE s.q.r.rows,El.row tmE s.q.goal.ts,Leaf.val (.bool (cneg s.q.goal.c)),natL (limbs (cnum s.q.goal.c)),natL (limbs (cden s.q.goal.c)),El.row dcE s.path,El.row lmE s.lems,El.row boE out]) rfl rfl (RowAt.ofE boE out rfl (by decide)) ⟨.inl rfl,.inl rfl,.inl rfl,.inl rfl,.inl rfl,.inl rfl,.inl rfl,.inl rfl,.inl rfl,.inl rfl,.inl rfl,.inl rfl,.inr ⟨rfl,rfl⟩,trivial⟩ ?_
  refine zc 1 rfl (Tl_freeze 4 rfl rfl rfl (zl 5 rfl ?_))
  exact r2_ hq_ rfl (by rw [hout])
set_option maxRecDepth 10000 in
theorem mult_p (r:Rw) (c:Qr):Ctr Tryz.prog 48 [rwV r,qV c] (R.one (muV ⟨r,c⟩)):=by
 refine bd_ Tryz.func48 Tryz.ntmps48 rfl (fun w0 A0=>?_)
 refine zc 15 rfl ?_
 exact r1_ hq_ rfl rfl
set_option maxRecDepth 10000 in
theorem value_p (s:Sc) (hs:SB 40001 s) (n:Nat) (h0:0 < n) (hn:n≤s.lems.length):Ctr Tryz.prog 149 [vwV s,V.one (Leaf.val (.int .i64 ((n:Int))))] (R.one (qV (lvr s.lems n))):=by
 refine bd_ Tryz.func149 Tryz.ntmps149 rfl (fun w0 A0=>?_)
 have hB:=hs.B;have hq:=hs.q;have hd:=hs.d;have hpl:=hs.pl;have hl:=hs.ll
 have hg:=hq.g;have hr:=hq.r;have hlo:=hr.lo;have hhi:=hr.hi
 have h1:=hg.i1;have h2:=hg.i3;have h3:=hg.u4;have h4:=hg.o1;have h5:=hg.o3
 refine zc 6 rfl ?_
 obtain ⟨y,hy⟩:∃ y,s.lems[n - 1]? = some y:=⟨_,List.getElem?_eq_getElem (by omega)⟩
 refine zc 2 rfl (tq_ rfl (Jq_nilCheckR rfl rfl) (tq_ rfl (jft rfl) (tq_ rfl (jfr rfl) (tq_ rfl (jli rfl) (zl 1 rfl (tq_ rfl (jsb (n - 1) rfl) (tq_ rfl (jix (n - 1) hy rfl) (tq_ rfl (jft rfl) (tq_ rfl (jlr rfl) ?_)))))))))
 refine zl 3 rfl ?_
 exact r1_ hq_ rfl (by rw [lvr_get hy])
set_option maxRecDepth 10000 in
theorem dec_p (s:Sc) (hs:SB 40001 s) (k:Nat) (j:Int):Ctr Tryz.prog 148 [vwV s,V.one (Leaf.val (.int .i64 ((k:Int)))),V.one (Leaf.val (.int .i64 (j)))] (R.one (V.one (Leaf.val (.bool (decM s.path k j))))):=by
 refine bd_ Tryz.func148 Tryz.ntmps148 rfl (fun w0 A0=>?_)
 have hB:=hs.B;have hq:=hs.q;have hd:=hs.d;have hpl:=hs.pl;have hl:=hs.ll
 have hg:=hq.g;have hr:=hq.r;have hlo:=hr.lo;have hhi:=hr.hi
 have h1:=hg.i1;have h2:=hg.i3;have h3:=hg.u4;have h4:=hg.o1;have h5:=hg.o3
 refine zc 9 rfl (tq_ rfl (Jq_nilCheckR rfl rfl) (tq_ rfl (jft rfl) (tq_ rfl (jfr rfl) (tq_ rfl (jli rfl) (tq_ rfl (jln rfl) (zl 4 rfl ?_))))))
 refine lpR_ (fun m Γ H=>∃ (i:Nat),s.path.length - i = m∧Γ = [(0,some (D.rep (ptrRep (vwL s)))),(1,some (D.val (.int .i64 ((k:Nat):Int)))),(2,some (D.val (.int .i64 j))),(13,some (D.v (V.one (El.row dcE s.path)))),(14,some (D.val (.int .i64 ((s.path.length:Nat):Int)))),(15,some (D.val (.int .i64 ((i:Nat):Int))))]∧H = []∧i≤s.path.length∧decN s.path k j i = false) ⟨0,rfl,rfl,rfl,Nat.zero_le _,rfl⟩ rfl ?_
 rintro m Γ H ⟨i,rfl,rfl,rfl,hi0,hno⟩
 refine zc 2 rfl ?_
 by_cases hi:i < s.path.length
 ·refine tq_ rfl (ltT rfl) (zl 9 rfl ?_)
  obtain ⟨x,hx⟩:∃ x,s.path[i]? = some x:=⟨_,List.getElem?_eq_getElem hi⟩
  refine zc 2 rfl (tq_ rfl (jix i hx rfl) (tq_ rfl (jlr rfl) (zl 8 rfl (tq_ rfl (Jq_nilCheckR rfl rfl) (tq_ rfl (jfr rfl) (tq_ rfl (jli rfl) (zl 1 rfl (tq_ rfl (jix i (rep_get hi) rfl) (tq_ rfl (jli rfl) ?_)))))))))
  refine zl 7 rfl ?_
  refine two_ rfl (fun hk1=>?_) (fun hk1=>?_)
  ·refine zl 12 rfl (tq_ rfl (jad (i + 1) rfl) (zl 2 rfl (At_free 0 (trim_ 0 rfl ?_))))
   exact nx_ ⟨i + 1,rfl,rfl,rfl,hi,by rw [decN_succ hx,hno,hk1];rfl⟩ rfl
  ·refine zl 7 rfl ?_
   refine Tc_cond rfl (fun hk2=>?_) (fun hk2=>?_)
   ·refine zc 5 rfl ?_
    exact r1_ hq_ rfl (by rw [decM_t hx hk1 hk2])
   ·refine zc 4 rfl (tq_ rfl (jad (i + 1) rfl) (zl 2 rfl (At_free 0 (trim_ 0 rfl ?_))))
    exact nx_ ⟨i + 1,rfl,rfl,rfl,hi,by rw [decN_succ hx,hno,hk1,hk2];rfl⟩ rfl
 ·refine tq_ rfl (ltF rfl) (zl 14 rfl ?_)
  exact r1_ hq_ rfl (by rw [← decM_end,← show i = s.path.length by omega,hno])
end Go.Proofs.YtmpkandbccallaaGreatDoor
set_option linter.unusedSimpArgs false
set_option linter.unusedVariables false
namespace Go.Proofs.YtmpkandbccallaaGreatDoor
open Go Go.RowKit Rc
set_option maxRecDepth 10000 in
theorem input_p (s:Sc) (hs:SB 40001 s) (i:Nat) (hi:i < s.q.g.inp) (up:Bool):Ctr Tryz.prog 92 [vwV s,V.one (Leaf.val (.int .i64 ((i:Int)))),V.one (Leaf.val (.bool up))] (R.tup [qV (qOf (inpM s i up).1),V.one (El.row muE (one1 (inpM s i up).2)),V.one (Leaf.val (.bool true))]):=by
 refine bd_ Tryz.func92 Tryz.ntmps92 rfl (fun w0 A0=>?_)
 have hB:=hs.B;have hq:=hs.q;have hd:=hs.d;have hpl:=hs.pl;have hl:=hs.ll
 have hg:=hq.g;have hr:=hq.r;have hlo:=hr.lo;have hhi:=hr.hi
 have h1:=hg.i1;have h2:=hg.i3;have h3:=hg.u4;have h4:=hg.o1;have h5:=hg.o3
 obtain ⟨a0,ha0⟩:∃ a,s.q.r.lo[i]? = some a:=⟨_,List.getElem?_eq_getElem (by omega)⟩
 obtain ⟨c0,hc0⟩:∃ a,s.q.r.hi[i]? = some a:=⟨_,List.getElem?_eq_getElem (by omega)⟩
 have ha:s.q.r.lo[i]? = some ((s.q.r.lo[i]?).getD 0):=by rw [ha0];rfl
 have hc_:s.q.r.hi[i]? = some ((s.q.r.hi[i]?).getD 0):=by rw [hc0];rfl
 obtain ⟨hb1,hb2,_⟩:=hr.bd i a0 c0 ha0 hc0
 haveI:Br ((s.q.r.lo[i]?).getD 0) 4:=by rw [ha0];exact hb1.br
 haveI:Br ((s.q.r.hi[i]?).getD 0) 8:=by rw [hc0];exact hb2.br.mono (by omega)
 refine zc 10 rfl (tq_ rfl (Jq_nilCheckR rfl rfl) (tq_ rfl (jft rfl) (tq_ rfl (jft rfl) (tq_ rfl (jft rfl) (tq_ rfl (jlr rfl) (zl 5 rfl ?_))))))
 refine nz_ [so 0 (D.rep (ptrRep (vwL s))),so 1 (D.val (.int .i64 ((i:Nat):Int))),so 2 (D.bool up),so 6 (D.ptr 0 0),so 9 (D.ptr 1 0)] [hb_ 27 [Leaf.val (.bool false),natL ([]),natL ([])],hb_ 36 [El.row ratE s.q.r.lo,El.row ratE s.q.r.hi,El.row afE s.q.r.rows]] rfl rfl (zc 4 rfl (tq_ rfl (jix i ha rfl) (tq_ rfl (jlr rfl) (zl 10 rfl ?_))))
 refine mt_ [so 0 (D.rep (ptrRep (vwL s))),so 1 (D.val (.int .i64 ((i:Nat):Int))),so 6 (D.ptr 0 0),so 10 (D.ptr 2 0),so 11 (D.ptr 3 0),so 12 (D.val (.int .i64 (((if up = true then 4 else 3):Nat):Int))),so 13 (D.val (.int .i64 (if up = true then -1 else 1)))] [hb_ 27 [Leaf.val (.bool false),natL ([]),natL ([])],none,hb_ 27 (qL ((inp0 s i up).1)),hb_ 103 [Leaf.val (.int .i64 ((inp0 s i up).2.kind)),Leaf.val (.int .i64 ((inp0 s i up).2.idx)),Leaf.val (.int .i64 ((inp0 s i up).2.lo)),Leaf.val (.int .i64 ((inp0 s i up).2.hi))]] ?_ ?_
 ·refine zc 1 rfl (nz_ [so 0 _,so 1 _,so 2 _,so 6 _,so 9 _,so 10 (D.ptr 2 0),so 11 (D.ptr 3 0),so 12 (D.val (.int .i64 3)),so 13 (D.val (.int .i64 1))] [_,_,hb_ 27 (qL ((s.q.r.lo[i]?).getD 0)),hb_ 103 [Leaf.val (.int .i64 1),Leaf.val (.int .i64 ((i:Nat):Int)),Leaf.val (.int .i64 0),Leaf.val (.int .i64 0)]] rfl rfl (zc 4 rfl ?_))
  refine Tc_cond rfl (fun hup=>?_) (fun hup=>?_)
  ·subst hup
   refine zc 4 rfl (tq_ rfl (jix i hc_ rfl) (tq_ rfl (jlr rfl) (zl 7 rfl (At_free 1 ?_))))
   exact mx_ rfl
  ·subst hup
   refine zc 1 rfl (At_free 1 ?_)
   exact mx_ rfl
 ·refine zc 4 rfl (tq_ rfl (Jq_nilCheckR rfl rfl) (tq_ rfl (jft rfl) (tq_ rfl (jfr rfl) (tq_ rfl (jli rfl) (tq_ rfl (jln rfl) (zl 4 rfl ?_))))))
  refine lpR_ (fun m Γ H=>∃ (n:Nat) (b:Rat × Rw),s.path.length - n = m∧Γ = [(0,some (D.rep (ptrRep (vwL s)))),(1,some (D.val (.int .i64 ((i:Nat):Int)))),(6,some (D.ptr 0 0)),(10,some (D.ptr 2 0)),(11,some (D.ptr 3 0)),(12,some (D.val (.int .i64 (((if up = true then 4 else 3):Nat):Int)))),(13,some (D.val (.int .i64 (if up = true then -1 else 1)))),(41,some (D.v (V.one (El.row dcE s.path)))),(42,some (D.val (.int .i64 ((s.path.length:Nat):Int)))),(43,some (D.val (.int .i64 ((n:Nat):Int))))]∧H = [hb_ 27 [Leaf.val (.bool false),natL ([]),natL ([])],none,hb_ 27 (qL b.1),hb_ 103 [Leaf.val (.int .i64 b.2.kind),Leaf.val (.int .i64 b.2.idx),Leaf.val (.int .i64 b.2.lo),Leaf.val (.int .i64 b.2.hi)]]∧n≤s.path.length∧b = inpN s i up n) ⟨0,inp0 s i up,rfl,rfl,rfl,Nat.zero_le _,rfl⟩ rfl ?_
  rintro m Γ H ⟨n,b,rfl,rfl,rfl,hn0,hb⟩
  refine zc 2 rfl ?_
  by_cases hn:n < s.path.length
  ·refine tq_ rfl (ltT rfl) (zl 9 rfl ?_)
   obtain ⟨d,hdx⟩:∃ d,s.path[n]? = some d:=⟨_,List.getElem?_eq_getElem hn⟩
   have hdo:=hd d (List.mem_of_getElem? hdx)
   haveI:=hdo.2.br
   haveI hbb:Br b.1 201:=by rw [hb];exact inpN_hb hs hi up (by omega)
   refine nz_ [so 0 (D.rep (ptrRep (vwL s))),so 1 (D.val (.int .i64 ((i:Nat):Int))),so 6 (D.ptr 0 0),so 10 (D.ptr 2 0),so 11 (D.ptr 3 0),so 12 (D.val (.int .i64 (((if up = true then 4 else 3):Nat):Int))),so 13 (D.val (.int .i64 (if up = true then -1 else 1))),so 41 (D.v (V.one (El.row dcE s.path))),so 42 (D.val (.int .i64 ((s.path.length:Nat):Int))),so 43 (D.val (.int .i64 ((n:Nat):Int)))] [hb_ 27 [Leaf.val (.bool false),natL ([]),natL ([])],none,hb_ 27 (qL b.1),hb_ 103 [Leaf.val (.int .i64 b.2.kind),Leaf.val (.int .i64 b.2.idx),Leaf.val (.int .i64 b.2.lo),Leaf.val (.int .i64 b.2.hi)]] rfl rfl ?_
   refine zc 2 rfl (tq_ rfl (jix n hdx rfl) (tq_ rfl (jlr rfl) (zl 8 rfl (tq_ rfl (Jq_nilCheckR rfl rfl) (tq_ rfl (jfr rfl) (tq_ rfl (jli rfl) (zl 1 rfl (tq_ rfl (jix n (rep_get hn) rfl) (tq_ rfl (jli rfl) ?_)))))))))
   refine zl 4 rfl ?_
   by_cases hk:d.kind = (if up = true then 4 else 3)
   ·refine tq_ rfl (eqT rfl (by rw [hk])) (zl 5 rfl ?_)
    by_cases hx:d.idx = i
    ·refine tq_ rfl (eqT rfl) (zl 5 rfl (tc_ fn83 rfl (qcmp (qOf (d.pt)) (d.pt) (qOf_q _) (Br.use (by omega)) (qOf (b.1)) (b.1) (qOf_q _) (Br.use (by omega))) (zl 1 rfl ?_)))
     by_cases hc:(if up = true then d.pt < b.1 else b.1 < d.pt)
     ·refine tq_ rfl (eqT rfl (inp_sg.2 hc)) (zl 4 rfl ?_)
      refine nz_ [so 0 _,so 1 _,so 6 _,so 10 _,so 11 _,so 12 _,so 13 _,so 14 (D.val (.int .i64 ((n:Nat):Int))),so 15 (D.ptr 4 0),so 41 _,so 42 _,so 43 _] [_,none,_,_,hb_ 78 [Leaf.val (.int .i64 ((d.kind:Nat):Int)),Leaf.val (.int .i64 ((d.idx:Nat):Int)),Leaf.val (.bool (cneg d.pt)),natL (limbs (cnum d.pt)),natL (limbs (cden d.pt))]] rfl rfl (zc 11 rfl ?_)
      refine tq_ rfl (jad (n + 1) rfl) (zl 2 rfl (At_free 4 (trim_ 4 rfl ?_)))
      exact nx_ ⟨n + 1,(d.pt,⟨4,(n:Int),0,0⟩),rfl,rfl,rfl,hn,(by rw [hb] at hc;exact (inpN_t hdx ⟨hk,hx,hc⟩).symm)⟩ rfl
     ·refine tq_ rfl (eqF rfl (fun e=>hc (inp_sg.1 e))) (zl 7 rfl (nf_ [4] [so 0 _,so 1 _,so 6 _,so 10 _,so 11 _,so 12 _,so 13 _,so 41 _,so 42 _,so 43 _] [_,none,_,_,none] rfl rfl rfl (zc 1 rfl (tq_ rfl (jad (n + 1) rfl) (zl 2 rfl (trim_ 4 rfl ?_))))))
      exact nx_ ⟨n + 1,b,rfl,rfl,rfl,hn,(by rw [hb];exact (inpN_f hdx (fun e=>hc (by rw [hb];exact e.2.2))).symm)⟩ rfl
    ·refine tq_ rfl (eqF rfl) (zl 15 rfl (nf_ [4] [so 0 _,so 1 _,so 6 _,so 10 _,so 11 _,so 12 _,so 13 _,so 41 _,so 42 _,so 43 _] [_,none,_,_,none] rfl rfl rfl (zc 1 rfl (tq_ rfl (jad (n + 1) rfl) (zl 2 rfl (trim_ 4 rfl ?_))))))
     exact nx_ ⟨n + 1,b,rfl,rfl,rfl,hn,(by rw [hb];exact (inpN_f hdx (fun e=>hx e.2.1)).symm)⟩ rfl
   ·refine tq_ rfl (eqF rfl (fun e=>hk (Int.ofNat_inj.1 e))) (zl 21 rfl (nf_ [4] [so 0 _,so 1 _,so 6 _,so 10 _,so 11 _,so 12 _,so 13 _,so 41 _,so 42 _,so 43 _] [_,none,_,_,none] rfl rfl rfl (zc 1 rfl (tq_ rfl (jad (n + 1) rfl) (zl 2 rfl (trim_ 4 rfl ?_))))))
    exact nx_ ⟨n + 1,b,rfl,rfl,rfl,hn,(by rw [hb];exact (inpN_f hdx (fun e=>hk e.1)).symm)⟩ rfl
  ·refine tq_ rfl (ltF rfl) (zl 10 rfl ?_)
   have hie:n = s.path.length:=by omega
   rw [hie] at hb
   refine dr_ 0 [(5,0)] [0] (dz 2 rfl (kc_ fn80 rfl (qof_spec 1 (by decide) (by decide)) (kc_ fn48 rfl (mult_p b.2 (qOf (((1:Int):Rat)))) (ke_ rfl (fun _=>Je_buildSlice rfl un44 ty105 tz105 rfl (by decide) (by decide) rfl (by decide) rfl) (dz 3 rfl (DK_nil (za 1 rfl ?_)))))))
   exact r3_ hq_ rfl (by unfold inpM;rw [← hb] <;> rfl)
set_option maxRecDepth 10000 in
theorem low_p (s:Sc) (hs:SB 40001 s) (j:Nat) (hj:j < s.q.g.us.length):Ctr Tryz.prog 94 [vwV s,V.one (Leaf.val (.int .i64 ((j:Int))))] (R.tup [qV (lowM s j).1,V.one (El.row muE (lowM s j).2),V.one (Leaf.val (.bool true))]):=by
 refine bd_ Tryz.func94 Tryz.ntmps94 rfl (fun w0 A0=>?_)
 have hB:=hs.B;have hq:=hs.q;have hd:=hs.d;have hpl:=hs.pl;have hl:=hs.ll
 have hg:=hq.g;have hr:=hq.r;have hlo:=hr.lo;have hhi:=hr.hi
 have h1:=hg.i1;have h2:=hg.i3;have h3:=hg.u4;have h4:=hg.o1;have h5:=hg.o3
 haveI:=lvr_fq hB (bLo s j);haveI:=lvr_fq hB (bHi s j)
 refine zc 9 rfl (tc_ fn80 rfl (qof_spec 1 (by decide) (by decide)) (zl 7 rfl (tq_ rfl (Jq_nilCheckR rfl rfl) (tq_ rfl (jft rfl) (tq_ rfl (jlr rfl) (zl 1 rfl (tc_ fn81 rfl (best_p s (by assumption) (by omega) (by omega) ((j:Nat):Int)) (zl 9 rfl ?_))))))))
 refine nz_ [so 0 (D.rep (ptrRep (vwL s))),so 1 (D.val (.int .i64 ((j:Nat):Int))),so 4 (D.ptr 0 0),so 7 (D.ptr 1 0),so 8 (D.val (.int .i64 (((best s.lems ((j:Nat):Int)).1:Nat):Int)))] [hb_ 27 [Leaf.val (.bool false),natL ([]),natL ([])],hb_ 27 (qL ((1:Int):Rat))] rfl rfl (zc 2 rfl ?_)
 by_cases h1:(best s.lems ((j:Nat):Int)).1≠0
 ·refine tq_ rfl (gtT rfl) ?_
  obtain ⟨y,hy,_,_,hly,hy0,hyl⟩:=best_lo h1
  refine zl 3 rfl (tc_ fn149 rfl (value_p s (by assumption) ((best s.lems ((j:Nat):Int)).1) (by omega) (by omega)) (tc_ fn43 rfl (qsign (lvr s.lems ((best s.lems ((j:Nat):Int)).1)) ((lvr s.lems ((best s.lems ((j:Nat):Int)).1)).q) rfl (Fq.use (x:=(lvr s.lems ((best s.lems ((j:Nat):Int)).1))) (by omega))) ?_))
  by_cases h2:0 < lv s.lems (best s.lems ((j:Nat):Int)).1
  ·refine tq_ rfl (gtT rfl (by rw [lvr_q];exact sg_gt.2 h2)) (zl 5 rfl (nz_ [so 0 _,so 1 _,so 4 _,so 7 _,so 8 _] [_,_] rfl rfl (dr_ 0 [(13,0)] [0] (dz 2 rfl (kc_ fn149 rfl (value_p s (by assumption) ((best s.lems ((j:Nat):Int)).1) (by omega) (by omega)) (dz 3 rfl (kc_ fn48 rfl (mult_p ⟨6,((j:Nat):Int),0,0⟩ (qOf (((1:Int):Rat)))) (dz 4 rfl ?_))))))))
   refine kc_ fn48 rfl (mult_p ⟨11,((j:Nat):Int),(((best s.lems ((j:Nat):Int)).1:Nat):Int),0⟩ (qOf (((1:Int):Rat)))) (ke_ rfl (fun _=>Je_buildSlice rfl un44 ty105 tz105 rfl (by decide) (by decide) rfl (by decide) rfl) (dz 3 rfl (DK_nil (za 1 rfl ?_))))
   exact r3_ hq_ rfl (by rw [lowM_t ⟨h1,h2⟩] <;> rfl)
  ·refine tq_ rfl (gtF rfl (by rw [lvr_q];exact fun e=>h2 (sg_gt.1 e))) (zl 7 rfl (nz_ [so 1 _,so 4 _,so 7 _] [_,_] rfl rfl (zc 5 rfl (tc_ fn48 rfl (mult_p ⟨5,((j:Nat):Int),0,0⟩ (qOf (((1:Int):Rat)))) (te_ rfl (Je_buildSlice rfl un44 ty105 tz105 rfl (by decide) (by decide) rfl (by decide) rfl) (zl 5 rfl ?_))))))
   exact r3_ hq_ rfl (by rw [lowM_f (fun e=>h2 e.2)] <;> rfl)
 ·refine tq_ rfl (gtF rfl) (zl 13 rfl (nz_ [so 1 _,so 4 _,so 7 _] [_,_] rfl rfl (zc 5 rfl (tc_ fn48 rfl (mult_p ⟨5,((j:Nat):Int),0,0⟩ (qOf (((1:Int):Rat)))) (te_ rfl (Je_buildSlice rfl un44 ty105 tz105 rfl (by decide) (by decide) rfl (by decide) rfl) (zl 5 rfl ?_))))))
  exact r3_ hq_ rfl (by rw [lowM_f (fun e=>h1 e.1)] <;> rfl)
set_option maxRecDepth 10000 in
set_option maxHeartbeats 2000000 in
theorem high_p (s:Sc) (hs:SB 40001 s) (j:Nat) (hj:j < s.q.g.us.length):Ctr Tryz.prog 93 [vwV s,V.one (Leaf.val (.int .i64 ((j:Int))))] (R.tup [qV (highP s j).1,V.one (El.row muE (highP s j).2.1),V.one (Leaf.val (.bool (highP s j).2.2))]):=by
 refine bd_ Tryz.func93 Tryz.ntmps93 rfl (fun w0 A0=>?_)
 have hB:=hs.B;have hq:=hs.q;have hd:=hs.d;have hpl:=hs.pl;have hl:=hs.ll
 have hg:=hq.g;have hr:=hq.r;have hlo:=hr.lo;have hhi:=hr.hi
 have h1:=hg.i1;have h2:=hg.i3;have h3:=hg.u4;have h4:=hg.o1;have h5:=hg.o3
 haveI:=lvr_fq hB (bLo s j);haveI:=lvr_fq hB (bHi s j)
 refine zc 9 rfl (tc_ fn80 rfl (qof_spec 1 (by decide) (by decide)) (zl 7 rfl (tq_ rfl (Jq_nilCheckR rfl rfl) (tq_ rfl (jft rfl) (tq_ rfl (jlr rfl) (zl 1 rfl (tc_ fn81 rfl (best_p s (by assumption) (by omega) (by omega) ((j:Nat):Int)) (zl 8 rfl ?_))))))))
 refine nz_ [so 0 (D.rep (ptrRep (vwL s))),so 1 _,so 4 _,so 7 _,so 8 (D.val (.int .i64 (((best s.lems ((j:Nat):Int)).1:Nat):Int))),so 9 (D.val (.int .i64 (((best s.lems ((j:Nat):Int)).2:Nat):Int)))] [_,_] rfl rfl (zc 3 rfl (tc_ fn148 rfl (dec_p s (by assumption) 1 ((j:Nat):Int)) (zl 2 rfl (tc_ fn148 rfl (dec_p s (by assumption) 2 ((j:Nat):Int)) ?_))))
 refine zl 5 rfl ?_
 refine mt_ [so 0 (D.rep (ptrRep (vwL s))),so 1 (D.val (.int .i64 ((j:Nat):Int))),so 4 (D.ptr 0 0),so 7 (D.ptr 1 0),so 8 (D.val (.int .i64 (((best s.lems ((j:Nat):Int)).1:Nat):Int))),so 9 (D.val (.int .i64 (((best s.lems ((j:Nat):Int)).2:Nat):Int))),so 10 (D.bool (decM s.path 1 ((j:Nat):Int))),so 11 (D.bool (decM s.path 2 ((j:Nat):Int))),so 45 (D.bool (hiOff s j))] [hb_ 27 [Leaf.val (.bool false),natL ([]),natL ([])],hb_ 27 (qL ((1:Int):Rat))] ?_ ?_
 ·refine nz_ [so 0 _,so 1 _,so 4 _,so 7 _,so 8 _,so 9 _,so 10 (D.bool (decM s.path 1 ((j:Nat):Int))),so 11 (D.bool (decM s.path 2 ((j:Nat):Int)))] [_,_] rfl rfl (zc 3 rfl ?_)
  refine two_ rfl (fun hf1=>?_) (fun hf1=>?_)
  ·refine zl 1 rfl ?_
   by_cases h1:(best s.lems ((j:Nat):Int)).2≠0
   ·refine tq_ rfl (gtT rfl) ?_
    obtain ⟨z,hz,_,_,hlz,hz0,hzl⟩:=best_hi h1
    refine zl 3 rfl (tc_ fn149 rfl (value_p s (by assumption) ((best s.lems ((j:Nat):Int)).2) (by omega) (by omega)) (tc_ fn43 rfl (qsign (lvr s.lems ((best s.lems ((j:Nat):Int)).2)) ((lvr s.lems ((best s.lems ((j:Nat):Int)).2)).q) rfl (Fq.use (x:=(lvr s.lems ((best s.lems ((j:Nat):Int)).2))) (by omega))) ?_))
    by_cases h2:lv s.lems (best s.lems ((j:Nat):Int)).2≤0
    ·refine tq_ rfl (leT rfl (by rw [lvr_q];exact sg_le.2 h2)) (zl 2 rfl (is_ (hiOff s j) rfl (by simp [hiOff,hf1,h1,h2]) (zl 1 rfl ?_)))
     exact mx_ rfl
    ·refine tq_ rfl (leF rfl (by rw [lvr_q];exact fun e=>h2 (sg_le.1 e))) (zl 2 rfl (is_ (hiOff s j) rfl (by simp [hiOff,hf1,h1,h2]) (zl 1 rfl ?_)))
     exact mx_ rfl
   ·refine tq_ rfl (gtF rfl) (zl 8 rfl (is_ (hiOff s j) rfl (by simp [hiOff,hf1,h1]) (zl 1 rfl ?_)))
    exact mx_ rfl
  ·refine zl 10 rfl (is_ (hiOff s j) rfl (by simp [hiOff,hf1]) (zl 1 rfl ?_))
   exact mx_ rfl
 ·refine Tc_cond rfl (fun hof=>?_) (fun hof=>?_)
  ·refine zc 15 rfl ?_
   refine Tc_cond rfl (fun hd1=>?_) (fun hd1=>?_)
   ·refine zc 7 rfl (nz_ [so 4 _,so 7 _,so 12 (D.ptr 2 0)] [_,_,hb_ 103 [Leaf.val (.int .i64 10),Leaf.val (.int .i64 ((j:Nat):Int)),Leaf.val (.int .i64 0),Leaf.val (.int .i64 (((best s.lems ((j:Nat):Int)).2:Nat):Int))]] rfl rfl (zc 4 rfl (tc_ fn48 rfl (mult_p ⟨10,((j:Nat):Int),0,(((best s.lems ((j:Nat):Int)).2:Nat):Int)⟩ (qOf (((1:Int):Rat)))) ?_)))
    refine te_ rfl (Je_buildSlice rfl un44 ty105 tz105 rfl (by decide) (by decide) rfl (by decide) rfl) (zl 5 rfl ?_)
    exact r3_ hq_ rfl (by rw [highP_some (highM_off hof),offRow_f (by simpa using hd1)] <;> rfl)
   ·refine zc 3 rfl (nz_ [so 4 _,so 7 _,so 12 (D.ptr 2 0)] [_,_,hb_ 103 [Leaf.val (.int .i64 10),Leaf.val (.int .i64 ((j:Nat):Int)),Leaf.val (.int .i64 0),Leaf.val (.int .i64 0)]] rfl rfl (zc 4 rfl (tc_ fn48 rfl (mult_p ⟨10,((j:Nat):Int),0,0⟩ (qOf (((1:Int):Rat)))) (te_ rfl (Je_buildSlice rfl un44 ty105 tz105 rfl (by decide) (by decide) rfl (by decide) rfl) ?_))))
    refine zl 5 rfl ?_
    exact r3_ hq_ rfl (by rw [highP_some (highM_off hof),offRow_t (by simpa using hd1)] <;> rfl)
  ·refine zc 4 rfl (nz_ [so 0 _,so 1 _,so 4 _,so 7 _,so 8 _,so 9 _,so 10 (D.bool (decM s.path 1 ((j:Nat):Int)))] [_,_] rfl rfl (zc 2 rfl ?_))
   by_cases hh:(best s.lems ((j:Nat):Int)).2 = 0
   ·refine tq_ rfl (eqT rfl) (zl 11 rfl ?_)
    exact r3_ hq_ rfl (by rw [highP_none (highM_n1 hof hh)] <;> rfl)
   ·refine tq_ rfl (eqF rfl) (zl 6 rfl ?_)
    obtain ⟨z,hz,_,_,hlz,hz0,hzl⟩:=best_hi hh
    refine nz_ [so 0 _,so 1 _,so 4 _,so 7 _,so 8 _,so 9 _,so 10 _] [_,_] rfl rfl (zc 3 rfl (tc_ fn149 rfl (value_p s (by assumption) ((best s.lems ((j:Nat):Int)).2) (by omega) (by omega)) (zl 10 rfl ?_)))
    refine mt_ [so 0 (D.rep (ptrRep (vwL s))),so 1 (D.val (.int .i64 ((j:Nat):Int))),so 4 (D.ptr 0 0),so 7 (D.ptr 1 0),so 8 (D.val (.int .i64 (((best s.lems ((j:Nat):Int)).1:Nat):Int))),so 9 (D.val (.int .i64 (((best s.lems ((j:Nat):Int)).2:Nat):Int))),so 10 (D.bool (decM s.path 1 ((j:Nat):Int))),so 13 (D.ptr 2 0),so 14 (D.ptr 3 0),so 77 (D.bool (hiOn s j))] [hb_ 27 [Leaf.val (.bool false),natL ([]),natL ([])],hb_ 27 (qL ((1:Int):Rat)),hb_ 27 [Leaf.val (.bool (lvr s.lems ((best s.lems ((j:Nat):Int)).2)).neg),natL (lvr s.lems ((best s.lems ((j:Nat):Int)).2)).n,natL (lvr s.lems ((best s.lems ((j:Nat):Int)).2)).d],hb_ 103 [Leaf.val (.int .i64 12),Leaf.val (.int .i64 ((j:Nat):Int)),Leaf.val (.int .i64 0),Leaf.val (.int .i64 (((best s.lems ((j:Nat):Int)).2:Nat):Int))]] ?_ ?_
    ·refine nz_ [so 0 _,so 1 _,so 4 _,so 7 _,so 8 _,so 9 _,so 10 _,so 13 (D.ptr 2 0),so 14 (D.ptr 3 0)] [_,_,hb_ 27 [Leaf.val (.bool (lvr s.lems ((best s.lems ((j:Nat):Int)).2)).neg),natL (lvr s.lems ((best s.lems ((j:Nat):Int)).2)).n,natL (lvr s.lems ((best s.lems ((j:Nat):Int)).2)).d],hb_ 103 [Leaf.val (.int .i64 12),Leaf.val (.int .i64 ((j:Nat):Int)),Leaf.val (.int .i64 0),Leaf.val (.int .i64 (((best s.lems ((j:Nat):Int)).2:Nat):Int))]] rfl rfl ?_
     refine zc 3 rfl ?_
     refine two_ rfl (fun hn1=>?_) (fun hn1=>?_)
     ·refine zl 1 rfl ?_
      by_cases h1:(best s.lems ((j:Nat):Int)).1≠0
      ·refine tq_ rfl (gtT rfl) ?_
       obtain ⟨y,hy,_,_,hly,hy0,hyl⟩:=best_lo h1
       refine zl 3 rfl (tc_ fn149 rfl (value_p s (by assumption) ((best s.lems ((j:Nat):Int)).1) (by omega) (by omega)) (tc_ fn43 rfl (qsign (lvr s.lems ((best s.lems ((j:Nat):Int)).1)) ((lvr s.lems ((best s.lems ((j:Nat):Int)).1)).q) rfl (Fq.use (x:=(lvr s.lems ((best s.lems ((j:Nat):Int)).1))) (by omega))) ?_))
       by_cases h2:0≤lv s.lems (best s.lems ((j:Nat):Int)).1
       ·refine tq_ rfl (geT rfl (by rw [lvr_q];exact sg_ge.2 h2)) (zl 2 rfl (is_ (hiOn s j) rfl (by simp [hiOn,hn1,h1,h2]) (zl 1 rfl ?_)))
        exact mx_ rfl
       ·refine tq_ rfl (geF rfl (by rw [lvr_q];exact fun e=>h2 (sg_ge.1 e))) (zl 2 rfl (is_ (hiOn s j) rfl (by simp [hiOn,hn1,h1,h2]) (zl 1 rfl ?_)))
        exact mx_ rfl
      ·refine tq_ rfl (gtF rfl) (zl 8 rfl (is_ (hiOn s j) rfl (by simp [hiOn,hn1,h1]) (zl 1 rfl ?_)))
       exact mx_ rfl
     ·refine zl 10 rfl (is_ (hiOn s j) rfl (by simp [hiOn,hn1]) (zl 1 rfl ?_))
      exact mx_ rfl
    ·refine Tc_cond rfl (fun hon=>?_) (fun hon=>?_)
     ·refine zc 15 rfl ?_
      refine Tc_cond rfl (fun hd1=>?_) (fun hd1=>?_)
      ·refine zc 7 rfl ?_
       refine nz_ [so 4 _,so 7 _,so 13 (D.ptr 2 0),so 14 (D.ptr 3 0),so 15 (D.ptr 4 0)] [_,_,hb_ 27 [Leaf.val (.bool (lvr s.lems ((best s.lems ((j:Nat):Int)).2)).neg),natL (lvr s.lems ((best s.lems ((j:Nat):Int)).2)).n,natL (lvr s.lems ((best s.lems ((j:Nat):Int)).2)).d],hb_ 103 [Leaf.val (.int .i64 12),Leaf.val (.int .i64 ((j:Nat):Int)),Leaf.val (.int .i64 0),Leaf.val (.int .i64 (((best s.lems ((j:Nat):Int)).2:Nat):Int))],hb_ 103 [Leaf.val (.int .i64 8),Leaf.val (.int .i64 ((j:Nat):Int)),Leaf.val (.int .i64 (((best s.lems ((j:Nat):Int)).1:Nat):Int)),Leaf.val (.int .i64 0)]] rfl rfl ?_
       refine dr_ 0 [(8,0)] [0] (dz 3 rfl (kc_ fn48 rfl (mult_p ⟨8,((j:Nat):Int),(((best s.lems ((j:Nat):Int)).1:Nat):Int),0⟩ (qOf (((1:Int):Rat)))) (dz 2 rfl (kc_ fn48 rfl (mult_p ⟨12,((j:Nat):Int),0,(((best s.lems ((j:Nat):Int)).2:Nat):Int)⟩ (qOf (((1:Int):Rat)))) ?_))))
       refine ke_ rfl (fun _=>Je_buildSlice rfl un44 ty105 tz105 rfl (by decide) (by decide) rfl (by decide) rfl) (dz 3 rfl (DK_nil (za 1 rfl ?_)))
       exact r3_ hq_ rfl (by rw [highP_some (highM_on hof hh hon),onRow_f (by simpa using hd1)] <;> rfl)
      ·refine zc 3 rfl ?_
       refine nz_ [so 4 _,so 7 _,so 13 (D.ptr 2 0),so 14 (D.ptr 3 0),so 15 (D.ptr 4 0)] [_,_,hb_ 27 [Leaf.val (.bool (lvr s.lems ((best s.lems ((j:Nat):Int)).2)).neg),natL (lvr s.lems ((best s.lems ((j:Nat):Int)).2)).n,natL (lvr s.lems ((best s.lems ((j:Nat):Int)).2)).d],hb_ 103 [Leaf.val (.int .i64 12),Leaf.val (.int .i64 ((j:Nat):Int)),Leaf.val (.int .i64 0),Leaf.val (.int .i64 (((best s.lems ((j:Nat):Int)).2:Nat):Int))],hb_ 103 [Leaf.val (.int .i64 8),Leaf.val (.int .i64 ((j:Nat):Int)),Leaf.val (.int .i64 0),Leaf.val (.int .i64 0)]] rfl rfl ?_
       refine dr_ 0 [(8,0)] [0] (dz 3 rfl (kc_ fn48 rfl (mult_p ⟨8,((j:Nat):Int),0,0⟩ (qOf (((1:Int):Rat)))) (dz 2 rfl (kc_ fn48 rfl (mult_p ⟨12,((j:Nat):Int),0,(((best s.lems ((j:Nat):Int)).2:Nat):Int)⟩ (qOf (((1:Int):Rat)))) (ke_ rfl (fun _=>Je_buildSlice rfl un44 ty105 tz105 rfl (by decide) (by decide) rfl (by decide) rfl) (dz 3 rfl (DK_nil (za 1 rfl ?_))))))))
       exact r3_ hq_ rfl (by rw [highP_some (highM_on hof hh hon),onRow_t (by simpa using hd1)] <;> rfl)
     ·refine zc 4 rfl ?_
      refine nz_ [so 0 _,so 1 _,so 4 _,so 7 _,so 8 _,so 9 _,so 13 (D.ptr 2 0),so 14 (D.ptr 3 0)] [_,_,hb_ 27 [Leaf.val (.bool (lvr s.lems ((best s.lems ((j:Nat):Int)).2)).neg),natL (lvr s.lems ((best s.lems ((j:Nat):Int)).2)).n,natL (lvr s.lems ((best s.lems ((j:Nat):Int)).2)).d],hb_ 103 [Leaf.val (.int .i64 12),Leaf.val (.int .i64 ((j:Nat):Int)),Leaf.val (.int .i64 0),Leaf.val (.int .i64 (((best s.lems ((j:Nat):Int)).2:Nat):Int))]] rfl rfl ?_
      refine zc 2 rfl ?_
      by_cases hl0:(best s.lems ((j:Nat):Int)).1 = 0
      ·refine tq_ rfl (eqT rfl) (zl 11 rfl ?_)
       exact r3_ hq_ rfl (by rw [highP_none (highM_n2 hof hh hon hl0)] <;> rfl)
      ·refine tq_ rfl (eqF rfl) (zl 6 rfl ?_)
       obtain ⟨y,hy,_,_,hly,hy0,hyl⟩:=best_lo hl0
       have hne:=tri_ne hof hh hon hl0
       refine nz_ [so 0 _,so 1 _,so 4 _,so 7 _,so 8 _,so 9 _,so 13 _,so 14 _] [_,_,_,_] rfl rfl (dr_ 1 [(10,4),(11,4)] [4] (dz 4 rfl (kc_ fn149 rfl (value_p s (by assumption) ((best s.lems ((j:Nat):Int)).1) (by omega) (by omega)) ?_)))
       refine kc_ fn151 rfl (qsub (lvr s.lems ((best s.lems ((j:Nat):Int)).2)) ((lvr s.lems ((best s.lems ((j:Nat):Int)).2)).q) rfl (Fq.use (x:=(lvr s.lems ((best s.lems ((j:Nat):Int)).2))) (by omega)) (lvr s.lems ((best s.lems ((j:Nat):Int)).1)) ((lvr s.lems ((best s.lems ((j:Nat):Int)).1)).q) rfl (Fq.use (x:=(lvr s.lems ((best s.lems ((j:Nat):Int)).1))) (by omega))) ?_
       refine kc_ fn150 rfl (qdiv (qOf (((1:Int):Rat))) (((1:Int):Rat)) (qOf_q _) (Br.use (by omega)) (qOf (((lvr s.lems ((best s.lems ((j:Nat):Int)).2)).q) - ((lvr s.lems ((best s.lems ((j:Nat):Int)).1)).q))) (((lvr s.lems ((best s.lems ((j:Nat):Int)).2)).q) - ((lvr s.lems ((best s.lems ((j:Nat):Int)).1)).q)) (qOf_q _) (Br.use (by omega)) (by assumption)) (dz 6 rfl ?_)
       refine DK_nil (za 2 rfl (nf_ [1] [so 1 _,so 4 _,so 8 _,so 9 _,so 13 _,so 14 _,so 16 (D.ptr 4 0)] [_,none,_,_,hb_ 27 (qL ((((1:Int):Rat)) / (((lvr s.lems ((best s.lems ((j:Nat):Int)).2)).q) - ((lvr s.lems ((best s.lems ((j:Nat):Int)).1)).q))))] rfl rfl rfl (dr_ 0 [(13,0)] [0] (dz 4 rfl ?_))))
       refine kc_ fn45 rfl (qmul (lvr s.lems ((best s.lems ((j:Nat):Int)).2)) ((lvr s.lems ((best s.lems ((j:Nat):Int)).2)).q) rfl (Fq.use (x:=(lvr s.lems ((best s.lems ((j:Nat):Int)).2))) (by omega)) (qOf ((((1:Int):Rat)) / (((lvr s.lems ((best s.lems ((j:Nat):Int)).2)).q) - ((lvr s.lems ((best s.lems ((j:Nat):Int)).1)).q)))) ((((1:Int):Rat)) / (((lvr s.lems ((best s.lems ((j:Nat):Int)).2)).q) - ((lvr s.lems ((best s.lems ((j:Nat):Int)).1)).q))) (qOf_q _) (Br.use (by omega))) ?_
       refine kc_ fn48 rfl (mult_p ⟨12,((j:Nat):Int),0,(((best s.lems ((j:Nat):Int)).2:Nat):Int)⟩ (qOf (((lvr s.lems ((best s.lems ((j:Nat):Int)).2)).q) * ((((1:Int):Rat)) / (((lvr s.lems ((best s.lems ((j:Nat):Int)).2)).q) - ((lvr s.lems ((best s.lems ((j:Nat):Int)).1)).q)))))) (dz 5 rfl ?_)
       refine kc_ fn48 rfl (mult_p ⟨13,((j:Nat):Int),(((best s.lems ((j:Nat):Int)).1:Nat):Int),(((best s.lems ((j:Nat):Int)).2:Nat):Int)⟩ (qOf ((((1:Int):Rat)) / (((lvr s.lems ((best s.lems ((j:Nat):Int)).2)).q) - ((lvr s.lems ((best s.lems ((j:Nat):Int)).1)).q))))) ?_
       refine ke_ rfl (fun _=>Je_buildSlice rfl un44 ty105 tz105 rfl (by decide) (by decide) rfl (by decide) rfl) (dz 3 rfl (DK_nil (za 1 rfl ?_)))
       exact r3_ hq_ rfl (by rw [highP_some (highM_tri hof hh hon hl0)] <;> rfl)
set_option maxRecDepth 10000 in
theorem bound_p (s:Sc) (hs:SB 40001 s) (v:Nat) (hv:v < (s.q.g.inp + s.q.g.us.length)) (up:Bool):Ctr Tryz.prog 42 [vwV s,V.one (Leaf.val (.int .i64 ((v:Int)))),V.one (Leaf.val (.bool up))] (R.tup [qV (bndP s v up).1,V.one (El.row muE (bndP s v up).2.1),V.one (Leaf.val (.bool (bndP s v up).2.2))]):=by
 refine bd_ Tryz.func42 Tryz.ntmps42 rfl (fun w0 A0=>?_)
 have hB:=hs.B;have hq:=hs.q;have hd:=hs.d;have hpl:=hs.pl;have hl:=hs.ll
 have hg:=hq.g;have hr:=hq.r;have hlo:=hr.lo;have hhi:=hr.hi
 have h1:=hg.i1;have h2:=hg.i3;have h3:=hg.u4;have h4:=hg.o1;have h5:=hg.o3
 refine zc 8 rfl ?_
 by_cases hvi:v < s.q.g.inp
 ·refine zc 3 rfl (tq_ rfl (Jq_nilCheckR rfl rfl) (tq_ rfl (jft rfl) (tq_ rfl (jft rfl) (tq_ rfl (jft rfl) (tq_ rfl (jfr rfl) (tq_ rfl (jli rfl) (tq_ rfl (Jq_sub rfl rfl rfl (r:=((v:Int) - (s.q.g.inp:Int))) (w64 (by omega) (by omega) (by omega))) (zl 8 rfl (tq_ rfl (ltT rfl) ?_)))))))))
  refine zl 9 rfl (tc_ fn92 rfl (input_p s hs v hvi up) (zl 8 rfl ?_))
  exact r3_ hq_ rfl (by rw [bndP_in hvi])
 ·refine zc 3 rfl (tq_ rfl (Jq_nilCheckR rfl rfl) (tq_ rfl (jft rfl) (tq_ rfl (jft rfl) (tq_ rfl (jft rfl) (tq_ rfl (jfr rfl) (tq_ rfl (jli rfl) (tq_ rfl (jsb (v - s.q.g.inp) rfl) (zl 8 rfl (tq_ rfl (ltF rfl) ?_)))))))))
  refine zl 10 rfl ?_
  refine Tc_cond rfl (fun hup=>?_) (fun hup=>?_)
  ·refine zc 4 rfl (tc_ fn93 rfl (high_p s (by assumption) (v - s.q.g.inp) (by omega)) (zl 8 rfl ?_))
   exact r3_ hq_ rfl (by rw [hup,bndP_up hvi])
  ·refine zc 7 rfl (tc_ fn94 rfl (low_p s (by assumption) (v - s.q.g.inp) (by omega)) (zl 8 rfl ?_))
   exact r3_ hq_ rfl (by rw [hup,bndP_lo hvi])
end Go.Proofs.YtmpkandbccallaaGreatDoor
set_option linter.unusedSimpArgs false
set_option linter.unusedVariables false
namespace Go.Proofs.YtmpkandbccallaaGreatDoor
open Go Go.RowKit Rc
set_option maxRecDepth 10000 in
set_option maxHeartbeats 2000000 in
theorem box_p (s:Sc) (hs:SB 40001 s) (f:Af) {b:Nat} (hf:FOk b (s.q.g.inp + s.q.g.us.length) f) (hb:b≤50000000):Ctr Tryz.prog 12 [V.agg [],scV s,afV f] (R.tup [qV (qOf (boxD s f).1),V.one (El.row muE (boxD s f).2.1),V.one (Leaf.val (.bool (boxD s f).2.2))]):=by
 refine bd_ Tryz.func12 Tryz.ntmps12 rfl (fun w0 A0=>?_)
 have hB:=hs.B;have hq:=hs.q;have hd:=hs.d;have hpl:=hs.pl;have hl:=hs.ll
 have hg:=hq.g;have hr:=hq.r;have hlo:=hr.lo;have hhi:=hr.hi
 have h1:=hg.i1;have h2:=hg.i3;have h3:=hg.u4;have h4:=hg.o1;have h5:=hg.o3
 have hfl:=hf.fl
 haveI:=hfl.fm (by omega);haveI:=hfl.cb
 have h7:=hfl.len7 hq
 refine zc 13 rfl (tc_ fn39 rfl (look_p s hs) (zl 9 rfl (nf_ [0] [so 4 (D.ptr 1 0),so 5 (D.ptr 2 0),so 6 (D.ptr 3 0),so 9 (D.rep (ptrRep (vwL s))),so 10 (D.bool true)] [none,hb_ 42 (scL s),hb_ 29 (afL f),hb_ 27 [Leaf.val (.bool false),natL ([]),natL ([])]] rfl rfl rfl (dr_ 0 [] [] (dz 7 rfl (kc_ fn41 rfl (gvars_p s.q.g (by assumption)) ?_))))))
 refine kc_ fn40 rfl (lvalid f hf (by omega) (s.q.g.inp + s.q.g.us.length) (Nat.le_refl _) (by omega)) (dz 2 rfl (DK_nil (za 5 rfl (nf_ [1] [so 5 _,so 6 _,so 9 _] [none,none,_,_] rfl rfl rfl (zc 9 rfl (tq_ rfl (Jq_assign rfl (rfl)) (zl 4 rfl (Tc_growS 12 105 7 rfl rfl (zc 3 rfl ?_)))))))))
 refine tq_ rfl (jln rfl) (zl 4 rfl (fr_ [2] rfl ?_))
 refine lpR_ (fun m Γ H=>∃ (i:Nat) (n:Nat) (x:Rat) (out:List Mu),f.ts.length - i = m∧Γ = [(6,some (D.ptr 3 0)),(9,some (D.rep (ptrRep (vwL s)))),(11,some (D.ptr 4 0)),(12,some (D.v (V.one (Leaf.own 5 n)))),(41,some (D.v (V.one (El.row tmE f.ts)))),(42,some (D.val (.int .i64 ((f.ts.length:Nat):Int)))),(43,some (D.val (.int .i64 ((i:Nat):Int))))]∧H = [none,none,none,hb_ 27 [Leaf.val (.bool false),natL ([]),natL ([])],hb_ 27 (qL x),hgr 105 7 muE out n]∧i≤f.ts.length∧boxR s f i = some (x,out)∧PlOk 40001 (b + 1) i out) ⟨0,0,f.c,[],rfl,rfl,rfl,Nat.zero_le _,rfl,PlOk.start⟩ rfl ?_
 rintro m Γ H ⟨i,n,x,out,rfl,rfl,rfl,hi0,hR,hP⟩
 refine zc 1 rfl (nz_ [so 6 (D.ptr 3 0),so 9 (D.rep (ptrRep (vwL s))),so 11 (D.ptr 4 0),so 12 (D.v (V.one (Leaf.own 5 n))),so 41 (D.v (V.one (El.row tmE f.ts))),so 42 (D.val (.int .i64 ((f.ts.length:Nat):Int))),so 43 (D.val (.int .i64 ((i:Nat):Int)))] [none,none,none,hb_ 27 [Leaf.val (.bool false),natL ([]),natL ([])],hb_ 27 (qL x),hgr 105 7 muE out n] rfl rfl ?_)
 refine zc 1 rfl ?_
 by_cases hi:i < f.ts.length
 ·refine tq_ rfl (ltT rfl) (zl 9 rfl ?_)
  obtain ⟨t,ht⟩:∃ t,f.ts[i]? = some t:=⟨_,List.getElem?_eq_getElem hi⟩
  have htm:=List.mem_of_getElem? ht
  have htv:=hf.var t htm
  haveI htb:Br t.2 (b + 1):=(hf.bd t htm).br
  have hxb:=(box_ok hs hfl i (by omega) x _ (boxR_get hR)).br
  have hmul:=Nat.mul_le_mul_right (40001 + (b + 1) + 210) (show (f.ts.take i).length≤7 by rw [List.length_take];omega)
  haveI:Br x (b + 1 + 7 * (40001 + (b + 1) + 210)):=hxb.mono (by omega)
  have hol:=hP.len
  refine zc 1 rfl (tq_ rfl (jix i ht rfl) (tq_ rfl (jlr rfl) (zl 5 rfl (dr_ 1 [(12,7),(13,7)] [7] (dz 5 rfl (kc_ fn43 rfl (qsign (qOf (t.2)) (t.2) (qOf_q _) (Br.use (by omega))) (kq_ rfl (Jq_lss rfl rfl rfl (b:=(decide (t.2 < 0))) (decide_eq_decide.2 sg_lt)) (kc_ fn42 rfl (bound_p s hs t.1 htv (decide (t.2 < 0))) (dz 8 rfl ?_)))))))))
  refine DK_nil (za 3 rfl ?_)
  refine nz_ [so 6 _,so 9 _,so 11 _,so 12 _,so 14 (D.ptr 6 0),so 15 (D.ptr 7 0),so 16 (D.v (V.one (El.row muE (((bndP s t.1 (decide (t.2 < 0)))).2.1)))),so 17 (D.bool (((bndP s t.1 (decide (t.2 < 0)))).2.2)),so 41 _,so 42 _,so 43 _] [none,none,none,_,_,_,hb_ 92 [Leaf.val (.int .i64 ((t.1:Nat):Int)),Leaf.val (.bool (cneg t.2)),natL (limbs (cnum t.2)),natL (limbs (cden t.2))],hb_ 27 [Leaf.val (.bool ((bndP s t.1 (decide (t.2 < 0)))).1.neg),natL ((bndP s t.1 (decide (t.2 < 0)))).1.n,natL ((bndP s t.1 (decide (t.2 < 0)))).1.d]] rfl rfl ?_
  refine zc 5 rfl ?_
  refine Tc_cond rfl (fun hok=>?_) (fun hok=>?_)
  ·refine zc 8 rfl ?_
   exact r3_ hq_ rfl (by rw [boxR_stop ht hR (by simpa using hok)];show _ = R.tup [qV (qOf 0),_,_];rw [← qV_zero] <;> rfl)
  ·refine zc 3 rfl ?_
   have hok1:(bndP s t.1 (decide (t.2 < 0))).2.2 = true:=by simpa using hok
   have hbk:=bnd_ok hs htv (bndP_t hok1)
   haveI:=hbk.fq
   have hst:=hbk.step
   have hsl:=hst.len
   refine dr_ 0 [(6,4)] [4] (kp_ [] rfl (Jq_load_agg rfl rfl rfl (by decide) ty27 (by decide) (Nat.le_of_ble_eq_true rfl) rfl) (dz 3 rfl (kc_ fn45 rfl (qmul (qOf (t.2)) (t.2) (qOf_q _) (Br.use (by omega)) ((bndP s t.1 (decide (t.2 < 0)))).1 (((bndP s t.1 (decide (t.2 < 0)))).1.q) rfl (Fq.use (x:=((bndP s t.1 (decide (t.2 < 0)))).1) (by omega))) ?_)))
   refine kc_ fn44 rfl (qadd (qOf (x)) (x) (qOf_q _) (Br.use (by omega)) (qOf ((t.2) * (((bndP s t.1 (decide (t.2 < 0)))).1.q))) ((t.2) * (((bndP s t.1 (decide (t.2 < 0)))).1.q)) (qOf_q _) (Br.use (by omega))) (dz 1 rfl (DK_nil (za 2 rfl ?_)))
   refine nf_ [7] [so 6 _,so 9 _,so 11 _,so 12 _,so 14 _,so 16 _,so 41 _,so 42 _,so 43 _] [none,none,none,_,hb_ 27 (qL ((x) + ((t.2) * (((bndP s t.1 (decide (t.2 < 0)))).1.q)))),_,_,none] rfl rfl rfl (dr_ 1 [(6,8),(7,8)] [8] (dz 4 rfl (kc_ fn47 rfl (qneg (qOf (t.2)) (t.2) (qOf_q _) (Br.use (by omega))) ?_)))
   refine kc_ fn46 rfl (qmax (qOf (t.2)) (t.2) (qOf_q _) (Br.use (by omega)) (qOf (-(t.2))) (-(t.2)) (qOf_q _) (Br.use (by omega))) (dz 2 rfl (DK_nil (za 2 rfl (nf_ [6] [so 6 _,so 9 _,so 11 _,so 12 _,so 16 _,so 18 (D.ptr 8 0),so 41 _,so 42 _,so 43 _] [none,none,none,_,_,_,none,none,hb_ 27 (qL (mx (t.2) (-(t.2))))] rfl rfl rfl (zc 2 rfl (tq_ rfl (jln rfl) (zl 4 rfl ?_)))))))
   refine lpR_ (fun m Γ H=>∃ (k:Nat) (n2:Nat) (out2:List Mu),(bndP s t.1 (decide (t.2 < 0))).2.1.length - k = m∧Γ = [(6,some (D.ptr 3 0)),(9,some (D.rep (ptrRep (vwL s)))),(11,some (D.ptr 4 0)),(12,some (D.v (V.one (Leaf.own 5 n2)))),(18,some (D.ptr 8 0)),(41,some (D.v (V.one (El.row tmE f.ts)))),(42,some (D.val (.int .i64 ((f.ts.length:Nat):Int)))),(43,some (D.val (.int .i64 ((i:Nat):Int)))),(74,some (D.v (V.one (El.row muE (((bndP s t.1 (decide (t.2 < 0)))).2.1))))),(75,some (D.val (.int .i64 (((((bndP s t.1 (decide (t.2 < 0)))).2.1).length:Nat):Int)))),(76,some (D.val (.int .i64 ((k:Nat):Int))))]∧H = [none,none,none,hb_ 27 [Leaf.val (.bool false),natL ([]),natL ([])],hb_ 27 (qL ((x) + ((t.2) * (((bndP s t.1 (decide (t.2 < 0)))).1.q)))),hgr 105 7 muE out2 n2,none,none,hb_ 27 (qL (mx (t.2) (-(t.2))))]∧k≤(bndP s t.1 (decide (t.2 < 0))).2.1.length∧out2 = out ++ sclM (absM t.2) ((bndP s t.1 (decide (t.2 < 0))).2.1.take k)) ⟨0,n,out,rfl,rfl,rfl,Nat.zero_le _,by simp [sclM]⟩ rfl ?_
   rintro m Γ H ⟨k,n2,out2,rfl,rfl,rfl,hk0,hout2⟩
   refine zc 2 rfl ?_
   by_cases hk:k < (bndP s t.1 (decide (t.2 < 0))).2.1.length
   ·refine tq_ rfl (ltT rfl) (zl 9 rfl ?_)
    obtain ⟨y,hy⟩:∃ y,(bndP s t.1 (decide (t.2 < 0))).2.1[k]? = some y:=⟨_,List.getElem?_eq_getElem hk⟩
    haveI hyb:=hst.bd y (List.mem_of_getElem? hy)
    have hol2:out2.length≤30:=by rw [hout2,List.length_append,sclM,List.length_map,List.length_take];omega
    refine zc 1 rfl (tq_ rfl (jix k hy rfl) (tq_ rfl (jlr rfl) (zl 4 rfl ?_)))
    refine nz_ [so 6 (D.ptr 3 0),so 9 (D.rep (ptrRep (vwL s))),so 11 (D.ptr 4 0),so 12 (D.v (V.one (Leaf.own 5 n2))),so 18 (D.ptr 8 0),so 20 (D.ptr 9 0),so 41 (D.v (V.one (El.row tmE f.ts))),so 42 (D.val (.int .i64 ((f.ts.length:Nat):Int))),so 43 (D.val (.int .i64 ((i:Nat):Int))),so 74 (D.v (V.one (El.row muE (((bndP s t.1 (decide (t.2 < 0)))).2.1)))),so 75 (D.val (.int .i64 (((((bndP s t.1 (decide (t.2 < 0)))).2.1).length:Nat):Int))),so 76 (D.val (.int .i64 ((k:Nat):Int)))] [none,none,none,hb_ 27 [Leaf.val (.bool false),natL ([]),natL ([])],hb_ 27 (qL ((x) + ((t.2) * (((bndP s t.1 (decide (t.2 < 0)))).1.q)))),hgr 105 7 muE out2 n2,none,none,hb_ 27 (qL (mx (t.2) (-(t.2)))),hb_ 105 [Leaf.val (.int .i64 y.r.kind),Leaf.val (.int .i64 y.r.idx),Leaf.val (.int .i64 y.r.lo),Leaf.val (.int .i64 y.r.hi),Leaf.val (.bool y.c.neg),natL y.c.n,natL y.c.d]] rfl rfl ?_
    refine dr_ 0 [(9,5)] [5] (dz 6 rfl (kc_ fn45 rfl (qmul (qOf (mx (t.2) (-(t.2)))) (mx (t.2) (-(t.2))) (qOf_q _) (Br.use (by omega)) y.c (y.c.q) rfl (Fq.use (x:=y.c) (by omega))) (kc_ fn48 rfl (mult_p y.r (qOf ((mx (t.2) (-(t.2))) * (y.c.q)))) (ke_ rfl (fun _=>Je_buildSlice rfl un44 ty105 tz105 rfl (by decide) (by decide) rfl (by decide) rfl) ?_))))
    refine ki_ 5 rfl (dap (e:=muE) (⟨⟨y.r.kind,y.r.idx,y.r.lo,y.r.hi⟩,(qOf ((mx (t.2) (-(t.2))) * (y.c.q)))⟩) rfl rfl) (dz 1 rfl (DK_nil (za 2 rfl ?_)))
    refine nf_ [9] [so 6 _,so 9 _,so 11 _,so 12 (D.v (V.one (Leaf.own 5 (n2 + 1)))),so 18 _,so 41 _,so 42 _,so 43 _,so 74 _,so 75 _,so 76 _] [none,none,none,_,_,hgr 105 7 muE (out2 ++ [⟨⟨y.r.kind,y.r.idx,y.r.lo,y.r.hi⟩,(qOf ((mx (t.2) (-(t.2))) * (y.c.q)))⟩]) (n2 + 1),none,none,_,none] rfl rfl rfl (zc 1 rfl (tq_ rfl (jad (k + 1) rfl) (zl 2 rfl (trim_ 9 rfl ?_))))
    exact nx_ ⟨k + 1,_,_,rfl,rfl,rfl,hk,(by rw [hout2,List.append_assoc,scl_take hy])⟩ rfl
   ·refine tq_ rfl (ltF rfl) (zl 10 rfl ?_)
    rw [show k = (bndP s t.1 (decide (t.2 < 0))).2.1.length by omega,List.take_length] at hout2
    subst hout2
    refine zc 1 rfl (tq_ rfl (jad (i + 1) rfl) (zl 2 rfl (At_free 8 (trim_ 6 rfl ?_))))
    exact nx_ ⟨i + 1,_,_,_,rfl,rfl,rfl,hi,boxR_step ht hR hok1,hP.next hst htb⟩ rfl
 ·refine tq_ rfl (ltF rfl) (zl 10 rfl ?_)
  have hie:i = f.ts.length:=by omega
  rw [hie] at hR
  have hc:=hP.cof
  have hmb:=hP.mb
  have hol:=hP.len
  refine zc 1 rfl (tq_ rfl (Jq_view (r:=5) (n:=n) (x:=V.one (Leaf.own 5 n)) (x':=V.one (El.row muE out)) (Jq_move rfl rfl) (RowAt.ofE muE out rfl (by decide)) (by decide) (.inr ⟨rfl,rfl⟩)) (tc_ fn49 rfl (collect out (by assumption) (by assumption) (by omega) (by omega)) (zl 7 rfl ?_)))
  refine nz_ [so 6 _,so 11 _,so 12 (D.v (V.one (El.row muE (collM out))))] [none,none,none,_,_,_] rfl rfl (zc 8 rfl ?_)
  exact r3_ hq_ rfl (by rw [boxR_end hR])
set_option maxRecDepth 10000 in
theorem var_p (s:Sc) (hs:SB 40001 s) (v:Nat) (hv:v < (s.q.g.inp + s.q.g.us.length)):Ctr Tryz.prog 14 [scV s,V.one (Leaf.val (.int .i64 ((v:Int))))] (R.tup [qV (bndP s v false).1,qV (bndP s v true).1,V.one (Leaf.val (.bool (bndP s v false).2.2)),V.one (Leaf.val (.bool (bndP s v true).2.2))]):=by
 refine bd_ Tryz.func14 Tryz.ntmps14 rfl (fun w0 A0=>?_)
 have hB:=hs.B;have hq:=hs.q;have hd:=hs.d;have hpl:=hs.pl;have hl:=hs.ll
 have hg:=hq.g;have hr:=hq.r;have hlo:=hr.lo;have hhi:=hr.hi
 have h1:=hg.i1;have h2:=hg.i3;have h3:=hg.u4;have h4:=hg.o1;have h5:=hg.o3
 refine zc 12 rfl (tc_ fn39 rfl (look_p s hs) (zl 14 rfl (tq_ rfl (ltF rfl) (zl 6 rfl (tc_ fn41 rfl (gvars_p s.q.g (by assumption)) (tq_ rfl (geF rfl) (zl 10 rfl (tc_ fn42 rfl (bound_p s hs v hv false) (zl 12 rfl ?_)))))))))
 refine tc_ fn42 rfl (bound_p s hs v hv true) (zl 8 rfl ?_)
 exact Tc_ret4 hq_ rfl (rA ty27 rfl rfl rfl rfl) (rA ty27 rfl rfl rfl rfl) rfl rfl rfl
end Go.Proofs.YtmpkandbccallaaGreatDoor
set_option linter.unusedSimpArgs false
set_option linter.unusedVariables false
namespace Go.Proofs.YtmpkandbccallaaGreatDoor
open Go Go.RowKit Rc
set_option maxRecDepth 10000 in
theorem fits_okY (q:Qu) (hq:QOk q) (d:Dc) {b:Nat} (hd:DOk b q d) (hb:b≤1000000):Ctr Tryz.prog 30 [quV q,dcV d] (R.one (V.one (Leaf.val (.bool true)))):=by
 refine bd_ Tryz.func30 Tryz.ntmps30 rfl (fun w0 A0=>?_)
 refine zc 10 rfl (tc_ fn50 rfl (qvalid_r q hq) (zl 3 rfl (tc_ fn74 rfl (fits_r q d hd hb) (zl 4 rfl ?_))))
 exact r1_ hq_ rfl rfl
end Go.Proofs.YtmpkandbccallaaGreatDoor
set_option linter.unusedSimpArgs false
set_option linter.unusedVariables false
namespace Go.Proofs.YtmpkandbccallaaGreatDoor
open Go Go.RowKit Rc
set_option maxRecDepth 10000 in
theorem one_r (r:Rw):Ctr Tryz.prog 168 [rwV r] (R.one (V.one (El.row muE (one1 r)))):=by
 refine bd_ Tryz.func168 Tryz.ntmps168 rfl (fun w0 A0=>?_)
 refine zc 7 rfl (dr_ 0 [] [] (dz 1 rfl (kc_ fn36 rfl (rqof 1 (by decide) (by decide)) (dz 1 rfl (ke_ rfl (fun _=>Je_buildSlice rfl un44 ty105 tz105 rfl (by decide) (by decide) rfl (by decide) rfl) (dz 1 rfl (DK_nil (za 1 rfl ?_))))))))
 exact r1_ hq_ rfl rfl
set_option maxRecDepth 10000 in
theorem one_f (r:Rw):Ctr Tryz.prog 168 [rwV r] (R.one (V.one (Leaf.rep (sliceFull 1 (muE.all (one1 r)))))):=by
 refine bd_ Tryz.func168 Tryz.ntmps168 rfl (fun w0 A0=>?_)
 refine zc 7 rfl (dr_ 0 [] [] (dz 1 rfl (kc_ fn36 rfl (rqof 1 (by decide) (by decide)) (dz 1 rfl (ke_ rfl (fun _=>Je_buildFull rfl un44 ty105 tz105 rfl (by decide) (by decide) rfl (by decide) rfl) (dz 1 rfl (DK_nil (za 1 rfl ?_))))))))
 exact r1_ hq_ rfl rfl
set_option maxRecDepth 10000 in
theorem dec_r (s:Sc) (hs:SB 40001 s) (k:Nat) (j:Int):Ctr Tryz.prog 203 [scV s,V.one (Leaf.val (.int .i64 ((k:Int)))),V.one (Leaf.val (.int .i64 (j)))] (R.one (V.one (Leaf.val (.bool (decM s.path k j))))):=by
 refine bd_ Tryz.func203 Tryz.ntmps203 rfl (fun w0 A0=>?_)
 have hB:=hs.B;have hq:=hs.q;have hd:=hs.d;have hpl:=hs.pl;have hl:=hs.ll
 have hg:=hq.g;have hr:=hq.r;have hlo:=hr.lo;have hhi:=hr.hi
 have h1:=hg.i1;have h2:=hg.i3;have h3:=hg.u4;have h4:=hg.o1;have h5:=hg.o3
 refine zc 13 rfl (lpR_ (fun m Γ H=>∃ (i:Nat),s.path.length - i = m∧Γ = [(1,some (D.val (.int .i64 ((k:Nat):Int)))),(2,some (D.val (.int .i64 j))),(3,some (D.ptr 0 0)),(7,some (D.val (.int .i64 ((i:Nat):Int))))]∧H = [hb_ 42 (scL s)]∧i≤s.path.length∧decN s.path k j i = false) ⟨0,rfl,rfl,rfl,Nat.zero_le _,rfl⟩ rfl ?_)
 rintro m Γ H ⟨i,rfl,rfl,rfl,hi0,hno⟩
 refine zc 6 rfl (tq_ rfl (jln rfl) ?_)
 by_cases hi:i < s.path.length
 ·refine tq_ rfl (ltT rfl) (zl 8 rfl ?_)
  obtain ⟨x,hx⟩:∃ x,s.path[i]? = some x:=⟨_,List.getElem?_eq_getElem hi⟩
  have hxd:=hd x (List.mem_of_getElem? hx)
  refine dr_ 0 [] [] (dz 3 rfl (kq_ rfl (jix i hx rfl) (kq_ rfl (jfr rfl) (kq_ rfl (jli rfl) (dz 3 rfl ?_)))))
  refine ktw_ rfl (fun hk1=>?_) (fun hk1=>?_)
  ·refine dz 19 rfl (DK_nil (za 7 rfl (tq_ rfl (jad (i + 1) rfl) (zl 2 rfl ?_))))
   exact nx_ ⟨i + 1,rfl,rfl,rfl,hi,by rw [decN_succ hx,hno,hk1];rfl⟩ rfl
  ·refine dz 3 rfl (kq_ rfl (jix i hx rfl) (kq_ rfl (jfr rfl) (kq_ rfl (jli rfl) (dz 4 rfl ?_))))
   refine ktw_ rfl (fun hk2=>?_) (fun hk2=>?_)
   ·refine dz 9 rfl (DK_nil (za 7 rfl (tq_ rfl (jad (i + 1) rfl) (zl 2 rfl ?_))))
    exact nx_ ⟨i + 1,rfl,rfl,rfl,hi,by rw [decN_succ hx,hno,hk1,hk2];rfl⟩ rfl
   ·refine dz 5 rfl (kq_ rfl (jix i hx rfl) (kq_ rfl (jlr rfl) (kc_ fn30 rfl (fits_okY s.q hq x hxd (by omega)) (dz 1 rfl (DK_nil (za 7 rfl ?_))))))
    exact r1_ hq_ rfl (by rw [decM_t hx hk1 hk2])
 ·refine tq_ rfl (ltF rfl) (zl 13 rfl ?_)
  exact r1_ hq_ rfl (by rw [← decM_end,← show i = s.path.length by omega,hno])
set_option maxRecDepth 10000 in
theorem off_r (s:Sc) (hs:SB 40001 s) (j:Nat) (hj:j < s.q.g.us.length):Ctr Tryz.prog 169 [scV s,V.one (Leaf.val (.int .i64 ((j:Int))))] (R.tup [rwV (offRow s j),V.one (Leaf.val (.bool (hiOff s j)))]):=by
 refine bd_ Tryz.func169 Tryz.ntmps169 rfl (fun w0 A0=>?_)
 have hB:=hs.B;have hq:=hs.q;have hd:=hs.d;have hpl:=hs.pl;have hl:=hs.ll
 have hg:=hq.g;have hr:=hq.r;have hlo:=hr.lo;have hhi:=hr.hi
 have h1:=hg.i1;have h2:=hg.i3;have h3:=hg.u4;have h4:=hg.o1;have h5:=hg.o3
 refine zc 11 rfl (tc_ fn32 rfl (best_r s (by assumption) (by omega) (by omega) ((j:Nat):Int)) (zl 12 rfl (tc_ fn203 rfl (dec_r s (by assumption) 2 ((j:Nat):Int)) (zl 2 rfl ?_))))
 refine Tc_cond rfl (fun hd1=>?_) (fun hd1=>?_)
 ·refine zc 8 rfl ?_
  exact r2_ hq_ rfl (by rw [offRow_t hd1,show hiOff s j = true from by simp [hiOff,hd1]])
 ·refine zc 8 rfl ?_
  by_cases h1:(best s.lems ((j:Nat):Int)).2≠0
  ·refine tq_ rfl (gtT rfl) (zl 1 rfl ?_)
   obtain ⟨z,hz,_,_,hlz,hz0,hzl⟩:=best_hi h1
   haveI:=hB z (List.mem_of_getElem? hz)
   refine zl 3 rfl (tq_ rfl (jsb (((best s.lems ((j:Nat):Int)).2) - 1) rfl) (tq_ rfl (jix ((best s.lems ((j:Nat):Int)).2 - 1) hz rfl) (tq_ rfl (jft rfl) (tq_ rfl (jlr rfl) (tc_ fn37 rfl (rqsign z.v (z.v.q) rfl (Fq.use (x:=z.v) (by omega))) ?_)))))
   by_cases h2:z.v.q≤0
   ·refine tq_ rfl (leT rfl (sg_le.2 h2)) (zl 5 rfl ?_)
    exact r2_ hq_ rfl (by rw [offRow_f hd1,show hiOff s j = true from by simp [hiOff,hd1,h1,hlz,h2]])
   ·refine tq_ rfl (leF rfl (fun e=>h2 (sg_le.1 e))) (zl 5 rfl ?_)
    exact r2_ hq_ rfl (by rw [offRow_f hd1,show hiOff s j = false from by simp [hiOff,hd1,h1,hlz,h2]])
  ·refine tq_ rfl (gtF rfl) (zl 15 rfl ?_)
   exact r2_ hq_ rfl (by rw [offRow_f hd1,show hiOff s j = false from by simp [hiOff,hd1,h1]])
set_option maxRecDepth 10000 in
theorem on_r (s:Sc) (hs:SB 40001 s) (j:Nat) (hj:j < s.q.g.us.length):Ctr Tryz.prog 170 [scV s,V.one (Leaf.val (.int .i64 ((j:Int))))] (R.tup [rwV (onRow s j),V.one (Leaf.val (.bool (hiOn s j)))]):=by
 refine bd_ Tryz.func170 Tryz.ntmps170 rfl (fun w0 A0=>?_)
 have hB:=hs.B;have hq:=hs.q;have hd:=hs.d;have hpl:=hs.pl;have hl:=hs.ll
 have hg:=hq.g;have hr:=hq.r;have hlo:=hr.lo;have hhi:=hr.hi
 have h1:=hg.i1;have h2:=hg.i3;have h3:=hg.u4;have h4:=hg.o1;have h5:=hg.o3
 refine zc 11 rfl (tc_ fn32 rfl (best_r s (by assumption) (by omega) (by omega) ((j:Nat):Int)) (zl 12 rfl (tc_ fn203 rfl (dec_r s (by assumption) 1 ((j:Nat):Int)) (zl 2 rfl ?_))))
 refine Tc_cond rfl (fun hd1=>?_) (fun hd1=>?_)
 ·refine zc 8 rfl ?_
  exact r2_ hq_ rfl (by rw [onRow_t hd1,show hiOn s j = true from by simp [hiOn,hd1]])
 ·refine zc 8 rfl ?_
  by_cases h1:(best s.lems ((j:Nat):Int)).1≠0
  ·refine tq_ rfl (gtT rfl) (zl 1 rfl ?_)
   obtain ⟨y,hy,_,_,hly,hy0,hyl⟩:=best_lo h1
   haveI:=hB y (List.mem_of_getElem? hy)
   refine zl 3 rfl (tq_ rfl (jsb (((best s.lems ((j:Nat):Int)).1) - 1) rfl) (tq_ rfl (jix ((best s.lems ((j:Nat):Int)).1 - 1) hy rfl) (tq_ rfl (jft rfl) (tq_ rfl (jlr rfl) (tc_ fn37 rfl (rqsign y.v (y.v.q) rfl (Fq.use (x:=y.v) (by omega))) ?_)))))
   by_cases h2:0≤y.v.q
   ·refine tq_ rfl (geT rfl (sg_ge.2 h2)) (zl 5 rfl ?_)
    exact r2_ hq_ rfl (by rw [onRow_f hd1,show hiOn s j = true from by simp [hiOn,hd1,h1,hly,h2]])
   ·refine tq_ rfl (geF rfl (fun e=>h2 (sg_ge.1 e))) (zl 5 rfl ?_)
    exact r2_ hq_ rfl (by rw [onRow_f hd1,show hiOn s j = false from by simp [hiOn,hd1,h1,hly,h2]])
  ·refine tq_ rfl (gtF rfl) (zl 15 rfl ?_)
   exact r2_ hq_ rfl (by rw [onRow_f hd1,show hiOn s j = false from by simp [hiOn,hd1,h1]])
set_option maxRecDepth 10000 in
theorem least_r (s:Sc) (hs:SB 40001 s) (j:Nat) (hj:j < s.q.g.us.length):Ctr Tryz.prog 113 [scV s,V.one (Leaf.val (.int .i64 ((j:Int))))] (R.one (bdV (lowM s j).1.q (lowM s j).2 true)):=by
 refine bd_ Tryz.func113 Tryz.ntmps113 rfl (fun w0 A0=>?_)
 have hB:=hs.B;have hq:=hs.q;have hd:=hs.d;have hpl:=hs.pl;have hl:=hs.ll
 have hg:=hq.g;have hr:=hq.r;have hlo:=hr.lo;have hhi:=hr.hi
 have h1:=hg.i1;have h2:=hg.i3;have h3:=hg.u4;have h4:=hg.o1;have h5:=hg.o3
 refine zc 10 rfl (tc_ fn32 rfl (best_r s (by assumption) (by omega) (by omega) ((j:Nat):Int)) (zl 9 rfl ?_))
 refine nz_ [so 1 (D.val (.int .i64 ((j:Nat):Int))),so 2 (D.ptr 0 0),so 4 (D.ptr 1 0),so 5 (D.val (.int .i64 (((best s.lems ((j:Nat):Int)).1:Nat):Int)))] [hb_ 42 (scL s),hb_ 111 [Leaf.val (.bool false),natL ([]),natL ([]),El.row muE ([]),Leaf.val (.bool false)]] rfl rfl (zc 2 rfl ?_)
 by_cases h1:(best s.lems ((j:Nat):Int)).1 = 0
 ·refine tq_ rfl (eqT rfl) (zl 15 rfl (nf_ [0] [so 1 _,so 4 _] [none,_] rfl rfl rfl (zc 2 rfl (eq_ (D.agg (qL 0)) rfl (ratZ) (zl 2 rfl (tc_ fn168 rfl (one_r ⟨5,((j:Nat):Int),0,0⟩) (zl 4 rfl ?_)))))))
  exact r1_ hq_ rfl (by rw [lowM_f (fun e=>e.1 h1)];show R.one (bdV 0 _ _) = R.one (bdV qZero.q _ _);rw [qZero_q])
 ·refine tq_ rfl (eqF rfl) (zl 1 rfl ?_)
  obtain ⟨y,hy,_,_,hly,hy0,hyl⟩:=best_lo h1
  haveI:=hB y (List.mem_of_getElem? hy)
  refine zl 3 rfl (tq_ rfl (jsb (((best s.lems ((j:Nat):Int)).1) - 1) rfl) (tq_ rfl (jix ((best s.lems ((j:Nat):Int)).1 - 1) hy rfl) (tq_ rfl (jft rfl) (tq_ rfl (jlr rfl) (tc_ fn37 rfl (rqsign y.v (y.v.q) rfl (Fq.use (x:=y.v) (by omega))) ?_)))))
  by_cases h2:y.v.q≤0
  ·refine tq_ rfl (leT rfl (sg_le.2 h2)) (zl 5 rfl (nf_ [0] [so 1 _,so 4 _] [none,_] rfl rfl rfl (zc 2 rfl (eq_ (D.agg (qL 0)) rfl (ratZ) (zl 2 rfl (tc_ fn168 rfl (one_r ⟨5,((j:Nat):Int),0,0⟩) (zl 4 rfl ?_)))))))
   exact r1_ hq_ rfl (by rw [lowM_f (fun e=>by rw [hly] at e;grind)];show R.one (bdV 0 _ _) = R.one (bdV qZero.q _ _);rw [qZero_q])
  ·refine tq_ rfl (leF rfl (fun e=>h2 (sg_le.1 e))) (zl 7 rfl (nz_ [so 1 _,so 2 _,so 4 _,so 5 _] [_,_] rfl rfl (zc 3 rfl (tc_ fn168 rfl (one_f ⟨6,(j:Int),0,0⟩) (zl 3 rfl (tc_ fn168 rfl (one_r ⟨11,(j:Int),((best s.lems ((j:Nat):Int)).1:Int),0⟩) ?_))))))
   obtain ⟨ti3,hi3,hz3,hs3,hb3⟩:=in105
   refine te_ rfl (Je_appendFull rfl rfl rfl rfl rfl (by decide) Nat.zero_lt_one un44 un44 hi3 hz3 hs3 rfl (by show 1 + 1≤maxLen;decide) (by show (1 + 1) * _≤_;rw [hb3];omega) (nm:=2) rfl (ls:=(muE.all [⟨⟨6,(j:Int),0,0⟩,qOf ((1:Int):Rat)⟩,⟨⟨11,(j:Int),((best s.lems ((j:Nat):Int)).1:Int),0⟩,qOf ((1:Int):Rat)⟩])) rfl _) (zl 8 rfl ?_)
   refine tq_ rfl (jsb (((best s.lems ((j:Nat):Int)).1) - 1) rfl) (tq_ rfl (jix ((best s.lems ((j:Nat):Int)).1 - 1) hy rfl) (tq_ rfl (jft rfl) (tq_ rfl (jlr rfl) (tc_ fn57 rfl (rqcanon y.v (y.v.q) rfl (Fq.use (x:=y.v) (by omega))) (zl 5 rfl ?_)))))
   exact r1_ hq_ rfl (by rw [lowM_t ⟨h1,by rw [hly];grind⟩,lvr_get hy] <;> rfl)
set_option maxRecDepth 10000 in
set_option maxHeartbeats 2000000 in
theorem most_r (s:Sc) (hs:SB 40001 s) (j:Nat) (hj:j < s.q.g.us.length):Ctr Tryz.prog 112 [scV s,V.one (Leaf.val (.int .i64 ((j:Int))))] (R.one (bdV (highP s j).1.q (highP s j).2.1 (highP s j).2.2)):=by
 refine bd_ Tryz.func112 Tryz.ntmps112 rfl (fun w0 A0=>?_)
 have hB:=hs.B;have hq:=hs.q;have hd:=hs.d;have hpl:=hs.pl;have hl:=hs.ll
 have hg:=hq.g;have hr:=hq.r;have hlo:=hr.lo;have hhi:=hr.hi
 have h1:=hg.i1;have h2:=hg.i3;have h3:=hg.u4;have h4:=hg.o1;have h5:=hg.o3
 refine zc 10 rfl (tc_ fn169 rfl (off_r s (by assumption) j (by omega)) (zl 10 rfl (nz_ [so 1 _,so 2 _,so 4 _,so 5 (D.ptr 2 0),so 6 (D.bool (hiOff s j))] [_,_,hb_ 103 [Leaf.val (.int .i64 ((offRow s j).kind)),Leaf.val (.int .i64 ((offRow s j).idx)),Leaf.val (.int .i64 ((offRow s j).lo)),Leaf.val (.int .i64 ((offRow s j).hi))]] rfl rfl (zc 4 rfl ?_))))
 refine Tc_cond rfl (fun hof=>?_) (fun hof=>?_)
 ·refine zc 3 rfl (eq_ (D.agg (qL 0)) rfl (ratZ) (zl 1 rfl (tc_ fn168 rfl (one_r (offRow s j)) (zl 4 rfl ?_))))
  exact r1_ hq_ rfl (by rw [highP_some (highM_off hof)];show R.one (bdV 0 _ _) = R.one (bdV qZero.q _ _);rw [qZero_q])
 ·refine zc 6 rfl (tc_ fn32 rfl (best_r s (by assumption) (by omega) (by omega) ((j:Nat):Int)) (zl 8 rfl (nz_ [so 1 _,so 2 _,so 4 _,so 5 _,so 7 (D.val (.int .i64 (((best s.lems ((j:Nat):Int)).1:Nat):Int))),so 8 (D.val (.int .i64 (((best s.lems ((j:Nat):Int)).2:Nat):Int)))] [_,_,_] rfl rfl (zc 3 rfl (tc_ fn170 rfl (on_r s (by assumption) j (by omega)) ?_)))))
  refine zl 9 rfl (nz_ [so 1 _,so 2 _,so 4 _,so 5 _,so 7 _,so 8 _,so 9 (D.bool (hiOn s j))] [_,_,hb_ 103 [Leaf.val (.int .i64 ((onRow s j).kind)),Leaf.val (.int .i64 ((onRow s j).idx)),Leaf.val (.int .i64 ((onRow s j).lo)),Leaf.val (.int .i64 ((onRow s j).hi))]] rfl rfl (zc 2 rfl ?_))
  by_cases hh:(best s.lems ((j:Nat):Int)).2 = 0
  ·refine tq_ rfl (eqT rfl) (zl 12 rfl (nf_ [0,2] [so 4 _] [none,_,none] rfl rfl rfl (zc 2 rfl (eq_ (D.agg (bdL 0 [] false)) rfl (bdZ) (zl 3 rfl ?_)))))
   exact r1_ hq_ rfl (by rw [highP_none (highM_n1 hof hh)];show R.one (bdV 0 _ _) = R.one (bdV qZero.q _ _);rw [qZero_q])
  ·refine tq_ rfl (eqF rfl) ?_
   obtain ⟨z,hz,_,_,hlz,hz0,hzl⟩:=best_hi hh
   haveI:=hB z (List.mem_of_getElem? hz)
   refine zl 4 rfl ?_
   refine two_ rfl (fun hon=>?_) (fun hon=>?_)
   ·have hon1:hiOn s j = true:=by simpa using hon
    refine zl 10 rfl (nz_ [so 1 _,so 2 _,so 4 _,so 5 _,so 7 _,so 8 _,so 9 _] [_,_,_] rfl rfl (zc 4 rfl (tq_ rfl (jsb (((best s.lems ((j:Nat):Int)).2) - 1) rfl) (tq_ rfl (jix ((best s.lems ((j:Nat):Int)).2 - 1) hz rfl) (tq_ rfl (jft rfl) (tq_ rfl (jlr rfl) (zl 5 rfl ?_)))))))
    refine nz_ [so 1 _,so 2 _,so 4 _,so 5 _,so 7 _,so 8 _,so 9 _,so 10 (D.ptr 3 0)] [_,_,_,hb_ 27 [Leaf.val (.bool z.v.neg),natL z.v.n,natL z.v.d]] rfl rfl (zc 14 rfl ?_)
    refine Tc_cond rfl (fun hon2=>?_) (fun hon2=>?_)
    ·refine zc 1 rfl (dr_ 0 [(8,1)] [1] (dz 1 rfl (kc_ fn57 rfl (rqcanon z.v (z.v.q) rfl (Fq.use (x:=z.v) (by omega))) (dz 1 rfl (kc_ fn168 rfl (one_f (onRow s j)) (dz 1 rfl (kc_ fn168 rfl (one_r ⟨12,(j:Int),0,((best s.lems ((j:Nat):Int)).2:Int)⟩) ?_)))))))
     obtain ⟨ti2,hi2,hz2,hs2,hb2⟩:=in105
     refine ke_ rfl (fun _=>Je_appendFull rfl rfl rfl rfl rfl (by decide) Nat.zero_lt_one un44 un44 hi2 hz2 hs2 rfl (by show 1 + 1≤maxLen;decide) (by show (1 + 1) * _≤_;rw [hb2];omega) (nm:=2) rfl (ls:=(muE.all [⟨(onRow s j),qOf ((1:Int):Rat)⟩,⟨⟨12,(j:Int),0,((best s.lems ((j:Nat):Int)).2:Int)⟩,qOf ((1:Int):Rat)⟩])) rfl _) (dz 2 rfl (DK_nil (za 1 rfl ?_)))
     exact r1_ hq_ rfl (by rw [highP_some (highM_on hof hh hon1),lvr_get hz] <;> rfl)
    ·rw [hon1] at hon2;cases hon2
   ·have hnon:hiOn s j = false:=by simpa using hon
    refine zl 1 rfl ?_
    by_cases hl0:(best s.lems ((j:Nat):Int)).1 = 0
    ·refine tq_ rfl (eqT rfl) (zl 6 rfl (nf_ [0,2] [so 4 _] [none,_,none] rfl rfl rfl (zc 2 rfl (eq_ (D.agg (bdL 0 [] false)) rfl (bdZ) (zl 3 rfl ?_)))))
     exact r1_ hq_ rfl (by rw [highP_none (highM_n2 hof hh hnon hl0)];show R.one (bdV 0 _ _) = R.one (bdV qZero.q _ _);rw [qZero_q])
    ·refine tq_ rfl (eqF rfl) (zl 12 rfl (tq_ rfl (jsb (((best s.lems ((j:Nat):Int)).2) - 1) rfl) (tq_ rfl (jix ((best s.lems ((j:Nat):Int)).2 - 1) hz rfl) (tq_ rfl (jft rfl) (tq_ rfl (jlr rfl) (zl 5 rfl (nz_ [so 1 _,so 2 _,so 4 _,so 5 _,so 7 _,so 8 _,so 9 _,so 10 (D.ptr 3 0)] [_,_,_,hb_ 27 [Leaf.val (.bool z.v.neg),natL z.v.n,natL z.v.d]] rfl rfl (zc 14 rfl ?_))))))))
     refine Tc_cond rfl (fun hon2=>?_) (fun hon2=>?_)
     ·rw [hnon] at hon2;cases hon2
     ·refine zc 3 rfl ?_
      obtain ⟨y,hy,_,_,hly,hy0,hyl⟩:=best_lo hl0
      haveI:=hB y (List.mem_of_getElem? hy)
      have hne:z.v.q - y.v.q≠0:=by have:=tri_ne hof hh hnon hl0;rwa [lvr_get hz,lvr_get hy] at this
      refine dr_ 1 [(14,5),(15,5)] [5] (kc_ fn36 rfl (rqof 1 (by decide) (by decide)) (dz 4 rfl (kq_ rfl (jsb (((best s.lems ((j:Nat):Int)).1) - 1) rfl) (kq_ rfl (jix ((best s.lems ((j:Nat):Int)).1 - 1) hy rfl) (kq_ rfl (jft rfl) (kq_ rfl (jlr rfl) (kc_ fn66 rfl (rqsub z.v (z.v.q) rfl (Fq.use (x:=z.v) (by omega)) y.v (y.v.q) rfl (Fq.use (x:=y.v) (by omega))) ?_)))))))
      refine kc_ fn171 rfl (rqdiv (qOf (((1:Int):Rat))) (((1:Int):Rat)) (qOf_q _) (Br.use (by omega)) (qOf ((z.v.q) - (y.v.q))) ((z.v.q) - (y.v.q)) (qOf_q _) (Br.use (by omega)) (by assumption)) (dz 6 rfl (DK_nil (za 2 rfl ?_)))
      refine nf_ [0,2] [so 1 _,so 4 _,so 7 _,so 8 _,so 10 _,so 11 (D.ptr 4 0),so 12 (D.ptr 5 0)] [none,_,none,_,hb_ 103 [Leaf.val (.int .i64 12),Leaf.val (.int .i64 ((j:Nat):Int)),Leaf.val (.int .i64 0),Leaf.val (.int .i64 (((best s.lems ((j:Nat):Int)).2:Nat):Int))],hb_ 27 (qL ((((1:Int):Rat)) / ((z.v.q) - (y.v.q))))] rfl rfl rfl (zc 10 rfl ?_)
      refine dr_ 0 [(12,1)] [1] (dz 1 rfl (kc_ fn57 rfl (rqcanon z.v (z.v.q) rfl (Fq.use (x:=z.v) (by omega))) (dz 3 rfl (kc_ fn55 rfl (rqmul (qOf ((((1:Int):Rat)) / ((z.v.q) - (y.v.q)))) ((((1:Int):Rat)) / ((z.v.q) - (y.v.q))) (qOf_q _) (Br.use (by omega)) z.v (z.v.q) rfl (Fq.use (x:=z.v) (by omega))) (dz 4 rfl ?_)))))
      refine ke_ rfl (fun _=>Je_buildSlice rfl un44 ty105 tz105 rfl (by decide) (by decide) rfl (by decide) rfl) (dz 2 rfl (DK_nil (za 1 rfl ?_)))
      exact r1_ hq_ rfl (by rw [highP_some (highM_tri hof hh hnon hl0),lvr_get hz,lvr_get hy,Rat.mul_comm] <;> rfl)
set_option maxRecDepth 10000 in
theorem inputr (s:Sc) (hs:SB 40001 s) (i:Nat) (hi:i < s.q.g.inp) (up:Bool):Ctr Tryz.prog 111 [scV s,V.one (Leaf.val (.int .i64 ((i:Int)))),V.one (Leaf.val (.bool up))] (R.one (bdV (inpM s i up).1 (one1 (inpM s i up).2) true)):=by
 refine bd_ Tryz.func111 Tryz.ntmps111 rfl (fun w0 A0=>?_)
 have hB:=hs.B;have hq:=hs.q;have hd:=hs.d;have hpl:=hs.pl;have hl:=hs.ll
 have hg:=hq.g;have hr:=hq.r;have hlo:=hr.lo;have hhi:=hr.hi
 have h1:=hg.i1;have h2:=hg.i3;have h3:=hg.u4;have h4:=hg.o1;have h5:=hg.o3
 obtain ⟨a0,ha0⟩:∃ a,s.q.r.lo[i]? = some a:=⟨_,List.getElem?_eq_getElem (by omega)⟩
 obtain ⟨c0,hc0⟩:∃ a,s.q.r.hi[i]? = some a:=⟨_,List.getElem?_eq_getElem (by omega)⟩
 have ha:s.q.r.lo[i]? = some ((s.q.r.lo[i]?).getD 0):=by rw [ha0];rfl
 have hc_:s.q.r.hi[i]? = some ((s.q.r.hi[i]?).getD 0):=by rw [hc0];rfl
 refine zc 16 rfl (dr_ 1 [(9,3),(10,3)] [3] (dz 3 rfl (kq_ rfl (jix i ha rfl) (kq_ rfl (jlr rfl) (dz 2 rfl (kc_ fn168 rfl (one_r ⟨1,((i:Nat):Int),0,0⟩) (dz 3 rfl (DK_nil (za 2 rfl ?_)))))))))
 refine nz_ [so 1 (D.val (.int .i64 ((i:Nat):Int))),so 2 (D.bool up),so 3 (D.ptr 0 0),so 6 (D.ptr 1 0),so 7 (D.ptr 2 0),so 8 (D.ptr 3 0)] [hb_ 42 (scL s),_,hb_ 36 [El.row ratE s.q.r.lo,El.row ratE s.q.r.hi,El.row afE s.q.r.rows],hb_ 111 [Leaf.val (.bool (cneg ((s.q.r.lo[i]?).getD 0))),natL (limbs (cnum ((s.q.r.lo[i]?).getD 0))),natL (limbs (cden ((s.q.r.lo[i]?).getD 0))),El.row muE (one1 ⟨1,((i:Nat):Int),0,0⟩),Leaf.val (.bool true)]] rfl rfl ?_
 refine zc 5 rfl ?_
 refine mt_ [so 1 (D.val (.int .i64 ((i:Nat):Int))),so 3 (D.ptr 0 0),so 6 (D.ptr 1 0),so 8 (D.ptr 3 0),so 9 (D.val (.int .i64 (((if up = true then 4 else 3):Nat):Int))),so 10 (D.val (.int .i64 (if up = true then (-1:Int) else 1)))] [hb_ 42 (scL s),hb_ 111 [Leaf.val (.bool false),natL ([]),natL ([]),El.row muE ([]),Leaf.val (.bool false)],none,hb_ 111 [Leaf.val (.bool (cneg ((inp0 s i up).1))),natL (limbs (cnum ((inp0 s i up).1))),natL (limbs (cden ((inp0 s i up).1))),El.row muE (one1 (inp0 s i up).2),Leaf.val (.bool true)]] ?_ ?_
 ·refine zc 5 rfl ?_
  refine Tc_cond rfl (fun hup=>?_) (fun hup=>?_)
  ·subst hup
   refine zc 1 rfl (dr_ 0 [(9,3)] [3] (dz 3 rfl (kq_ rfl (jix i hc_ rfl) (kq_ rfl (jlr rfl) (dz 2 rfl (kc_ fn168 rfl (one_r ⟨2,((i:Nat):Int),0,0⟩) (dz 2 rfl (DK_nil (za 1 rfl ?_)))))))))
   refine nf_ [2] [so 1 _,so 3 _,so 6 _,so 8 _] [_,_,none,hb_ 111 [Leaf.val (.bool (cneg ((s.q.r.hi[i]?).getD 0))),natL (limbs (cnum ((s.q.r.hi[i]?).getD 0))),natL (limbs (cden ((s.q.r.hi[i]?).getD 0))),El.row muE (one1 ⟨2,((i:Nat):Int),0,0⟩),Leaf.val (.bool true)]] rfl rfl rfl (zc 4 rfl ?_)
   exact mx_ rfl
  ·subst hup
   refine zc 1 rfl (At_free 2 ?_)
   exact mx_ rfl
 ·refine zc 7 rfl ?_
  refine lpR_ (fun m Γ H=>∃ (n:Nat) (b:Rat × Rw),s.path.length - n = m∧Γ = [(1,some (D.val (.int .i64 ((i:Nat):Int)))),(3,some (D.ptr 0 0)),(6,some (D.ptr 1 0)),(8,some (D.ptr 3 0)),(9,some (D.val (.int .i64 (((if up = true then 4 else 3):Nat):Int)))),(10,some (D.val (.int .i64 (if up = true then (-1:Int) else 1)))),(11,some (D.val (.int .i64 ((n:Nat):Int))))]∧H = [hb_ 42 (scL s),hb_ 111 [Leaf.val (.bool false),natL ([]),natL ([]),El.row muE ([]),Leaf.val (.bool false)],none,hb_ 111 [Leaf.val (.bool (cneg b.1)),natL (limbs (cnum b.1)),natL (limbs (cden b.1)),El.row muE (one1 b.2),Leaf.val (.bool true)]]∧n≤s.path.length∧b = inpN s i up n) ⟨0,inp0 s i up,rfl,rfl,rfl,Nat.zero_le _,rfl⟩ rfl ?_
  rintro m Γ H ⟨n,b,rfl,rfl,rfl,hn0,hb⟩
  refine zc 6 rfl (tq_ rfl (jln rfl) ?_)
  by_cases hn:n < s.path.length
  ·refine tq_ rfl (ltT rfl) (zl 8 rfl ?_)
   obtain ⟨d,hdx⟩:∃ d,s.path[n]? = some d:=⟨_,List.getElem?_eq_getElem hn⟩
   have hdo:=hd d (List.mem_of_getElem? hdx)
   haveI:=hdo.2.br
   haveI hbb:Br b.1 201:=by rw [hb];exact inpN_hb hs hi up (by omega)
   obtain ⟨hg1,hg2⟩:=inp_rg (up:=up) (a:=d.pt) (b:=b.1)
   refine zc 4 rfl (tq_ rfl (jix n hdx rfl) (tq_ rfl (jlr rfl) (zl 5 rfl ?_)))
   refine nz_ [so 1 (D.val (.int .i64 ((i:Nat):Int))),so 3 (D.ptr 0 0),so 6 (D.ptr 1 0),so 8 (D.ptr 3 0),so 9 (D.val (.int .i64 (((if up = true then 4 else 3):Nat):Int))),so 10 (D.val (.int .i64 (if up = true then (-1:Int) else 1))),so 11 (D.val (.int .i64 ((n:Nat):Int))),so 12 (D.ptr 4 0)] [hb_ 42 (scL s),hb_ 111 [Leaf.val (.bool false),natL ([]),natL ([]),El.row muE ([]),Leaf.val (.bool false)],none,hb_ 111 [Leaf.val (.bool (cneg b.1)),natL (limbs (cnum b.1)),natL (limbs (cden b.1)),El.row muE (one1 b.2),Leaf.val (.bool true)],hb_ 78 [Leaf.val (.int .i64 ((d.kind:Nat):Int)),Leaf.val (.int .i64 ((d.idx:Nat):Int)),Leaf.val (.bool (cneg d.pt)),natL (limbs (cnum d.pt)),natL (limbs (cden d.pt))]] rfl rfl ?_
   refine zc 4 rfl ?_
   by_cases hk:d.kind = (if up = true then 4 else 3)
   ·refine tq_ rfl (eqT rfl (by rw [hk])) (zl 4 rfl ?_)
    by_cases hx:d.idx = i
    ·refine tq_ rfl (eqT rfl) (zl 5 rfl (tc_ fn30 rfl (fits_okY s.q hq d hdo (by omega)) (zl 7 rfl (tc_ fn26 rfl (rqcmp (qOf (d.pt)) (d.pt) (qOf_q _) (Br.use (by omega)) (qOf (b.1)) (b.1) (qOf_q _) (Br.use (by omega))) (tq_ rfl (Jq_mul rfl rfl rfl (r:=((if up = true then (-1:Int) else 1) * cmpq d.pt b.1)) (w64 rfl (by omega) (by omega))) ?_)))))
     by_cases hc:(if up = true then d.pt < b.1 else b.1 < d.pt)
     ·refine tq_ rfl (gtT rfl (inp_sg2.2 hc)) (zl 4 rfl (nz_ [so 1 _,so 3 _,so 6 _,so 8 _,so 9 _,so 10 _,so 11 _,so 12 _] [_,_,none,_,_] rfl rfl (dr_ 0 [(6,3)] [3] (dz 4 rfl (kc_ fn168 rfl (one_r ⟨4,((n:Nat):Int),0,0⟩) (dz 2 rfl (DK_nil (za 4 rfl (tq_ rfl (jad (n + 1) rfl) ?_)))))))))
      refine zl 2 rfl (At_free 4 (trim_ 4 rfl ?_))
      exact nx_ ⟨n + 1,(d.pt,⟨4,(n:Int),0,0⟩),rfl,rfl,rfl,hn,(by rw [hb] at hc;exact (inpN_t hdx ⟨hk,hx,hc⟩).symm)⟩ rfl
     ·refine tq_ rfl (gtF rfl (fun e=>hc (inp_sg2.1 e))) (zl 7 rfl (nf_ [4] [so 1 _,so 3 _,so 6 _,so 8 _,so 9 _,so 10 _,so 11 _] [_,_,none,_,none] rfl rfl rfl (zc 2 rfl (tq_ rfl (jad (n + 1) rfl) (zl 2 rfl (trim_ 4 rfl ?_))))))
      exact nx_ ⟨n + 1,b,rfl,rfl,rfl,hn,(by rw [hb];exact (inpN_f hdx (fun e=>hc (by rw [hb];exact e.2.2))).symm)⟩ rfl
    ·refine tq_ rfl (eqF rfl) (zl 23 rfl (nf_ [4] [so 1 _,so 3 _,so 6 _,so 8 _,so 9 _,so 10 _,so 11 _] [_,_,none,_,none] rfl rfl rfl (zc 2 rfl (tq_ rfl (jad (n + 1) rfl) (zl 2 rfl (trim_ 4 rfl ?_))))))
     exact nx_ ⟨n + 1,b,rfl,rfl,rfl,hn,(by rw [hb];exact (inpN_f hdx (fun e=>hx e.2.1)).symm)⟩ rfl
   ·refine tq_ rfl (eqF rfl (fun e=>hk (Int.ofNat_inj.1 e))) (zl 24 rfl (zc 4 rfl (nf_ [4] [so 1 _,so 3 _,so 6 _,so 8 _,so 9 _,so 10 _,so 11 _] [_,_,none,_,none] rfl rfl rfl (zc 2 rfl (tq_ rfl (jad (n + 1) rfl) (zl 2 rfl (trim_ 4 rfl ?_)))))))
    exact nx_ ⟨n + 1,b,rfl,rfl,rfl,hn,(by rw [hb];exact (inpN_f hdx (fun e=>hk e.1)).symm)⟩ rfl
  ·refine tq_ rfl (ltF rfl) (zl 9 rfl ?_)
   have hie:n = s.path.length:=by omega
   rw [hie] at hb
   refine zc 5 rfl ?_
   exact r1_ hq_ rfl (by unfold inpM;rw [← hb])
set_option maxRecDepth 10000 in
theorem of_r (s:Sc) (hs:SB 40001 s) (v:Nat) (hv:v < (s.q.g.inp + s.q.g.us.length)) (up:Bool):Ctr Tryz.prog 53 [scV s,V.one (Leaf.val (.int .i64 ((v:Int)))),V.one (Leaf.val (.bool up))] (R.one (bdV (bndP s v up).1.q (bndP s v up).2.1 (bndP s v up).2.2)):=by
 refine bd_ Tryz.func53 Tryz.ntmps53 rfl (fun w0 A0=>?_)
 have hB:=hs.B;have hq:=hs.q;have hd:=hs.d;have hpl:=hs.pl;have hl:=hs.ll
 have hg:=hq.g;have hr:=hq.r;have hlo:=hr.lo;have hhi:=hr.hi
 have h1:=hg.i1;have h2:=hg.i3;have h3:=hg.u4;have h4:=hg.o1;have h5:=hg.o3
 refine zc 21 rfl (tc_ fn50 rfl (qvalid_r s.q hq) (zl 3 rfl (tq_ rfl (ltF rfl) (zl 6 rfl (tc_ fn52 rfl (vars_r s.q.g (by assumption)) (tq_ rfl (geF rfl) (zl 9 rfl ?_)))))))
 by_cases hvi:v < s.q.g.inp
 ·refine tq_ rfl (ltT rfl) (zl 9 rfl (tc_ fn111 rfl (inputr s hs v hvi up) (zl 3 rfl ?_)))
  exact r1_ hq_ rfl (by rw [bndP_in hvi];show R.one (bdV (inpM s v up).1 _ _) = R.one (bdV (qOf (inpM s v up).1).q _ _);rw [qOf_q])
 ·refine tq_ rfl (ltF rfl) (zl 10 rfl ?_)
  refine Tc_cond rfl (fun hup=>?_) (fun hup=>?_)
  ·refine zc 5 rfl (tq_ rfl (jsb (v - s.q.g.inp) rfl) (tc_ fn112 rfl (most_r s (by assumption) (v - s.q.g.inp) (by omega)) (zl 3 rfl ?_)))
   exact r1_ hq_ rfl (by rw [hup,bndP_up hvi])
  ·refine zc 8 rfl (tq_ rfl (jsb (v - s.q.g.inp) rfl) (tc_ fn113 rfl (least_r s (by assumption) (v - s.q.g.inp) (by omega)) (zl 3 rfl ?_)))
   exact r1_ hq_ rfl (by rw [hup,bndP_lo hvi])
end Go.Proofs.YtmpkandbccallaaGreatDoor
set_option linter.unusedSimpArgs false
set_option linter.unusedVariables false
namespace Go.Proofs.YtmpkandbccallaaGreatDoor
open Go Go.RowKit Rc
set_option maxRecDepth 10000 in
set_option maxHeartbeats 2000000 in
theorem boxr (s:Sc) (hs:SB 40001 s) (f:Af) {b:Nat} (hf:FOk b (s.q.g.inp + s.q.g.us.length) f) (hb:b≤50000000):Ctr Tryz.prog 13 [scV s,afV f] (R.tup [qV (qOf (boxD s f).1),V.one (El.row muE (boxD s f).2.1),V.one (Leaf.val (.bool (boxD s f).2.2))]):=by
 refine bd_ Tryz.func13 Tryz.ntmps13 rfl (fun w0 A0=>?_)
 have hB:=hs.B;have hq:=hs.q;have hd:=hs.d;have hpl:=hs.pl;have hl:=hs.ll
 have hg:=hq.g;have hr:=hq.r;have hlo:=hr.lo;have hhi:=hr.hi
 have h1:=hg.i1;have h2:=hg.i3;have h3:=hg.u4;have h4:=hg.o1;have h5:=hg.o3
 have hfl:=hf.fl
 haveI:=hfl.fm (by omega);haveI:=hfl.cb
 have h7:=hfl.len7 hq
 refine zc 11 rfl (dr_ 0 [] [] (dz 2 rfl (kc_ fn50 rfl (qvalid_r s.q hq) (dz 6 rfl (kc_ fn52 rfl (vars_r s.q.g (by assumption)) (kc_ fn51 rfl (rvalid_ok f hf (by omega) (s.q.g.inp + s.q.g.us.length) (Nat.le_refl _) (by omega)) (dz 2 rfl (DK_nil (za 5 rfl ?_)))))))))
 refine nz_ [so 2 (D.ptr 0 0),so 3 (D.ptr 1 0),so 4 (D.ptr 2 0)] [hb_ 42 (scL s),hb_ 29 (afL f),hb_ 27 [Leaf.val (.bool false),natL ([]),natL ([])]] rfl rfl (zc 19 rfl ?_)
 refine lpR_ (fun m Γ H=>∃ (i:Nat) (x:Rat) (l:List Mu),f.ts.length - i = m∧Γ = [(2,some (D.ptr 0 0)),(3,some (D.ptr 1 0)),(4,some (D.ptr 2 0)),(7,some (D.ptr 3 0)),(8,some (D.v (V.one (El.row muE l)))),(9,some (D.val (.int .i64 ((i:Nat):Int))))]∧H = [hb_ 42 (scL s),hb_ 29 (afL f),hb_ 27 [Leaf.val (.bool false),natL ([]),natL ([])],hb_ 27 (qL x)]∧i≤f.ts.length∧boxN s f i = some (x,l)) ⟨0,f.c,[],rfl,rfl,rfl,Nat.zero_le _,rfl⟩ rfl ?_
 rintro m Γ H ⟨i,x,l,rfl,rfl,rfl,hi0,hR⟩
 refine zc 6 rfl (tq_ rfl (jln rfl) ?_)
 by_cases hi:i < f.ts.length
 ·refine tq_ rfl (ltT rfl) (zl 8 rfl ?_)
  obtain ⟨t,ht⟩:∃ t,f.ts[i]? = some t:=⟨_,List.getElem?_eq_getElem hi⟩
  have htm:=List.mem_of_getElem? ht
  have htv:=hf.var t htm
  haveI htb:Br t.2 (b + 1):=(hf.bd t htm).br
  have hbo:=box_ok hs hfl i (by omega) x _ hR
  have htl:(f.ts.take i).length≤7:=by rw [List.length_take];omega
  have hmul:=Nat.mul_le_mul_right (40001 + (b + 1) + 210) htl
  have hmul2:=Nat.mul_le_mul_right (8 * 40001 + 2 * (b + 1) + 40) htl
  haveI:Br x (b + 1 + 7 * (40001 + (b + 1) + 210)):=hbo.br.mono (by omega)
  have hlb:=hbo.der.bd
  have hll:=hbo.der.len
  refine nz_ [so 2 (D.ptr 0 0),so 3 (D.ptr 1 0),so 4 (D.ptr 2 0),so 7 (D.ptr 3 0),so 8 (D.v (V.one (El.row muE l))),so 9 (D.val (.int .i64 ((i:Nat):Int)))] [hb_ 42 (scL s),hb_ 29 (afL f),hb_ 27 [Leaf.val (.bool false),natL ([]),natL ([])],hb_ 27 (qL x)] rfl rfl (zc 4 rfl (tq_ rfl (jix i ht rfl) (tq_ rfl (jlr rfl) (zl 5 rfl (dr_ 1 [(8,5),(9,5)] [5] (dz 5 rfl ?_))))))
  refine kc_ fn37 rfl (rqsign (qOf (t.2)) (t.2) (qOf_q _) (Br.use (by omega))) (kq_ rfl (Jq_lss rfl rfl rfl (b:=(decide (t.2 < 0))) (decide_eq_decide.2 sg_lt)) (kc_ fn53 rfl (of_r s hs t.1 htv (decide (t.2 < 0))) (dz 2 rfl (DK_nil (za 3 rfl ?_)))))
  refine nz_ [so 2 _,so 3 _,so 4 _,so 7 _,so 8 _,so 9 _,so 10 (D.ptr 4 0),so 11 (D.ptr 5 0)] [_,_,_,_,hb_ 92 [Leaf.val (.int .i64 ((t.1:Nat):Int)),Leaf.val (.bool (cneg t.2)),natL (limbs (cnum t.2)),natL (limbs (cden t.2))],hb_ 111 [Leaf.val (.bool (cneg ((bndP s t.1 (decide (t.2 < 0))).1.q))),natL (limbs (cnum ((bndP s t.1 (decide (t.2 < 0))).1.q))),natL (limbs (cden ((bndP s t.1 (decide (t.2 < 0))).1.q))),El.row muE ((bndP s t.1 (decide (t.2 < 0))).2.1),Leaf.val (.bool ((bndP s t.1 (decide (t.2 < 0))).2.2))]] rfl rfl ?_
  refine zc 6 rfl ?_
  refine Tc_cond rfl (fun hok=>?_) (fun hok=>?_)
  ·refine zc 8 rfl ?_
   exact r3_ hq_ rfl (by rw [boxN_stop ht hR (by simpa using hok)];show _ = R.tup [qV (qOf 0),_,_];rw [← qV_zero] <;> rfl)
  ·refine zc 3 rfl ?_
   have hok1:(bndP s t.1 (decide (t.2 < 0))).2.2 = true:=by simpa using hok
   have hbk:=bnd_ok hs htv (bndP_t hok1)
   haveI:Br (bndP s t.1 (decide (t.2 < 0))).1.q 40202:=by haveI:=hbk.fq;exact (inferInstance:Fq (bndP s t.1 (decide (t.2 < 0))).1 _).br
   have hst:=hbk.step
   have hsl:=hst.len
   refine dr_ 0 [(7,3)] [3] (kp_ [] rfl (Jq_load_agg rfl rfl rfl (by decide) ty27 (by decide) (Nat.le_of_ble_eq_true rfl) rfl) (dz 4 rfl (kc_ fn55 rfl (rqmul (qOf (t.2)) (t.2) (qOf_q _) (Br.use (by omega)) (qOf ((bndP s t.1 (decide (t.2 < 0))).1.q)) ((bndP s t.1 (decide (t.2 < 0))).1.q) (qOf_q _) (Br.use (by omega))) ?_)))
   refine kc_ fn54 rfl (rqadd (qOf (x)) (x) (qOf_q _) (Br.use (by omega)) (qOf ((t.2) * ((bndP s t.1 (decide (t.2 < 0))).1.q))) ((t.2) * ((bndP s t.1 (decide (t.2 < 0))).1.q)) (qOf_q _) (Br.use (by omega))) (dz 1 rfl (DK_nil (za 2 rfl ?_)))
   refine nz_ [so 2 _,so 3 _,so 4 _,so 7 _,so 8 _,so 9 _,so 10 _,so 11 _] [_,_,_,hb_ 27 (qL ((x) + ((t.2) * ((bndP s t.1 (decide (t.2 < 0))).1.q)))),_,_] rfl rfl (zc 19 rfl (fr_ [4] rfl ?_))
   refine lpR_ (fun m Γ H=>∃ (k:Nat) (l2:List Mu),(bndP s t.1 (decide (t.2 < 0))).2.1.length - k = m∧Γ = [(2,some (D.ptr 0 0)),(3,some (D.ptr 1 0)),(4,some (D.ptr 2 0)),(7,some (D.ptr 3 0)),(8,some (D.v (V.one (El.row muE l2)))),(9,some (D.val (.int .i64 ((i:Nat):Int)))),(11,some (D.ptr 5 0)),(12,some (D.ptr 6 0)),(13,some (D.val (.int .i64 ((k:Nat):Int))))]∧H = [hb_ 42 (scL s),hb_ 29 (afL f),hb_ 27 [Leaf.val (.bool false),natL ([]),natL ([])],hb_ 27 (qL ((x) + ((t.2) * ((bndP s t.1 (decide (t.2 < 0))).1.q)))),none,hb_ 111 [Leaf.val (.bool (cneg ((bndP s t.1 (decide (t.2 < 0))).1.q))),natL (limbs (cnum ((bndP s t.1 (decide (t.2 < 0))).1.q))),natL (limbs (cden ((bndP s t.1 (decide (t.2 < 0))).1.q))),El.row muE ((bndP s t.1 (decide (t.2 < 0))).2.1),Leaf.val (.bool ((bndP s t.1 (decide (t.2 < 0))).2.2))],hb_ 27 [Leaf.val (.bool false),natL (limbs (cnum t.2)),natL (limbs (cden t.2))]]∧k≤(bndP s t.1 (decide (t.2 < 0))).2.1.length∧l2 = mergeM l ((bndP s t.1 (decide (t.2 < 0))).2.1.take k) (rq false (cnum t.2) (cden t.2))) ⟨0,l,rfl,rfl,rfl,Nat.zero_le _,rfl⟩ rfl ?_
   rintro m Γ H ⟨k,l2,rfl,rfl,rfl,hk0,hl2⟩
   refine zc 6 rfl (tq_ rfl (jln rfl) ?_)
   by_cases hk:k < (bndP s t.1 (decide (t.2 < 0))).2.1.length
   ·refine tq_ rfl (ltT rfl) (zl 7 rfl ?_)
    obtain ⟨y,hy⟩:∃ y,(bndP s t.1 (decide (t.2 < 0))).2.1[k]? = some y:=⟨_,List.getElem?_eq_getElem hk⟩
    haveI hyb:=hst.bd y (List.mem_of_getElem? hy)
    have hMB:MB (7 * (8 * 40001 + 2 * (b + 1) + 40) + 2 * (4 * 40001 + 12 + (b + 1 + 1) + 2)) l2:=by
     rw [hl2]
     refine (mergeM_bd (c:=rq false (cnum t.2) (cden t.2)) (D:=b + 1 + 1) hlb (fun m hm=>hst.bd m (List.mem_of_mem_take hm))).mono ?_
     have:=Nat.mul_le_mul_right (4 * 40001 + 12 + (b + 1 + 1) + 2) (show ((bndP s t.1 (decide (t.2 < 0))).2.1.take k).length≤2 by rw [List.length_take];omega)
     omega
    have hl2l:l2.length≤100:=by rw [hl2];refine Nat.le_trans (mergeM_len _ _ _) ?_;rw [List.length_take];omega
    refine nz_ [so 2 (D.ptr 0 0),so 3 (D.ptr 1 0),so 4 (D.ptr 2 0),so 7 (D.ptr 3 0),so 8 (D.v (V.one (El.row muE l2))),so 9 (D.val (.int .i64 ((i:Nat):Int))),so 11 (D.ptr 5 0),so 12 (D.ptr 6 0),so 13 (D.val (.int .i64 ((k:Nat):Int)))] [hb_ 42 (scL s),hb_ 29 (afL f),hb_ 27 [Leaf.val (.bool false),natL ([]),natL ([])],hb_ 27 (qL ((x) + ((t.2) * ((bndP s t.1 (decide (t.2 < 0))).1.q)))),none,hb_ 111 [Leaf.val (.bool (cneg ((bndP s t.1 (decide (t.2 < 0))).1.q))),natL (limbs (cnum ((bndP s t.1 (decide (t.2 < 0))).1.q))),natL (limbs (cden ((bndP s t.1 (decide (t.2 < 0))).1.q))),El.row muE ((bndP s t.1 (decide (t.2 < 0))).2.1),Leaf.val (.bool ((bndP s t.1 (decide (t.2 < 0))).2.2))],hb_ 27 [Leaf.val (.bool false),natL (limbs (cnum t.2)),natL (limbs (cden t.2))]] rfl rfl ?_
    refine dr_ 0 [] [] (dz 4 rfl (kq_ rfl (jix k hy rfl) (kq_ rfl (jft rfl) (kq_ rfl (jlr rfl) (dz 4 rfl (kq_ rfl (jix k hy rfl) (kq_ rfl (jfr rfl) (kq_ rfl (jlr rfl) ?_))))))))
    refine kc_ fn55 rfl (rqmul (Qr.mk false (limbs (cnum t.2)) (limbs (cden t.2)) (small_limbs _) (small_limbs _)) (rq false (cnum t.2) (cden t.2)) (qr_eq (val_limbs _) (val_limbs _)) (Fit.mk (Br.use (r:=t.2) (by omega)).n (Br.use (r:=t.2) (by omega)).d) y.c (y.c.q) rfl (Fq.use (x:=y.c) (by omega))) ?_
    refine kc_ fn56 rfl (plus_r l2 y.r ((rq false (cnum t.2) (cden t.2)) * (y.c.q)) (by assumption) (by omega) (by omega)) (dz 1 rfl (DK_nil (za 2 rfl (nz_ [so 2 _,so 3 _,so 4 _,so 7 _,so 8 (D.v (V.one (El.row muE (plusM l2 y.r ((rq false (cnum t.2) (cden t.2)) * (y.c.q)))))),so 9 _,so 11 _,so 12 _,so 13 _] [_,_,_,_,none,_,_] rfl rfl (zc 2 rfl (tq_ rfl (jad (k + 1) rfl) ?_))))))
    refine zl 2 rfl ?_
    exact nx_ ⟨k + 1,_,rfl,rfl,rfl,hk,(by rw [hl2,mergeM_take hy,Rat.mul_comm])⟩ rfl
   ·refine tq_ rfl (ltF rfl) (zl 9 rfl ?_)
    rw [show k = (bndP s t.1 (decide (t.2 < 0))).2.1.length by omega,List.take_length] at hl2
    refine zc 2 rfl (tq_ rfl (jad (i + 1) rfl) (zl 2 rfl (At_free 5 (At_free 6 (trim_ 4 rfl ?_)))))
    exact nx_ ⟨i + 1,_,_,rfl,rfl,rfl,hi,(by rw [hl2];exact boxN_step ht hR hok1)⟩ rfl
 ·refine tq_ rfl (ltF rfl) (zl 9 rfl ?_)
  have hie:i = f.ts.length:=by omega
  have hbo:=box_ok hs hfl i (by omega) x _ hR
  have htl:(f.ts.take i).length≤7:=by rw [List.length_take];omega
  have hmul:=Nat.mul_le_mul_right (40001 + (b + 1) + 210) htl
  haveI:Br x (b + 1 + 7 * (40001 + (b + 1) + 210)):=hbo.br.mono (by omega)
  rw [hie] at hR
  refine nf_ [0,1] [so 4 (D.ptr 2 0),so 7 (D.ptr 3 0),so 8 (D.v (V.one (El.row muE l)))] [none,none,hb_ 27 [Leaf.val (.bool false),natL ([]),natL ([])],hb_ 27 (qL x)] rfl rfl rfl (zc 2 rfl (tc_ fn57 rfl (rqcanon (qOf (x)) (x) (qOf_q _) (Br.use (by omega))) (zl 6 rfl ?_)))
  exact r3_ hq_ rfl (by rw [boxD_some (show boxO s f = _ from hR)])
end Go.Proofs.YtmpkandbccallaaGreatDoor
set_option linter.unusedSimpArgs false
set_option linter.unusedVariables false
namespace Go.Proofs.YtmpkandbccallaaGreatDoor
open Go Go.RowKit Rc
set_option maxRecDepth 10000 in
theorem samem_r (l:List Mu) (hl:l.length≤1000000):Ctr Tryz.prog 16 [V.one (El.row muE l),V.one (El.row muE l)] (R.one (V.one (Leaf.val (.bool true)))):=by
 refine bd_ Tryz.func16 Tryz.ntmps16 rfl (fun w0 A0=>?_)
 refine zc 9 rfl (tq_ rfl (jln rfl) (zl 1 rfl (tq_ rfl (jln rfl) (tq_ rfl (neF rfl) (zl 12 rfl (lpR_ (fun m Γ H=>∃ (i:Nat),l.length - i = m∧Γ = [(0,some (D.v (V.one (El.row muE l)))),(1,some (D.v (V.one (El.row muE l)))),(5,some (D.val (.int .i64 ((i:Nat):Int))))]∧H = []∧i≤l.length) ⟨0,rfl,rfl,rfl,Nat.zero_le _⟩ rfl ?_))))))
 rintro m Γ H ⟨i,rfl,rfl,rfl,hi0⟩
 refine zc 5 rfl (tq_ rfl (jln rfl) ?_)
 by_cases hi:i < l.length
 ·refine tq_ rfl (ltT rfl) (zl 8 rfl ?_)
  obtain ⟨x,hx⟩:∃ x,l[i]? = some x:=⟨_,List.getElem?_eq_getElem hi⟩
  refine dr_ 0 [] [] (dz 2 rfl (kq_ rfl (jix i hx rfl) (kq_ rfl (jft rfl) (kq_ rfl (jlr rfl) (dz 2 rfl (kq_ rfl (jix i hx rfl) (kq_ rfl (jft rfl) (kq_ rfl (jlr rfl) (kq_ rfl (Jq_neq4 rfl rfl rfl row_i4 (d:=false) (by rw [eq4_t rfl];rfl)) ?_)))))))))
  refine dz 3 rfl (kq_ rfl (jix i hx rfl) (kq_ rfl (jfr rfl) (kq_ rfl (jlr rfl) (dz 2 rfl (kq_ rfl (jix i hx rfl) (kq_ rfl (jfr rfl) (kq_ rfl (jlr rfl) (kc_ fn15 rfl (rqsame x.c x.c) (kis_ true rfl (sameQ_self _) ?_)))))))))
  refine dz 2 rfl (DK_nil (za 7 rfl (tq_ rfl (jad (i + 1) rfl) (zl 2 rfl ?_))))
  exact nx_ ⟨i + 1,rfl,rfl,rfl,hi⟩ rfl
 ·refine tq_ rfl (ltF rfl) (zl 13 rfl ?_)
  exact r1_ hq_ rfl rfl
end Go.Proofs.YtmpkandbccallaaGreatDoor
set_option linter.unusedSimpArgs false
set_option linter.unusedVariables false
namespace Rc
open Go Go.RowKit
def awF:Af:=⟨[(0,((1:Int):Rat))],((-1:Int):Rat)⟩
def awQ:Qu:=⟨⟨1,[awF],[awF]⟩,⟨[0],[((3:Int):Rat)],[]⟩,fZ⟩
def awS:Sc:=⟨awQ,[],[]⟩
theorem rat0:D.agg [Leaf.val (.bool false),nilL,nilL] = D.agg (qL 0):=by
 show _ = D.agg [Leaf.val (.bool (cneg 0)),natL (limbs (cnum 0)),natL (limbs (cden 0))]
 rw [cnum_zero,cden_zero,limbs_zero];rfl
theorem awF_ok (n:Nat) (h:1≤n):FOk 3 n awF:=
 ⟨⟨by decide,fun t ht=>by simp at ht,trivial⟩,fun t ht=>by simp [awF] at ht;subst ht;exact Hb.int (by decide),Hb.int (by decide),fun t ht=>by simp [awF] at ht;subst ht;exact h⟩
theorem awQ_ok:QOk awQ:=by
 refine ⟨⟨by decide,by decide,by decide,by decide,by decide,fun j x hx=>?_,fun x hx=>?_⟩,⟨rfl,rfl,by decide,fun j x y hx hy=>?_,fun x hx=>by simp [awQ] at hx⟩,⟨trivial,fun t ht=>by simp [awQ,fZ] at ht,Hb.z,fun t ht=>by simp [awQ,fZ] at ht⟩⟩
 ·have hx:[awF][j]? = some x:=hx
  have:=List.mem_of_getElem? hx
  rw [List.mem_singleton] at this
  subst this;exact awF_ok _ (by show 1≤1 + j;omega)
 ·have hx:x∈[awF]:=hx
  rw [List.mem_singleton] at hx
  subst hx;exact awF_ok _ (by decide)
 ·have hx:[(0:Rat)][j]? = some x:=hx
  have hy:[((3:Int):Rat)][j]? = some y:=hy
  have h1:=List.mem_of_getElem? hx
  have h2:=List.mem_of_getElem? hy
  rw [List.mem_singleton] at h1 h2
  subst h1;subst h2
  exact ⟨Hb.z,Hb.int (by decide),by decide⟩
theorem awS_ok:SOk awS:=⟨awQ_ok,fun d hd=>by simp [awS] at hd,by decide,fun m hm=>by simp [awS] at hm,by decide⟩
theorem awq_ls:D.agg [Leaf.val (.int .i64 1),afE.row [awF],afE.row [awF],ratE.row [0],ratE.row [((3:Int):Rat)],afE.row [],tmE.row [],Leaf.val (.bool false),nilL,nilL] = (D.v (quV awQ)):=by
 show _ = D.agg [Leaf.val (.int .i64 1),afE.row [awF],afE.row [awF],ratE.row [0],ratE.row [((3:Int):Rat)],afE.row [],tmE.row [],Leaf.val (.bool (cneg 0)),natL (limbs (cnum 0)),natL (limbs (cden 0))]
 rw [cnum_zero,cden_zero,limbs_zero];rfl
end Rc
set_option linter.unusedSimpArgs false
set_option linter.unusedVariables false
namespace Rc
open Go Go.RowKit
def bwL:List Lm:=[⟨0,false,qOf ((-1:Int):Rat),(boxD awS awF).2.1⟩]
theorem bw_lo:(boxD awS awF).2.2 = true∧(boxD awS awF).1 = ((-1:Int):Rat):=by decide +kernel
theorem bw_hi:(boxD (withL awS bwL) (negF awF)).2.2 = true∧(boxD (withL awS bwL) (negF awF)).1 = ((-2:Int):Rat):=by decide +kernel
def bwL2:List Lm:=[⟨0,false,qOf ((-1:Int):Rat),(boxD awS awF).2.1⟩,⟨0,true,qOf ((2:Int):Rat),(boxD (withL awS bwL) (negF awF)).2.1⟩]
def bwS:Sc:=withL awS bwL2
theorem bw_run:(runM boxD awS 0).lems = bwL2:=by
 have h1:runN boxD awS 0 0 = []:=rfl
 have hA:runA boxD awS 0 [] 0 awF = bwL:=by
  have hv:sideV boxD awS 0 false awF = ((-1:Int):Rat):=by
   unfold sideV;rw [if_neg (by decide)];show rndB (boxD awS awF).1 false 0 = _;unfold rndB;rw [if_pos rfl,bw_lo.2]
  show [] ++ sideN boxD awS 0 0 false awF = _
  rw [sideN_t (d:=boxD) (s:=awS) (bits:=0) (j:=0) (up:=false) (p:=awF) bw_lo.1 (by rfl),hv];rfl
 have hB:sideN boxD (withL awS bwL) 0 0 true awF = [⟨0,true,qOf ((2:Int):Rat),(boxD (withL awS bwL) (negF awF)).2.1⟩]:=by
  have hv:sideV boxD (withL awS bwL) 0 true awF = ((2:Int):Rat):=by
   unfold sideV;rw [if_pos rfl];show rndB (-(boxD (withL awS bwL) (negF awF)).1) true 0 = _;unfold rndB;rw [if_pos rfl,bw_hi.2];decide +kernel
  rw [sideN_t (d:=boxD) (s:=withL awS bwL) (bits:=0) (j:=0) (up:=true) (p:=awF) bw_hi.1 (by rfl),hv];rfl
 show runN boxD awS 0 (0 + 1) = _
 rw [runN_get (p:=awF) rfl,h1,hA,hB];rfl
theorem bw_runS:runM boxD awS 0 = bwS:=by
 show (⟨awQ,[],(runM boxD awS 0).lems⟩:Sc) = _
 rw [bw_run];rfl
def bwF:Af:=⟨[(0,((1:Int):Rat)),(1,((-1:Int):Rat))],0⟩
theorem bwF_ok:FOk 3 2 bwF:=
 ⟨⟨by decide,fun t ht=>by simp at ht;subst ht;decide,⟨by decide,fun t ht=>by simp at ht,trivial⟩⟩,fun t ht=>by simp [bwF] at ht;rcases ht with rfl | rfl <;> exact Hb.int (by decide),Hb.z,fun t ht=>by simp [bwF] at ht;rcases ht with rfl | rfl <;> decide⟩
theorem bw_sok:SOk bwS:=by rw [← bw_runS];exact (runM_ok boxD_ok awS_ok (by decide) 0).1
theorem bw_val:(boxD bwS bwF).1 = ((-2:Int):Rat)∧(boxD bwS bwF).2.1.length = 3∧(boxD bwS bwF).2.2 = true:=by decide +kernel
theorem bw_low:sg (bndP bwS 1 false).1.q = 0∧(bndP bwS 1 false).2.2 = true:=by decide +kernel
theorem bw_high:(bndP bwS 1 true).1 = qOf ((2:Int):Rat)∧(bndP bwS 1 true).2.2 = true:=by
 have e:highM bwS 0 = some (lvr bwS.lems (bHi bwS 0),_):=highM_tri (by decide +kernel) (by decide +kernel) (by decide +kernel) (by decide +kernel)
 have e2:bndP bwS 1 true = highP bwS 0:=bndP_up (s:=bwS) (v:=1) (by decide +kernel)
 rw [e2,highP_some e]
 exact ⟨rfl,rfl⟩
theorem bw_fq:Fq (bndP bwS 1 false).1 40202:=(bnd_ok bw_sok.sb (by decide) (bndP_t bw_low.2)).fq
theorem bwf_ls:D.agg [tmE.row [(0,((1:Int):Rat)),(1,((-1:Int):Rat))],Leaf.val (.bool false),nilL,nilL] = D.v (afV bwF):=by
 show _ = D.agg [tmE.row [(0,((1:Int):Rat)),(1,((-1:Int):Rat))],Leaf.val (.bool (cneg 0)),natL (limbs (cnum 0)),natL (limbs (cden 0))]
 rw [cnum_zero,cden_zero,limbs_zero];rfl
end Rc
set_option linter.unusedSimpArgs false
set_option linter.unusedVariables false
namespace Go.Proofs.YtmpkandbccallaaGreatDoor
open Go Go.RowKit Rc
theorem run_box (s:Sc) (hs:SOk s) (h80:s.lems.length≤80) (bits:Int) (h0:0≤bits) (h4:bits≤4096):Ctr Tryz.prog 31 [V.one (Leaf.val (ifV 47 [])),scV s,V.one (Leaf.val (.int .i64 (bits)))] (R.tup [scV (runM boxD s bits),V.one (Leaf.val (.int .i64 0))]):=
 drun boxD boxD_ok 47 12 [] rfl (by kernel_rfl) fn12 (fun s f hs hf=>box_p s hs.sb f hf (by omega)) s hs h80 bits h0 h4
theorem run_aw24:Ctr Tryz.prog 31 [V.one (Leaf.val (ifV 47 [])),scV awS,V.one (Leaf.val (.int .i64 (0)))] (R.tup [scV bwS,V.one (Leaf.val (.int .i64 0))]):=by
 have h:=run_box awS awS_ok (by decide) 0 (by decide) (by decide)
 rwa [bw_runS] at h
set_option maxRecDepth 10000 in
set_option maxHeartbeats 2000000 in
theorem awake24  : Ctr Tryz.prog 10 [] (R.one (V.one (Leaf.val (.bool true)))):=by
 refine bd_ Tryz.func10 Tryz.ntmps10 rfl (fun w0 A0=>?_)
 refine zc 7 rfl (tc_ fn36 rfl (rqof 1 (by decide) (by decide)) (zl 5 rfl (dr_ 1 [(5,1),(6,1)] [1] (dz 2 rfl (ke_ rfl (fun _=>Je_buildSlice rfl un23 ty92 tz92 rfl (by decide) (by decide) rfl (by decide) rfl) (kc_ fn36 rfl (rqof (-1) (by decide) (by decide)) (dz 3 rfl (DK_nil (za 2 rfl ?_)))))))))
 refine dr_ 1 [(11,2),(12,2)] [2] (dz 1 rfl (ke_ rfl (fun _=>Je_buildSlice rfl un31 ty29 tz29 rfl (by decide) (by decide) rfl (by decide) rfl) (dz 1 rfl (ke_ rfl (fun _=>Je_buildSlice rfl un31 ty29 tz29 rfl (by decide) (by decide) rfl (by decide) rfl) (dz 2 rfl (keq_ (D.agg (qL 0)) rfl (rat0) ?_))))))
 refine ke_ rfl (fun _=>Je_buildSlice rfl un34 ty27 tz27 rfl (by decide) (by decide) rfl (by decide) rfl) (kc_ fn36 rfl (rqof 3 (by decide) (by decide)) (ke_ rfl (fun _=>Je_buildSlice rfl un34 ty27 tz27 rfl (by decide) (by decide) rfl (by decide) rfl) (dz 2 rfl (keq_ (D.v (quV awQ)) rfl (awq_ls) (dz 2 rfl (DK_nil (za 4 rfl ?_)))))))
 refine tq_ rfl (Jq_iface (vs:=[]) rfl rfl (by kernel_rfl)) (zl 2 rfl (tc_ fn31 rfl (run_aw24) (zl 9 rfl (dr_ 1 [(13,4),(14,4)] [4] (dz 4 rfl (kc_ fn36 rfl (rqof (-1) (by decide) (by decide)) (dz 1 rfl (ke_ rfl (fun _=>Je_buildSlice rfl un23 ty92 tz92 rfl (by decide) (by decide) rfl (by decide) rfl) (dz 1 rfl ?_)))))))))
 refine keq_ (D.v (afV bwF)) rfl (bwf_ls) (kc_ fn12 rfl (box_p bwS bw_sok.sb bwF (b:=3) bwF_ok (by decide)) (dz 4 rfl (kis_ true rfl (bw_val.2.2) (dz 4 rfl (DK_nil (za 4 rfl (tc_ fn14 rfl (var_p bwS bw_sok.sb 1 (by decide)) (zl 4 rfl (is_ true rfl (bw_low.2) ?_)))))))))
 refine zl 1 rfl (is_ true rfl (bw_high.2) (zl 9 rfl (dr_ 0 [] [] (dz 7 rfl (kq_ rfl (jln rfl) (kq_ rfl (eqT rfl (by rw [bw_val.2.1];rfl)) (dz 3 rfl (kc_ fn36 rfl (rqof (-2) (by decide) (by decide)) (kc_ fn15 rfl (rqsame (qOf (boxD bwS bwF).1) (qOf ((-2:Int):Rat))) ?_)))))))))
 refine kis_ true rfl (by rw [bw_val.1];exact sameQ_self _) (dz 9 rfl (kc_ fn37 rfl (rqsign (bndP bwS 1 false).1 (bndP bwS 1 false).1.q rfl (Fit.mono bw_fq.fit (by omega))) (kq_ rfl (eqT rfl bw_low.1) (dz 3 rfl (kc_ fn36 rfl (rqof 2 (by decide) (by decide)) (kc_ fn15 rfl (rqsame (bndP bwS 1 true).1 (qOf ((2:Int):Rat))) (kis_ true rfl (by rw [bw_high.1];exact sameQ_self _) ?_)))))))
 refine dz 2 rfl (DK_nil (za 1 rfl ?_))
 exact r1_ hq_ rfl rfl
set_option maxRecDepth 10000 in
theorem scope24 (l:List Nat) (hl:l.length≤1000000) (hb:∀ x∈l,x < 256):Ctr Tryz.prog 11 [V.one (El.row u8E l)] (R.one (scV (extM l))):=by
 refine bd_ Tryz.func11 Tryz.ntmps11 rfl (fun w0 A0=>?_)
 refine zc 8 rfl (tc_ fn38 rfl (extend_r l hl hb) (zl 3 rfl ?_))
 exact r1_ hq_ rfl rfl
end Go.Proofs.YtmpkandbccallaaGreatDoor
set_option linter.unusedSimpArgs false
set_option linter.unusedVariables false
namespace Rc
open Go Go.RowKit
end Rc
namespace Rc
open Go Go.RowKit Go.ChangeShapes Go.WideShapes
def fldL (P:Program) (t:Nat):Option (List (Nat × Nat)):=
 match P.underlying t with
 | some (.struct fs)=>some (fs.toList.map fun f=>(f.offset,f.type))
 | _=>none
theorem fldL_spec {P:Program} {t:Nat} {l:List (Nat × Nat)} (h:fldL P t = some l):∃ fs,P.underlying t = some (.struct fs)∧fs.toList.map (fun f=>(f.offset,f.type)) = l:=by
 unfold fldL at h
 cases hu:P.underlying t with
 | none=>rw [hu] at h;simp at h
 | some d=>
  rw [hu] at h
  cases d <;> simp only [reduceCtorEq] at h
  exact ⟨_,rfl,by simpa using h⟩
section
variable {H:Type} {enc:TypeId × Value→H} {P:Program} {w:World} {base:Nat} {held:Bool}
@[reducible] def here (w:World):Foot:=Foot.of fun k _=>k < w.heap.size
theorem rd_bool {t:Nat} {cs:List Value} {fuel:Nat} {x:DataW H × List MemPlace} {spare:Nat→Bool} (ht:P.underlying t = some .bool) (h:DataW.trod enc P w base spare held fuel t cs = some x):∃ b,cs = [.bool b]:=by
 cases fuel with
 | zero=>simp [DataW.trod] at h
 | succ n=>
  unfold DataW.trod at h
  rw [ht] at h
  split at h <;> simp_all
theorem rd_int {t:Nat} {k:IntKind} {cs:List Value} {fuel:Nat} {x:DataW H × List MemPlace} {spare:Nat→Bool} (ht:P.underlying t = some (.int k)) (h:DataW.trod enc P w base spare held fuel t cs = some x) :
  ∃ n,cs = [.int k n]∧(Lit.int k n).wf = true:=by
 obtain ⟨n,rfl,_,hw⟩:=DataW.trod_int ht h
 exact ⟨n,rfl,hw⟩
theorem wf_u32 {n:Int} (h:(Lit.int .u32 n).wf = true):0≤n∧n≤4294967295:=by
 simp [Lit.wf,IntKind.min,IntKind.max,IntKind.bits,IntKind.signed] at h
 omega
theorem wf_u8 {n:Int} (h:(Lit.int .u8 n).wf = true):0≤n∧n≤255:=by
 simp [Lit.wf,IntKind.min,IntKind.max,IntKind.bits,IntKind.signed] at h
 omega
theorem cell_lt {a:Addr} {v:Value} (h:w.cell? a = some v):a.block < w.heap.size:=by
 unfold World.cell? at h
 cases hb:w.heap[a.block]? with
 | none=>rw [hb] at h;simp at h
 | some o=>exact (Array.getElem?_eq_some_iff.1 hb).1
theorem rd_nat {t u:Nat} {cs:List Value} {fuel:Nat} {x:DataW H × List MemPlace} (ht:P.underlying t = some (.slice u)) (hu:P.underlying u = some (.int .u32)) (hc:P.cellsOf u = 1)
  (h:DataW.trod enc P w base (fun _=>true) held fuel t cs = some x):∃ c l,cs = [c]∧Small l∧(natL l).den (here w) c w:=by
 rcases open_ints ht hu hc h with ⟨rfl,_⟩ | ⟨a,len,cap,zs,rfl,_,hl,hm,hz,_,hcell,hwf⟩
 ·exact ⟨_,[],rfl,Small.nil,nil_slice _ _⟩
 ·simp only [if_true] at hz
  refine ⟨_,(zs.take len).map Int.toNat,rfl,?_,?_⟩
  ·intro y hy
   obtain ⟨n,hn,rfl⟩:=List.mem_map.1 hy
   have:=wf_u32 (hwf n (List.mem_of_mem_take hn))
   omega
  ·have hlen:((zs.take len).map Int.toNat).length = len:=by simp;omega
   show (sliceRep ((zs.take len).map Int.toNat).length _).P _ _ _
   rw [hlen]
   refine ⟨some a,cap,rfl,hl,hm,fun h=>by simp at h,fun ad had=>?_⟩
   cases had
   refine ⟨fun h0=>?_,fun i lf hi=>?_⟩
   ·obtain ⟨b,off,rfl,_⟩:=ints_at hcell (by omega)
    rfl
   ·rw [List.getElem?_map,List.getElem?_map,List.getElem?_take] at hi
    split at hi
    ·rename_i hil
     have hiz:i < zs.length:=by omega
     obtain ⟨b,off,rfl,hc2⟩:=ints_at hcell (by omega)
     have hci:=hc2 i hiz
     rw [List.getElem?_eq_getElem hiz] at hi
     simp only [Option.map_some,Option.some.injEq] at hi
     subst hi
     have hw:=wf_u32 (hwf zs[i] (List.getElem_mem hiz))
     have hlt:b < w.heap.size:=cell_lt hci
     refine ⟨hlt,_,hci,?_,rfl⟩
     rw [List.getD_eq_getElem?_getD,List.getElem?_eq_getElem hiz]
     simp only [Option.getD_some]
     congr 1
     omega
    ·simp at hi
structure NumTy (P:Program) (tb tn tu tr:Nat):Prop where
 b:P.underlying tb = some .bool
 u:P.underlying tu = some (.int .u32)
 n:P.underlying tn = some (.slice tu)
 cb:P.cellsOf tb = 1
 cu:P.cellsOf tu = 1
 cn:P.cellsOf tn = 1
 r:fldL P tr = some [(0,tb),(1,tn),(2,tn)]
 cr:P.cellsOf tr = 3
variable {tb tn tu tr:Nat}
theorem denL_split {A:Foot} {l1 l2:List Leaf} {cs:List Value} (k:Nat) (h1:denL A l1 (cs.take k) w) (h2:denL A l2 (cs.drop k) w):denL A (l1 ++ l2) cs w:=by
 have:=h1.append h2
 rwa [List.take_append_drop] at this
end
theorem law_calls {P:Program} {f:Nat} {xs:List V} {w:World} {vs:List Value} (h:Ctr P f xs (R.one (V.one (Leaf.val (.bool true))))) (hg:Glob w) (hd:denVs (here w) xs vs w) :
  Calls P f vs.toArray w fun e w'=>e = .returned (.bool true)∧Below w.heap.size w w':=by
 refine Calls.mono (h w vs (fun k _=>k < w.heap.size) hg (fun _ _ hk=>hk) hd) ?_
 rintro e w' ⟨v,rfl,hv,hb⟩
 obtain ⟨rfl,_⟩:v = .bool true∧_:=hv
 exact ⟨rfl,hb⟩
end Rc
namespace Rc
open Go Go.RowKit Go.ChangeShapes Go.WideShapes
theorem u8_all:∀ l:List Nat,u8E.all l = l.map fun (x:Nat)=>Leaf.val (.int .u8 (x:Int))
 | []=>rfl
 | x :: l=>by show u8E.f x ++ u8E.all l = _;rw [u8_all l];rfl
section
variable {H:Type} {enc:TypeId × Value→H} {P:Program} {w:World} {base:Nat} {held:Bool}
theorem rdv_bytes {t u:Nat} (ht:P.underlying t = some (.slice u)) (hu:P.underlying u = some (.int .u8)) (hc:P.cellsOf u = 1) {r:Reach} {b0:Nat} {v:Value} {d:DataW H} {p:List MemPlace} (hv:Value.okWide P w r b0 t v)
  (h:DataW.Trod enc P w base (fun _=>true) held t v d p):∃ l:List Nat,l.length≤maxLen∧(∀ x∈l,x < 256)∧(V.one (u8E.row l)).den (here w) v w:=by
 obtain ⟨a0,len0,cap0,rfl⟩:=okWide_slice ht hv
 obtain ⟨fuel,hf⟩:=h
 rcases open_ints ht hu hc hf with ⟨hcs,_⟩ | ⟨a,len,cap,zs,hcs,_,hl,hm,hz,_,hcell,hwf⟩
 ·simp [Value.cells] at hcs
  obtain ⟨rfl,rfl,rfl⟩:=hcs
  exact ⟨[],Nat.zero_le _,fun x hx=>by simp at hx,nil_slice _ _⟩
 ·simp [Value.cells] at hcs
  obtain ⟨rfl,rfl,rfl⟩:=hcs
  simp only [if_true] at hz
  have hlen:((zs.take len0).map Int.toNat).length = len0:=by simp;omega
  refine ⟨(zs.take len0).map Int.toNat,by rw [hlen];omega,?_,?_⟩
  ·intro y hy
   obtain ⟨n,hn,rfl⟩:=List.mem_map.1 hy
   have:=wf_u8 (hwf n (List.mem_of_mem_take hn))
   omega
  ·show (sliceRep ((zs.take len0).map Int.toNat).length _).P _ _ _
   rw [hlen,u8_all]
   refine ⟨some a,cap0,rfl,hl,hm,fun h=>by simp at h,fun ad had=>?_⟩
   cases had
   refine ⟨fun h0=>?_,fun i lf hi=>?_⟩
   ·obtain ⟨b,off,rfl,_⟩:=ints_at hcell (by first | omega | (simp at h0;omega))
    rfl
   ·rw [List.getElem?_map,List.getElem?_map,List.getElem?_take] at hi
    split at hi
    ·rename_i hil
     have hiz:i < zs.length:=by omega
     obtain ⟨b,off,rfl,hc2⟩:=ints_at hcell (by omega)
     have hci:=hc2 i hiz
     rw [List.getElem?_eq_getElem hiz] at hi
     simp only [Option.map_some,Option.some.injEq] at hi
     subst hi
     have hw:=wf_u8 (hwf zs[i] (List.getElem_mem hiz))
     have hlt:b < w.heap.size:=cell_lt hci
     refine ⟨hlt,_,hci,?_,rfl⟩
     rw [List.getD_eq_getElem?_getD,List.getElem?_eq_getElem hiz]
     simp only [Option.getD_some]
     congr 1
     omega
    ·simp at hi
variable {tb tn tu tr:Nat}
end
end Rc
set_option linter.unusedSimpArgs false
set_option linter.unusedVariables false
namespace Rc
open Go Go.RowKit Go.ChangeShapes Go.WideShapes
theorem pick_list {α:Type} {p:Nat→α→Prop}:∀ n:Nat,(∀ i,i < n→∃ a,p i a)→∃ l:List α,l.length = n∧∀ i a,l[i]? = some a→p i a
 | 0,_=>⟨[],rfl,fun i a h=>by simp at h⟩
 | n + 1,h=>by
  obtain ⟨l,hl,hp⟩:=pick_list n (fun i hi=>h i (by omega))
  obtain ⟨a,ha⟩:=h n (by omega)
  refine ⟨l ++ [a],by simp [hl],fun i b hb=>?_⟩
  by_cases e:i < n
  ·rw [List.getElem?_append_left (by omega)] at hb;exact hp i b hb
  ·rw [List.getElem?_append_right (by omega)] at hb
   have h1:=(List.getElem?_eq_some_iff.1 hb).1
   have h2:i = n:=by simp at h1;omega
   subst h2
   simp [hl] at hb;subst hb;exact ha
end Rc
set_option linter.unusedSimpArgs false
set_option linter.unusedVariables false
namespace Rc
open Go Go.RowKit Go.ChangeShapes Go.WideShapes
structure Tr where
 v:Int
 c:Qr
structure Ar where
 ts:List Tr
 c:Qr
def trE:El Tr:=⟨fun t=>[Leaf.val (.int .i64 t.v),Leaf.val (.bool t.c.neg),natL t.c.n,natL t.c.d],4,fun _=>rfl,fun _=>rfl⟩
@[reducible] def arV (a:Ar):V:=V.agg [trE.row a.ts,Leaf.val (.bool a.c.neg),natL a.c.n,natL a.c.d]
def VN (a:Ar) (vars n:Nat):Prop:=∀ i t,i < n→a.ts[i]? = some t→isC t.c = true∧t.c.q≠0∧0≤t.v∧t.v < (vars:Int)∧∀ u,0 < i→a.ts[i - 1]? = some u→u.v < t.v
def VR (a:Ar) (vars:Nat):Prop:=VN a vars a.ts.length∧isC a.c = true
noncomputable def vrB (a:Ar) (vars:Nat):Bool:=@decide (VR a vars) (Classical.propDecidable _)
section
variable {a:Ar} {vars:Nat}
theorem vrB_t (h:VR a vars):vrB a vars = true:=@decide_eq_true _ (Classical.propDecidable _) h
theorem vrB_f (h:¬ VR a vars):vrB a vars = false:=@decide_eq_false _ (Classical.propDecidable _) h
theorem vrB_iff:vrB a vars = true↔VR a vars:=@decide_eq_true_iff _ (Classical.propDecidable _)
theorem vrB_end (h:VN a vars a.ts.length):vrB a vars = isC a.c:=by
 cases hc:isC a.c
 ·exact vrB_f (fun e=>by rw [e.2] at hc;cases hc)
 ·exact vrB_t ⟨h,hc⟩
theorem VN.zero:VN a vars 0:=fun i t h=>by omega
theorem VN.step {n:Nat} {t:Tr} (h:VN a vars n) (ht:a.ts[n]? = some t) (h1:isC t.c = true) (h2:t.c.q≠0) (h3:0≤t.v) (h4:t.v < (vars:Int)) (h5:∀ u,0 < n→a.ts[n - 1]? = some u→u.v < t.v):VN a vars (n + 1):=fun i u hi hu=>by
 by_cases e:i = n
 ·subst e;rw [ht] at hu;cases hu;exact ⟨h1,h2,h3,h4,h5⟩
 ·exact h i u (by omega) hu
theorem VR.get {n:Nat} {t:Tr} (h:VR a vars) (ht:a.ts[n]? = some t):isC t.c = true∧t.c.q≠0∧0≤t.v∧t.v < (vars:Int)∧∀ u,0 < n→a.ts[n - 1]? = some u→u.v < t.v:=h.1 n t (List.getElem?_eq_some_iff.1 ht).1 ht
theorem vr_neg {n:Nat} {t:Tr} (ht:a.ts[n]? = some t) (hx:t.v < 0):vrB a vars = false:=vrB_f (fun h=>by have:=(h.get ht).2.2.1;omega)
theorem vr_big {n:Nat} {t:Tr} (ht:a.ts[n]? = some t) (hx:(vars:Int)≤t.v):vrB a vars = false:=vrB_f (fun h=>by have:=(h.get ht).2.2.2.1;omega)
theorem vr_ord {n:Nat} {t u:Tr} (h0:0 < n) (ht:a.ts[n]? = some t) (hu:a.ts[n - 1]? = some u) (hx:t.v≤u.v):vrB a vars = false:=vrB_f (fun h=>by have:=(h.get ht).2.2.2.2 u h0 hu;omega)
theorem vr_zero {n:Nat} {t:Tr} (ht:a.ts[n]? = some t) (hx:t.c.q = 0):vrB a vars = false:=vrB_f (fun h=>(h.get ht).2.1 hx)
theorem vr_can {n:Nat} {t:Tr} (ht:a.ts[n]? = some t) (hx:isC t.c = false):vrB a vars = false:=vrB_f (fun h=>by rw [(h.get ht).1] at hx;cases hx)
end
def toAf (a:Ar):Af:=⟨a.ts.map fun t=>(t.v.toNat,t.c.q),a.c.q⟩
theorem tr_all:∀ {l:List Tr},(∀ t∈l,isC t.c = true∧0≤t.v)→trE.all l = tmE.all (l.map fun t=>(t.v.toNat,t.c.q))
 | [],_=>rfl
 | t :: l,h=>by
  have h1:=h t (by simp)
  show trE.f t ++ trE.all l = tmE.f (t.v.toNat,t.c.q) ++ tmE.all _
  rw [tr_all (fun u hu=>h u (by simp [hu]))]
  congr 1
  show [Leaf.val (.int .i64 t.v),Leaf.val (.bool t.c.neg),natL t.c.n,natL t.c.d] = [Leaf.val (.int .i64 ((t.v.toNat:Nat):Int)),Leaf.val (.bool (cneg t.c.q)),natL (limbs (cnum t.c.q)),natL (limbs (cden t.c.q))]
  have e1:((t.v.toNat:Nat):Int) = t.v:=by omega
  have e2:=isC_iff.1 h1.1
  have e3:t.c.neg = cneg t.c.q:=by rw [e2];rw [qOf_q]
  have e4:t.c.n = limbs (cnum t.c.q):=by rw [e2];rw [qOf_q]
  have e5:t.c.d = limbs (cden t.c.q):=by rw [e2];rw [qOf_q]
  rw [e1,← e3,← e4,← e5]
theorem arV_eq {a:Ar} {vars:Nat} (h:VR a vars):arV a = afV (toAf a):=by
 have hall:∀ t∈a.ts,isC t.c = true∧0≤t.v:=fun t ht=>by
  obtain ⟨i,hi⟩:=mem_get ht
  have:=h.get hi
  exact ⟨this.1,this.2.2.1⟩
 have e2:=isC_iff.1 h.2
 have e3:a.c.neg = cneg a.c.q:=by rw [e2];rw [qOf_q]
 have e4:a.c.n = limbs (cnum a.c.q):=by rw [e2];rw [qOf_q]
 have e5:a.c.d = limbs (cden a.c.q):=by rw [e2];rw [qOf_q]
 have e6:trE.row a.ts = tmE.row (toAf a).ts:=by
  unfold El.row;rw [tr_all hall];congr 2;simp [toAf]
 show V.agg [trE.row a.ts,Leaf.val (.bool a.c.neg),natL a.c.n,natL a.c.d] = V.agg [tmE.row (toAf a).ts,Leaf.val (.bool (cneg a.c.q)),natL (limbs (cnum a.c.q)),natL (limbs (cden a.c.q))]
 rw [e6,← e3,← e4,← e5]
theorem fit_hb {x:Qr} {K:Nat} (h:Fit K x):Hb x.q (32 * K):=by
 refine Hb.rq ?_ ?_
 ·refine Nat.lt_of_lt_of_le (val_lt x.hn) ?_
  rw [pow32];exact Nat.pow_le_pow_right (by decide) (Nat.mul_le_mul_left _ h.n)
 ·have h1:=val_lt x.hd
  have h2:4294967296 ^ x.d.length≤2 ^ (32 * K):=by rw [pow32];exact Nat.pow_le_pow_right (by decide) (Nat.mul_le_mul_left _ h.d)
  unfold dn;split <;> omega
theorem can_of:∀ {l:List Tr},(∀ t∈l,t.c.q≠0∧0≤t.v)→(∀ i t u,l[i]? = some u→l[i + 1]? = some t→u.v < t.v)→CanT (l.map fun t=>(t.v.toNat,t.c.q))
 | [],_,_=>trivial
 | x :: l,h,ho=>by
  have ih:=can_of (l:=l) (fun t ht=>h t (by simp [ht])) (fun i t u hu ht=>ho (i + 1) t u (by simpa using hu) (by simpa using ht))
  refine ⟨(h x (by simp)).1,fun u hu=>?_,ih⟩
  obtain ⟨t,ht,rfl⟩:=List.mem_map.1 hu
  have key:∀ (i:Nat) (t:Tr),l[i]? = some t→x.v < t.v:=by
   intro i
   induction i with
   | zero=>intro t ht;exact ho 0 t x rfl (by simpa using ht)
   | succ i ihh=>
    intro t ht
    obtain ⟨u,hu⟩:∃ u,l[i]? = some u:=⟨_,List.getElem?_eq_getElem (by have:=(List.getElem?_eq_some_iff.1 ht).1;omega)⟩
    have h1:=ihh u hu
    have h2:=ho (i + 1) t u (by simpa using hu) (by simpa using ht)
    omega
  obtain ⟨i,hi⟩:=mem_get ht
  have h1:=key i t hi
  have h2:=(h x (by simp)).2
  show x.v.toNat < t.v.toNat
  omega
theorem toAf_ok {a:Ar} {vars K:Nat} (h:VR a vars) (hf:∀ t∈a.ts,Fit K t.c) (hc:Fit K a.c):FOk (32 * K) vars (toAf a):=by
 have hm:∀ t∈a.ts,t.c.q≠0∧0≤t.v∧t.v < (vars:Int):=fun t ht=>by
  obtain ⟨i,hi⟩:=mem_get ht
  have:=h.get hi
  exact ⟨this.2.1,this.2.2.1,this.2.2.2.1⟩
 refine ⟨can_of (fun t ht=>⟨(hm t ht).1,(hm t ht).2.1⟩) (fun i t u hu ht=>(h.get ht).2.2.2.2 u (by omega) (by simpa using hu)),fun t ht=>?_,fit_hb hc,fun t ht=>?_⟩
 ·obtain ⟨u,hu,rfl⟩:=List.mem_map.1 ht
  exact fit_hb (hf u hu)
 ·obtain ⟨u,hu,rfl⟩:=List.mem_map.1 ht
  have:=hm u hu
  show u.v.toNat < vars
  omega
noncomputable def boxA (s:Sc) (a:Ar):Rat × List Mu × Bool:=if vrB a (s.q.g.inp + s.q.g.us.length) = true then boxD s (toAf a) else (0,[],false)
theorem boxA_t {s:Sc} {a:Ar} (h:vrB a (s.q.g.inp + s.q.g.us.length) = true):boxA s a = boxD s (toAf a):=if_pos h
theorem boxA_f {s:Sc} {a:Ar} (h:vrB a (s.q.g.inp + s.q.g.us.length) = false):boxA s a = (0,[],false):=if_neg (by rw [h];decide)
theorem boxA_len {s:Sc} (hs:SB 40001 s) {a:Ar} {K:Nat} (hf:∀ t∈a.ts,Fit K t.c) (hc:Fit K a.c):(boxA s a).2.1.length≤14:=by
 cases h:vrB a (s.q.g.inp + s.q.g.us.length)
 ·rw [boxA_f h];exact Nat.zero_le _
 ·rw [boxA_t h];exact (boxD_der hs (toAf_ok (vrB_iff.1 h) hf hc).fl).len
section
variable {H:Type} {enc:TypeId × Value→H} {P:Program} {w:World} {base:Nat} {held:Bool}
structure Msr (m:DataW H→Nat):Prop where
 el:∀ (es sp:List (DataW H)),∀ d∈es,m d≤m (.slice es sp)
 len:∀ (es sp:List (DataW H)),es.length≤m (.slice es sp)
 part:∀ (ps:List (DataW H)),∀ d∈ps,m d≤m (.agg ps)
variable {m:DataW H→Nat}
theorem rd_natM (hm:Msr m) {t u:Nat} {cs:List Value} {fuel:Nat} {x:DataW H × List MemPlace} (ht:P.underlying t = some (.slice u)) (hu:P.underlying u = some (.int .u32)) (hc:P.cellsOf u = 1)
  (h:DataW.trod enc P w base (fun _=>true) held fuel t cs = some x):∃ c l,cs = [c]∧Small l∧(natL l).den (here w) c w∧l.length≤m x.1:=by
 obtain ⟨c,l,e1,e2,e3⟩:=rd_nat ht hu hc h
 refine ⟨c,l,e1,e2,e3,?_⟩
 obtain ⟨a,cap,ev,_⟩:=e3
 rcases open_ints ht hu hc h with ⟨hcs,_⟩ | ⟨a',len,cap',zs,hcs,_,hl,_,hz,hx,_⟩
 ·rw [e1] at hcs;simp at hcs;rw [hcs] at ev;simp at ev;omega
 ·rw [e1] at hcs;simp at hcs;rw [hcs] at ev;simp at ev
  rw [hx]
  refine Nat.le_trans ?_ (hm.len _ _)
  simp only [if_true] at hz
  unfold lits;rw [List.length_map,List.length_take];omega
theorem rd_fieldsM (hm:Msr m) {t:Nat} {l:List (Nat × Nat)} {cs:List Value} {fuel:Nat} {x:DataW H × List MemPlace} (hf:fldL P t = some l) (h:DataW.trod enc P w base (fun _=>true) held fuel t cs = some x) :
  cs.length = P.cellsOf t∧∃ n,∀ (i off ty:Nat),l[i]? = some (off,ty)→∃ y,DataW.trod enc P w base (fun _=>true) held n ty ((cs.drop off).take (P.cellsOf ty)) = some y∧m y.1≤m x.1:=by
 obtain ⟨fs,hu,hl⟩:=fldL_spec hf
 obtain ⟨xs,n,_,hx,hlen,hxs,hall⟩:=DataW.trod_struct hu h
 refine ⟨hlen,n,fun i off ty hi=>?_⟩
 rw [← hl,List.getElem?_map] at hi
 cases hfi:fs.toList[i]? with
 | none=>rw [hfi] at hi;simp at hi
 | some f=>
  rw [hfi] at hi
  simp only [Option.map_some,Option.some.injEq,Prod.mk.injEq] at hi
  obtain ⟨rfl,rfl⟩:=hi
  have hfi':fs[i]? = some f:=by simpa using hfi
  have:=hall i f hfi'
  have hlt:i < xs.length:=by rw [hxs];exact (Array.getElem?_eq_some_iff.1 hfi').1
  refine ⟨xs[i],by rw [this,List.getElem?_eq_getElem hlt],?_⟩
  rw [hx]
  exact hm.part _ _ (List.mem_map.2 ⟨xs[i],List.getElem_mem hlt,rfl⟩)
variable {tb tn tu tr ti tt ta ts:Nat}
theorem rd_ratM (hm:Msr m) (hT:NumTy P tb tn tu tr) {cs:List Value} {fuel:Nat} {x:DataW H × List MemPlace} (h:DataW.trod enc P w base (fun _=>true) held fuel tr cs = some x) :
  ∃ q:Qr,denL (here w) (qV q).leaves cs w∧Fit (m x.1) q:=by
 obtain ⟨hlen,n,hall⟩:=rd_fieldsM hm hT.r h
 rw [hT.cr] at hlen
 match cs,hlen with
 | [c0,c1,c2],_=>
  obtain ⟨y0,h0,_⟩:=hall 0 _ _ rfl
  obtain ⟨y1,h1,g1⟩:=hall 1 _ _ rfl
  obtain ⟨y2,h2,g2⟩:=hall 2 _ _ rfl
  rw [hT.cb] at h0
  rw [hT.cn] at h1 h2
  obtain ⟨b,e0⟩:=rd_bool hT.b h0
  obtain ⟨k1,l1,e1,s1,d1,f1⟩:=rd_natM hm hT.n hT.u hT.cu h1
  obtain ⟨k2,l2,e2,s2,d2,f2⟩:=rd_natM hm hT.n hT.u hT.cu h2
  simp at e0 e1 e2
  subst e0;subst e1;subst e2
  exact ⟨⟨b,l1,l2,s1,s2⟩,⟨⟨rfl,rfl⟩,d1,d2,trivial⟩,Nat.le_trans f1 g1,Nat.le_trans f2 g2⟩
structure ArTy (P:Program) (tb tn tu tr ti tt ts ta:Nat):Prop where
 n:NumTy P tb tn tu tr
 i:P.underlying ti = some (.int .i64)
 ci:P.cellsOf ti = 1
 t:fldL P tt = some [(0,ti),(1,tr)]
 ct:P.cellsOf tt = 4
 s:P.underlying ts = some (.slice tt)
 cs:P.cellsOf ts = 1
 a:fldL P ta = some [(0,ts),(1,tr)]
 ca:P.cellsOf ta = 4
theorem rd_rowM (hm:Msr m) {α:Type} (E:El α) (Pr:Nat→α→Prop) (hmono:∀ j k a,j≤k→Pr j a→Pr k a) {t e:Nat} (ht:P.underlying t = some (.slice e)) (hc:P.cellsOf e = E.sz) (hsz:0 < E.sz)
  (hel:∀ (cs:List Value) (fuel:Nat) (x:DataW H × List MemPlace),DataW.trod enc P w base (fun _=>true) held fuel e cs = some x→∃ a,denL (here w) (E.f a) cs w∧Pr (m x.1) a)
  {cs:List Value} {fuel:Nat} {x:DataW H × List MemPlace} (h:DataW.trod enc P w base (fun _=>true) held fuel t cs = some x) :
  ∃ c l,cs = [c]∧l.length≤maxLen∧(∀ a∈l,Pr (m x.1) a)∧(E.row l).den (here w) c w:=by
 rcases DataW.trod_slice ht h with ⟨rfl,_⟩ | ⟨a,len,cap,elems,rest,n,hfu,hcs,hxx,hb,hl,hm',hlen,hget,hsp,hns⟩
 ·exact ⟨_,[],rfl,Nat.zero_le _,fun a h=>by simp at h,nil_slice _ _⟩
 subst hcs
 obtain ⟨hrl,hrest⟩:=hsp rfl
 have each:∀ i,i < cap→∃ cs' y,w.cells? base (a.add (i * E.sz)) E.sz = some cs'∧DataW.trod enc P w base (fun _=>true) held n e cs' = some y∧(i < len→y∈elems):=by
  intro i hi
  have hb:∃ y,(w.cells? base (a.add (i * P.cellsOf e)) (P.cellsOf e)).bind (DataW.trod enc P w base (fun _=>true) held n e) = some y∧(i < len→y∈elems):=by
   by_cases hil:i < len
   ·exact ⟨_,(hget i hil).trans (List.getElem?_eq_getElem (by omega)),fun _=>List.getElem_mem _⟩
   ·have h1:=hrest (i - len) (by omega)
    rw [show len + (i - len) = i by omega] at h1
    exact ⟨_,h1.trans (List.getElem?_eq_getElem (by omega)),fun h=>absurd h hil⟩
  obtain ⟨y,hy,hmem⟩:=hb
  rw [hc,Option.bind_eq_some_iff] at hy
  obtain ⟨cs',h1,h2⟩:=hy
  exact ⟨cs',y,h1,h2,hmem⟩
 obtain ⟨l,hll,hlp⟩:=pick_list (p:=fun i b=>∃ cs',w.cells? base (a.add (i * E.sz)) E.sz = some cs'∧denL (here w) (E.f b) cs' w∧Pr (m x.1) b) len (fun i hi=>by
  obtain ⟨cs',y,h1,h2,h3⟩:=each i (by omega)
  obtain ⟨b,h4,h5⟩:=hel cs' n y h2
  refine ⟨b,cs',h1,h4,hmono _ _ _ ?_ h5⟩
  rw [hxx]
  exact hm.el _ _ _ (List.mem_map.2 ⟨y,h3 hi,rfl⟩))
 refine ⟨_,l,rfl,by omega,fun b hb=>?_,?_⟩
 ·obtain ⟨i,hi⟩:=List.mem_iff_getElem?.1 hb
  obtain ⟨_,_,_,h4⟩:=hlp i b hi
  exact h4
 show (sliceRep l.length (E.all l)).P _ _ _
 rw [hll]
 have hspot:0 < cap→a.spot = none:=fun h0=>by
  obtain ⟨cs',y,h1,h2,_⟩:=each 0 h0
  have h3:=(World.cells?_some h1).2.2 0 hsz
  have hcl:=(World.cells?_some h1).2.1
  rw [List.getElem?_eq_getElem (by omega)] at h3
  simpa [Addr.add] using World.cell?_spot h3
 refine ⟨some a,cap,rfl,hl,hm',fun h=>by simp at h,fun ad had=>?_⟩
 cases had
 refine ⟨hspot,fun i lf hi=>?_⟩
 have hi0:i < l.length * E.sz:=by have:=(List.getElem?_eq_some_iff.1 hi).1;rwa [El.all_length] at this
 have hq:i / E.sz < l.length:=(Nat.div_lt_iff_lt_mul hsz).2 hi0
 have hr:i % E.sz < E.sz:=Nat.mod_lt _ hsz
 have hqr:i / E.sz * E.sz + i % E.sz = i:=by rw [Nat.mul_comm];exact Nat.div_add_mod i E.sz
 obtain ⟨cs',h1,h2,_⟩:=hlp (i / E.sz) _ (List.getElem?_eq_getElem hq)
 have hlf:(E.f l[i / E.sz])[i % E.sz]? = some lf:=by
  rw [← El.all_get E hq,List.getElem?_take,if_pos hr,List.getElem?_drop,hqr];exact hi
 obtain ⟨v,hv,hd⟩:=h2.get hlf
 have h3:=(World.cells?_some h1).2.2 (i % E.sz) hr
 rw [hv] at h3
 have hsp0:=hspot (Nat.lt_of_lt_of_le (Nat.lt_of_le_of_lt (Nat.zero_le _) hq) (by omega))
 obtain ⟨b,off,spot⟩:=a
 subst hsp0
 rw [Go.WideShapes.add_plain,Go.WideShapes.add_plain,Nat.add_assoc,hqr] at h3
 have hlt:b < w.heap.size:=cell_lt h3
 exact ⟨hlt,v,h3,hd⟩
theorem rdv_form (hm:Msr m) (hT:ArTy P tb tn tu tr ti tt ts ta) {r:Reach} {b0:Nat} {v:Value} {d:DataW H} {p:List MemPlace} (hv:Value.okWide P w r b0 ta v) (h:DataW.Trod enc P w base (fun _=>true) held ta v d p) :
  ∃ a:Ar,(∀ t∈a.ts,Fit (m d) t.c)∧Fit (m d) a.c∧(arV a).den (here w) v w:=by
 obtain ⟨f,hu,_⟩:=fldL_spec hT.a
 obtain ⟨cs,rfl,_⟩:=okWide_struct hu hv
 obtain ⟨fuel,hf⟩:=h
 have hf:DataW.trod enc P w base (fun _=>true) held fuel ta cs.toList = some (d,p):=by simpa [Value.cells] using hf
 obtain ⟨hlen,n,hall⟩:=rd_fieldsM hm hT.a hf
 rw [hT.ca] at hlen
 obtain ⟨y0,h0,g0⟩:=hall 0 _ _ rfl
 obtain ⟨y1,h1,g1⟩:=hall 1 _ _ rfl
 rw [hT.cs] at h0
 rw [hT.n.cr] at h1
 obtain ⟨c,l,e0,_,hl,hd0⟩:=rd_rowM hm trE (fun k t=>Fit k t.c) (fun j k a hjk hh=>hh.mono hjk) hT.s hT.ct (by decide) (fun cs' fuel' x' h'=>by
  obtain ⟨hlen',n',hall'⟩:=rd_fieldsM hm hT.t h'
  rw [hT.ct] at hlen'
  obtain ⟨z0,k0,q0⟩:=hall' 0 _ _ rfl
  obtain ⟨z1,k1,q1⟩:=hall' 1 _ _ rfl
  rw [hT.ci] at k0
  rw [hT.n.cr] at k1
  obtain ⟨iv,ei,_⟩:=rd_int hT.i k0
  obtain ⟨q,hq,hfit⟩:=rd_ratM hm hT.n k1
  refine ⟨⟨iv,q⟩,?_,hfit.mono q1⟩
  have:=denL_split (w:=w) (A:=here w) (l1:=[Leaf.val (.int .i64 iv)]) (l2:=(qV q).leaves) (cs:=cs') 1 (by
   rw [List.drop_zero] at ei;rw [ei];exact ⟨⟨rfl,rfl⟩,trivial⟩) (by rw [List.take_of_length_le (by simp;omega)] at hq;exact hq)
  exact this) h0
 obtain ⟨q,hq,hfit⟩:=rd_ratM hm hT.n h1
 refine ⟨⟨l,q⟩,fun t ht=>(hl t ht).mono g0,hfit.mono g1,cs.toList,by simp,?_⟩
 have:=denL_split (w:=w) (A:=here w) (l1:=[trE.row l]) (l2:=(qV q).leaves) (cs:=cs.toList) 1 (by
  rw [List.drop_zero] at e0;rw [e0];exact ⟨hd0,trivial⟩) (by rw [List.take_of_length_le (by rw [List.length_drop];omega)] at hq;exact hq)
 exact this
end
end Rc
set_option linter.unusedSimpArgs false
set_option linter.unusedVariables false
namespace Go.Proofs.YtmpkandbccallaaGreatDoor
open Go Go.RowKit Rc
set_option maxRecDepth 10000 in
theorem lvalid_raw (a:Ar) (hfit:∀ t∈a.ts,Fit 1048576 t.c) (hfc:Fit 1048576 a.c) (hal:a.ts.length≤20) (vars:Nat) (hv:vars≤1000):Ctr Tryz.prog 40 [arV a,V.one (Leaf.val (.int .i64 ((vars:Int))))] (R.one (V.one (Leaf.val (.bool (vrB a vars))))):=by
 refine bd_ Tryz.func40 Tryz.ntmps40 rfl (fun w0 A0=>?_)
 refine zc 11 rfl (tq_ rfl (jln rfl) (zl 4 rfl ?_))
 refine lpR_ (fun m Γ H=>∃ (i:Nat),a.ts.length - i = m∧Γ = [(1,some (D.val (.int .i64 ((vars:Nat):Int)))),(2,some (D.ptr 0 0)),(8,some (D.v (V.one (El.row trE a.ts)))),(9,some (D.val (.int .i64 ((a.ts.length:Nat):Int)))),(10,some (D.val (.int .i64 ((i:Nat):Int))))]∧H = [hb_ 29 [El.row trE a.ts,Leaf.val (.bool a.c.neg),natL a.c.n,natL a.c.d]]∧i≤a.ts.length∧VN a vars i) ⟨0,rfl,rfl,rfl,Nat.zero_le _,VN.zero⟩ rfl ?_
 rintro m Γ H ⟨i,rfl,rfl,rfl,hi0,hN⟩
 refine zc 2 rfl ?_
 by_cases hi:i < a.ts.length
 ·refine tq_ rfl (ltT rfl) (zl 9 rfl ?_)
  obtain ⟨x,hx⟩:∃ x,a.ts[i]? = some x:=⟨_,List.getElem?_eq_getElem hi⟩
  have hxf:=hfit x (List.mem_of_getElem? hx)
  refine zc 2 rfl (tq_ rfl (jix i hx rfl) (tq_ rfl (jlr rfl) (zl 6 rfl (dr_ 0 [] [] (dz 2 rfl ?_)))))
  by_cases h1:x.v < 0
  ·refine kq_ rfl (ltT rfl) (dz 24 rfl (dz 10 rfl (DK_nil (za 7 rfl ?_))))
   exact r1_ hq_ rfl (by rw [vr_neg hx h1])
  ·refine kq_ rfl (ltF rfl) (dz 4 rfl ?_)
   by_cases h2:(vars:Int)≤x.v
   ·refine kq_ rfl (geT rfl) (dz 24 rfl (dz 5 rfl (DK_nil (za 7 rfl ?_))))
    exact r1_ hq_ rfl (by rw [vr_big hx h2])
   ·refine kq_ rfl (geF rfl) (dz 3 rfl ?_)
    by_cases hi1:0 < i
    ·refine kq_ rfl (gtT rfl) (dz 4 rfl ?_)
     obtain ⟨y,hy⟩:∃ y,a.ts[i - 1]? = some y:=⟨_,List.getElem?_eq_getElem (by omega)⟩
     refine kq_ rfl (jsb (i - 1) rfl) (kq_ rfl (jix (i - 1) hy rfl) (kq_ rfl (jfr rfl) (kq_ rfl (jli rfl) (dz 2 rfl ?_))))
     by_cases h4:x.v≤y.v
     ·refine kq_ rfl (geT rfl) (dz 14 rfl (DK_nil (za 7 rfl ?_)))
      exact r1_ hq_ rfl (by rw [vr_ord hi1 hx hy h4])
     ·refine kq_ rfl (geF rfl) (dz 5 rfl (kc_ fn43 rfl (qsign x.c (x.c.q) rfl (hxf.mono (by omega))) ?_))
      by_cases h5:x.c.q = 0
      ·refine kq_ rfl (eqT rfl (by rw [h5];rfl)) (dz 7 rfl (DK_nil (za 7 rfl ?_)))
       exact r1_ hq_ rfl (by rw [vr_zero hx h5])
      ·refine kq_ rfl (eqF rfl (sg_ne h5)) (dz 4 rfl (kc_ fn90 rfl (qvalid x.c (x.c.q) rfl (hxf.mono (by omega))) (dz 2 rfl (DK_nil (za 1 rfl ?_)))))
       refine Tc_cond rfl (fun hcc=>?_) (fun hcc=>?_)
       ·refine zc 5 rfl ?_
        exact r1_ hq_ rfl (by rw [vr_can hx (by simpa using hcc)])
       ·refine zc 4 rfl (tq_ rfl (jad (i + 1) rfl) (zl 2 rfl (At_free 1 (trim_ 1 rfl ?_))))
        exact nx_ ⟨i + 1,rfl,rfl,rfl,hi,hN.step hx (by simpa using hcc) h5 (by omega) (by omega) (fun u _ hu=>by rw [hy] at hu;cases hu;omega)⟩ rfl
    ·refine kq_ rfl (gtF rfl) (dz 16 rfl (kc_ fn43 rfl (qsign x.c (x.c.q) rfl (hxf.mono (by omega))) ?_))
     by_cases h5:x.c.q = 0
     ·refine kq_ rfl (eqT rfl (by rw [h5];rfl)) (dz 7 rfl (DK_nil (za 7 rfl ?_)))
      exact r1_ hq_ rfl (by rw [vr_zero hx h5])
     ·refine kq_ rfl (eqF rfl (sg_ne h5)) (dz 4 rfl (kc_ fn90 rfl (qvalid x.c (x.c.q) rfl (hxf.mono (by omega))) (dz 2 rfl (DK_nil (za 1 rfl ?_)))))
      refine Tc_cond rfl (fun hcc=>?_) (fun hcc=>?_)
      ·refine zc 5 rfl ?_
       exact r1_ hq_ rfl (by rw [vr_can hx (by simpa using hcc)])
      ·refine zc 4 rfl (tq_ rfl (jad (i + 1) rfl) (zl 2 rfl (At_free 1 (trim_ 1 rfl ?_))))
       exact nx_ ⟨i + 1,rfl,rfl,rfl,hi,hN.step hx (by simpa using hcc) h5 (by omega) (by omega) (fun u h0=>by omega)⟩ rfl
 ·refine tq_ rfl (ltF rfl) (zl 13 rfl (tc_ fn90 rfl (qvalid a.c (a.c.q) rfl (hfc.mono (by omega))) (zl 3 rfl ?_)))
  exact r1_ hq_ rfl (by rw [vrB_end (by rw [show a.ts.length = i by omega];exact hN)])
set_option maxRecDepth 10000 in
theorem rvalid_raw (a:Ar) (hfit:∀ t∈a.ts,Fit 1048576 t.c) (hfc:Fit 1048576 a.c) (hal:a.ts.length≤20) (vars:Nat) (hv:vars≤1000):Ctr Tryz.prog 51 [arV a,V.one (Leaf.val (.int .i64 ((vars:Int))))] (R.one (V.one (Leaf.val (.bool (vrB a vars))))):=by
 refine bd_ Tryz.func51 Tryz.ntmps51 rfl (fun w0 A0=>?_)
 refine zc 13 rfl (lpR_ (fun m Γ H=>∃ (i:Nat),a.ts.length - i = m∧Γ = [(1,some (D.val (.int .i64 ((vars:Nat):Int)))),(2,some (D.ptr 0 0)),(5,some (D.val (.int .i64 ((i:Nat):Int))))]∧H = [hb_ 29 [El.row trE a.ts,Leaf.val (.bool a.c.neg),natL a.c.n,natL a.c.d]]∧i≤a.ts.length∧VN a vars i) ⟨0,rfl,rfl,rfl,Nat.zero_le _,VN.zero⟩ rfl ?_)
 rintro m Γ H ⟨i,rfl,rfl,rfl,hi0,hN⟩
 refine zc 6 rfl (tq_ rfl (jln rfl) ?_)
 by_cases hi:i < a.ts.length
 ·refine tq_ rfl (ltT rfl) (zl 8 rfl ?_)
  obtain ⟨x,hx⟩:∃ x,a.ts[i]? = some x:=⟨_,List.getElem?_eq_getElem hi⟩
  have hxf:=hfit x (List.mem_of_getElem? hx)
  refine zc 4 rfl (tq_ rfl (jix i hx rfl) (tq_ rfl (jlr rfl) (zl 5 rfl (dr_ 0 [] [] (dz 2 rfl ?_)))))
  by_cases h1:x.v < 0
  ·refine kq_ rfl (ltT rfl) (dz 24 rfl (dz 10 rfl (DK_nil (za 7 rfl ?_))))
   exact r1_ hq_ rfl (by rw [vr_neg hx h1])
  ·refine kq_ rfl (ltF rfl) (dz 4 rfl ?_)
   by_cases h2:(vars:Int)≤x.v
   ·refine kq_ rfl (geT rfl) (dz 24 rfl (dz 5 rfl (DK_nil (za 7 rfl ?_))))
    exact r1_ hq_ rfl (by rw [vr_big hx h2])
   ·refine kq_ rfl (geF rfl) (dz 3 rfl ?_)
    by_cases hi1:0 < i
    ·refine kq_ rfl (gtT rfl) (dz 4 rfl ?_)
     obtain ⟨y,hy⟩:∃ y,a.ts[i - 1]? = some y:=⟨_,List.getElem?_eq_getElem (by omega)⟩
     refine kq_ rfl (jsb (i - 1) rfl) (kq_ rfl (jix (i - 1) hy rfl) (kq_ rfl (jfr rfl) (kq_ rfl (jli rfl) (dz 2 rfl ?_))))
     by_cases h4:x.v≤y.v
     ·refine kq_ rfl (geT rfl) (dz 14 rfl (DK_nil (za 7 rfl ?_)))
      exact r1_ hq_ rfl (by rw [vr_ord hi1 hx hy h4])
     ·refine kq_ rfl (geF rfl) (dz 5 rfl (kc_ fn37 rfl (rqsign x.c (x.c.q) rfl (hxf.mono (by omega))) ?_))
      by_cases h5:x.c.q = 0
      ·refine kq_ rfl (eqT rfl (by rw [h5];rfl)) (dz 7 rfl (DK_nil (za 7 rfl ?_)))
       exact r1_ hq_ rfl (by rw [vr_zero hx h5])
      ·refine kq_ rfl (eqF rfl (sg_ne h5)) (dz 4 rfl (kc_ fn110 rfl (rqvalid x.c (x.c.q) rfl (hxf.mono (by omega))) (dz 2 rfl (DK_nil (za 1 rfl ?_)))))
       refine Tc_cond rfl (fun hcc=>?_) (fun hcc=>?_)
       ·refine zc 5 rfl ?_
        exact r1_ hq_ rfl (by rw [vr_can hx (by simpa using hcc)])
       ·refine zc 5 rfl (tq_ rfl (jad (i + 1) rfl) (zl 2 rfl (At_free 1 (trim_ 1 rfl ?_))))
        exact nx_ ⟨i + 1,rfl,rfl,rfl,hi,hN.step hx (by simpa using hcc) h5 (by omega) (by omega) (fun u _ hu=>by rw [hy] at hu;cases hu;omega)⟩ rfl
    ·refine kq_ rfl (gtF rfl) (dz 16 rfl (kc_ fn37 rfl (rqsign x.c (x.c.q) rfl (hxf.mono (by omega))) ?_))
     by_cases h5:x.c.q = 0
     ·refine kq_ rfl (eqT rfl (by rw [h5];rfl)) (dz 7 rfl (DK_nil (za 7 rfl ?_)))
      exact r1_ hq_ rfl (by rw [vr_zero hx h5])
     ·refine kq_ rfl (eqF rfl (sg_ne h5)) (dz 4 rfl (kc_ fn110 rfl (rqvalid x.c (x.c.q) rfl (hxf.mono (by omega))) (dz 2 rfl (DK_nil (za 1 rfl ?_)))))
      refine Tc_cond rfl (fun hcc=>?_) (fun hcc=>?_)
      ·refine zc 5 rfl ?_
       exact r1_ hq_ rfl (by rw [vr_can hx (by simpa using hcc)])
      ·refine zc 5 rfl (tq_ rfl (jad (i + 1) rfl) (zl 2 rfl (At_free 1 (trim_ 1 rfl ?_))))
       exact nx_ ⟨i + 1,rfl,rfl,rfl,hi,hN.step hx (by simpa using hcc) h5 (by omega) (by omega) (fun u h0=>by omega)⟩ rfl
 ·refine tq_ rfl (ltF rfl) (zl 12 rfl (tc_ fn110 rfl (rqvalid a.c (a.c.q) rfl (hfc.mono (by omega))) (zl 3 rfl ?_)))
  exact r1_ hq_ rfl (by rw [vrB_end (by rw [show a.ts.length = i by omega];exact hN)])
set_option maxRecDepth 10000 in
theorem gv_zero  : Ctr Tryz.prog 91 [V.agg [Leaf.val (.int .i64 0),El.row afE [],El.row afE []]] (R.one (V.one (Leaf.val (.bool false)))):=by
 refine bd_ Tryz.func91 Tryz.ntmps91 rfl (fun w0 A0=>?_)
 refine zc 24 rfl (zl 19 rfl ?_)
 exact r1_ hq_ rfl rfl
set_option maxRecDepth 10000 in
theorem qv_zero  : Ctr Tryz.prog 75 [V.agg [Leaf.val (.int .i64 0),El.row afE [],El.row afE [],El.row ratE [],El.row ratE [],El.row afE [],El.row tmE [],Leaf.val (.bool false),natL [],natL []]] (R.one (V.one (Leaf.val (.bool false)))):=by
 refine bd_ Tryz.func75 Tryz.ntmps75 rfl (fun w0 A0=>?_)
 refine zc 10 rfl (tc_ fn91 rfl (gv_zero) (zl 24 rfl ?_))
 exact r1_ hq_ rfl rfl
set_option maxRecDepth 10000 in
theorem look_zero  : Ctr Tryz.prog 39 [V.agg scZ] (R.tup [V.one (Leaf.val (.pointer none)),V.one (Leaf.val (.bool false))]):=by
 refine bd_ Tryz.func39 Tryz.ntmps39 rfl (fun w0 A0=>?_)
 refine zc 12 rfl (tc_ fn75 rfl (qv_zero) (zl 10 rfl ?_))
 exact r2_ hq_ rfl rfl
set_option maxRecDepth 10000 in
theorem box_zero (a:Ar) (hfc:Fit 1048576 a.c):Ctr Tryz.prog 12 [V.agg [],V.agg scZ,arV a] (R.tup [qV (qOf 0),V.one (El.row muE []),V.one (Leaf.val (.bool false))]):=by
 refine bd_ Tryz.func12 Tryz.ntmps12 rfl (fun w0 A0=>?_)
 refine zc 13 rfl (tc_ fn39 rfl (look_zero) (zl 9 rfl (dr_ 0 [] [] (dz 11 rfl (DK_nil (za 10 rfl ?_))))))
 exact r3_ hq_ rfl (by show _ = R.tup [qV (qOf 0),_,_];rw [← qV_zero] <;> rfl)
set_option maxRecDepth 10000 in
theorem var_zero  : Ctr Tryz.prog 14 [V.agg scZ,V.one (Leaf.val (.int .i64 (0)))] (R.tup [qV (qOf 0),qV (qOf 0),V.one (Leaf.val (.bool false)),V.one (Leaf.val (.bool false))]):=by
 refine bd_ Tryz.func14 Tryz.ntmps14 rfl (fun w0 A0=>?_)
 refine zc 12 rfl (tc_ fn39 rfl (look_zero) (zl 24 rfl (zl 3 rfl ?_)))
 exact Tc_ret4 hq_ rfl (rA ty27 rfl rfl rfl rfl) (rA ty27 rfl rfl rfl rfl) rfl rfl (by show _ = R.tup [qV (qOf 0),qV (qOf 0),_,_];rw [← qV_zero] <;> rfl)
set_option maxRecDepth 10000 in
theorem box_bad (s:Sc) (hs:SB 40001 s) (a:Ar) (hfit:∀ t∈a.ts,Fit 1048576 t.c) (hfc:Fit 1048576 a.c) (hal:a.ts.length≤20) (h:vrB a (s.q.g.inp + s.q.g.us.length) = false):Ctr Tryz.prog 12 [V.agg [],scV s,arV a] (R.tup [qV (qOf 0),V.one (El.row muE []),V.one (Leaf.val (.bool false))]):=by
 refine bd_ Tryz.func12 Tryz.ntmps12 rfl (fun w0 A0=>?_)
 have hB:=hs.B;have hq:=hs.q;have hd:=hs.d;have hpl:=hs.pl;have hl:=hs.ll
 have hg:=hq.g;have hr:=hq.r;have hlo:=hr.lo;have hhi:=hr.hi
 have h1:=hg.i1;have h2:=hg.i3;have h3:=hg.u4;have h4:=hg.o1;have h5:=hg.o3
 refine zc 13 rfl (tc_ fn39 rfl (look_p s hs) (zl 9 rfl (dr_ 0 [] [] (dz 7 rfl (kc_ fn41 rfl (gvars_p s.q.g (by assumption)) (kc_ fn40 rfl (lvalid_raw a hfit hfc hal (s.q.g.inp + s.q.g.us.length) (by omega)) (kis_ false rfl (h) (dz 2 rfl (DK_nil ?_)))))))))
 refine za 10 rfl ?_
 exact r3_ hq_ rfl (by show _ = R.tup [qV (qOf 0),_,_];rw [← qV_zero] <;> rfl)
set_option maxRecDepth 10000 in
theorem boxr_bad (s:Sc) (hs:SB 40001 s) (a:Ar) (hfit:∀ t∈a.ts,Fit 1048576 t.c) (hfc:Fit 1048576 a.c) (hal:a.ts.length≤20) (h:vrB a (s.q.g.inp + s.q.g.us.length) = false):Ctr Tryz.prog 13 [scV s,arV a] (R.tup [qV (qOf 0),V.one (El.row muE []),V.one (Leaf.val (.bool false))]):=by
 refine bd_ Tryz.func13 Tryz.ntmps13 rfl (fun w0 A0=>?_)
 have hB:=hs.B;have hq:=hs.q;have hd:=hs.d;have hpl:=hs.pl;have hl:=hs.ll
 have hg:=hq.g;have hr:=hq.r;have hlo:=hr.lo;have hhi:=hr.hi
 have h1:=hg.i1;have h2:=hg.i3;have h3:=hg.u4;have h4:=hg.o1;have h5:=hg.o3
 refine zc 11 rfl (dr_ 0 [] [] (dz 2 rfl (kc_ fn50 rfl (qvalid_r s.q hq) (dz 6 rfl (kc_ fn52 rfl (vars_r s.q.g (by assumption)) (kc_ fn51 rfl (rvalid_raw a hfit hfc hal (s.q.g.inp + s.q.g.us.length) (by omega)) (kis_ false rfl (h) (dz 2 rfl (DK_nil ?_)))))))))
 refine za 10 rfl ?_
 exact r3_ hq_ rfl (by show _ = R.tup [qV (qOf 0),_,_];rw [← qV_zero] <;> rfl)
theorem box_any (s:Sc) (hs:SB 40001 s) (a:Ar) (hfit:∀ t∈a.ts,Fit 1048576 t.c) (hfc:Fit 1048576 a.c) (hal:a.ts.length≤20):Ctr Tryz.prog 12 [V.agg [],scV s,arV a] (R.tup [qV (qOf (boxA s a).1),V.one (El.row muE (boxA s a).2.1),V.one (Leaf.val (.bool (boxA s a).2.2))]):=by
 cases h:vrB a (s.q.g.inp + s.q.g.us.length)
 ·rw [boxA_f h];exact box_bad s hs a hfit hfc hal h
 ·rw [boxA_t h,arV_eq (vrB_iff.1 h)];exact box_p s hs (toAf a) (toAf_ok (vrB_iff.1 h) hfit hfc) (by decide)
theorem boxr_any (s:Sc) (hs:SB 40001 s) (a:Ar) (hfit:∀ t∈a.ts,Fit 1048576 t.c) (hfc:Fit 1048576 a.c) (hal:a.ts.length≤20):Ctr Tryz.prog 13 [scV s,arV a] (R.tup [qV (qOf (boxA s a).1),V.one (El.row muE (boxA s a).2.1),V.one (Leaf.val (.bool (boxA s a).2.2))]):=by
 cases h:vrB a (s.q.g.inp + s.q.g.us.length)
 ·rw [boxA_f h];exact boxr_bad s hs a hfit hfc hal h
 ·rw [boxA_t h,arV_eq (vrB_iff.1 h)];exact boxr s hs (toAf a) (toAf_ok (vrB_iff.1 h) hfit hfc) (by decide)
end Go.Proofs.YtmpkandbccallaaGreatDoor
