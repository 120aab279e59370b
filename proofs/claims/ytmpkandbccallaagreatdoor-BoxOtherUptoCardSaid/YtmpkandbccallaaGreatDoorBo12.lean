/- Parts of the proof, 12: the texts WkBoxOther, FactsZ, FactsX, FactsT, FactsK, FactsL, FactsU, as far as they are used. -/
import Derived.Test.YtmpkandbccallaaGreatDoorBo11
import Derived.Test.YtmpkandbccallaaGreatDoorProg
import Derived.KernelRfl
import Derived.Test.YtmpkandbccallaaGreatDoorRows
import Derived.LaidMore
import Derived.LaidLaws
import Derived.LaidHandle
import Derived.JoinedOf
import Derived.ChangeSame
import Derived.ChangeVars
import Derived.Stop.Joined
set_option linter.unusedSimpArgs false
set_option linter.unusedVariables false
namespace Go.Proofs.YtmpkandbccallaaGreatDoor
open Go Go.RowKit Rc
set_option maxRecDepth 10000 in
set_option maxHeartbeats 2000000 in
theorem law_bother (l:List Nat) (hb:∀ x∈l,x < 256) (a:Ar) (hfit:∀ t∈a.ts,Fit 1048576 t.c) (hfc:Fit 1048576 a.c):Ctr Tryz.prog 3 [V.one (El.row u8E l),arV a] (R.one (V.one (Leaf.val (.bool true)))):=by
 refine bd_ Tryz.func3 Tryz.ntmps3 rfl (fun w0 A0=>?_)
 refine zc 9 rfl (tc_ fn10 rfl (awake24) (zl 10 rfl (tq_ rfl (jln rfl) ?_)))
 by_cases hl3:300 < l.length
 ·refine tq_ rfl (gtT rfl) (zl 14 rfl ?_)
  exact r1_ hq_ rfl rfl
 ·refine tq_ rfl (gtF rfl) (zl 3 rfl (tq_ rfl (jln rfl) ?_))
  by_cases hl40:20 < a.ts.length
  ·refine tq_ rfl (gtT rfl) (zl 9 rfl ?_)
   exact r1_ hq_ rfl rfl
  ·refine tq_ rfl (gtF rfl) (zl 7 rfl ?_)
   have hl:l.length≤1000000:=by omega
   obtain ⟨hs,h8⟩:=extM_ok l
   have hg_:=hs.q.g
   have hi1:=hg_.i1;have hi3:=hg_.i3;have hu4:=hg_.u4
   have hal:a.ts.length≤20:=by omega
   have hlen:=boxA_len hs.sb hfit hfc
   refine nz_ [so 0 (D.v (V.one (El.row u8E l))),so 3 (D.ptr 0 0)] [hb_ 29 [El.row trE a.ts,Leaf.val (.bool a.c.neg),natL a.c.n,natL a.c.d]] rfl rfl (zc 2 rfl (tc_ fn11 rfl (scope24 l hl hb) (zl 9 rfl (tc_ fn12 rfl (box_any (extM l) hs.sb a hfit hfc hal) (zl 11 rfl ?_)))))
   refine nz_ [so 3 _,so 5 (D.ptr 1 0),so 6 (D.ptr 2 0),so 7 (D.v (V.one (El.row muE ((boxA (extM l) a).2.1)))),so 8 (D.bool ((boxA (extM l) a).2.2))] [_,hb_ 42 (scL (extM l)),hb_ 27 (qL ((boxA (extM l) a).1))] rfl rfl (zc 3 rfl (tc_ fn13 rfl (boxr_any (extM l) hs.sb a hfit hfc hal) (zl 11 rfl ?_)))
   refine nf_ [1] [so 3 _,so 6 _,so 7 _,so 8 _,so 9 (D.ptr 3 0),so 10 (D.v (V.one (El.row muE ((boxA (extM l) a).2.1)))),so 11 (D.bool ((boxA (extM l) a).2.2))] [_,none,_,hb_ 27 (qL ((boxA (extM l) a).1))] rfl rfl rfl (zc 4 rfl (tc_ fn12 rfl (box_zero a hfc) (zl 11 rfl ?_)))
   refine nf_ [0,4] [so 6 _,so 7 _,so 8 _,so 9 _,so 10 _,so 11 _,so 14 (D.bool false)] [none,none,_,_,none] rfl rfl rfl (zc 2 rfl (tc_ fn14 rfl (var_zero) (zl 14 rfl (nf_ [5,6] [so 6 _,so 7 _,so 8 _,so 9 _,so 10 _,so 11 _,so 14 _,so 17 (D.bool false),so 18 (D.bool false)] [none,none,_,_,none,none,none] rfl rfl rfl (zc 3 rfl ?_)))))
   refine tq_ rfl (Jq_eql_bool rfl rfl rfl un4 (d:=true) (by simp)) (zl 3 rfl (tc_ fn15 rfl (rqsame (qOf (boxA (extM l) a).1) (qOf (boxA (extM l) a).1)) (is_ true rfl (sameQ_self _) (zl 4 rfl (tc_ fn16 rfl (samem_r (boxA (extM l) a).2.1 (by omega)) (zl 16 rfl ?_))))))
   exact r1_ hq_ rfl rfl
end Go.Proofs.YtmpkandbccallaaGreatDoor
set_option linter.unusedSimpArgs false
set_option linter.unusedVariables false
namespace Go.Proofs.YtmpkandbccallaaGreatDoor
open Go Go.RowKit Rc
theorem own:ownKnob Tryz.prog.godebug = none:=by kernel_rfl
theorem laidOut:laidOutB Tryz.prog = true:=by kernel_rfl
theorem numTy:NumTy Tryz.prog 4 25 164 27:=⟨by kernel_rfl,by kernel_rfl,by kernel_rfl,by kernel_rfl,by kernel_rfl,by kernel_rfl,by kernel_rfl,by kernel_rfl⟩
end Go.Proofs.YtmpkandbccallaaGreatDoor
set_option linter.unusedSimpArgs false
set_option linter.unusedVariables false
namespace Go.Proofs.YtmpkandbccallaaGreatDoor
open Go Go.RowKit Rc
theorem undBs:Tryz.prog.underlying 22 = some (.slice 5):=by kernel_rfl
theorem undU8:Tryz.prog.underlying 5 = some (.int .u8):=by kernel_rfl
theorem cellsU8:Tryz.prog.cellsOf 5 = 1:=by kernel_rfl
end Go.Proofs.YtmpkandbccallaaGreatDoor
set_option linter.unusedSimpArgs false
set_option linter.unusedVariables false
namespace Go.Proofs.YtmpkandbccallaaGreatDoor
open Go Go.RowKit Rc
theorem gTab : Tryz.prog.globalNamed "math/bits.deBruijn32tab" = some 0:=by kernel_rfl
theorem tTab:(Tryz.prog.globals[0]?).map (·.type) = some 238:=by kernel_rfl
theorem uTab:Tryz.prog.underlying 238 = some (.array 32 5):=by kernel_rfl
theorem uEl:Tryz.prog.underlying 5 = some (.int .u8):=by kernel_rfl
theorem cEl:Tryz.prog.cellsOf 5 = 1:=by kernel_rfl
theorem cTab:Tryz.prog.cellsOf 238 = 32:=by kernel_rfl
theorem undI:Tryz.prog.underlying 3 = some (.int .i64):=by kernel_rfl
theorem cellsI64:Tryz.prog.cellsOf 3 = 1:=by kernel_rfl
open Go.ChangeShapes Go.WideShapes
@[reducible] def laidL:List (String × DataW Unit):=[("math/bits.deBruijn32tab",Rows.laid_math_bits_deBruijn32tab)]
theorem door_met (os:Os) (args:Array Value):laidMetH Tryz.prog laidL ((World.doorLaid Tryz.prog 400 os).forCall (fun _ _=>0) ⟨#[],args,[]⟩).memory:=
 laidMetH_of_parts3 (fuel:=8) (laidMet_of_run' 8 (by kernel_rfl) (by kernel_rfl)) (by kernel_rfl) (by kernel_rfl)
theorem tab_data:(Rows.laid_math_bits_deBruijn32tab:DataW Unit) = .agg (bruijn.map fun n:Nat=>.lit (.int .u8 (n:Int))):=by kernel_rfl
theorem glob_of_laid {W:World} (h:laidMetH Tryz.prog laidL W):Glob W:=by
 rw [MakeChecks.laidMetH_plain _ _ _ (by kernel_rfl)] at h
 obtain ⟨ps,⟨g0,t0,cs0,f0,p0,q0,hg0,ht0,hv0,hd0,_,_⟩,_⟩:=h
 obtain rfl:=Option.some.inj (gTab.symm.trans hg0)
 obtain rfl:=Option.some.inj (tTab.symm.trans ht0)
 obtain ⟨xs,m,_,hx,hlen,hxs,hel⟩:=DataW.trod_array uTab hd0
 rw [tab_data] at hx
 have hd:=congrArg Prod.fst hx
 simp only [DataW.agg.injEq] at hd
 rw [cTab] at hlen
 have key:∀ (i:Nat) (k:Nat),bruijn[i]? = some k→cs0[i]? = some (.int .u8 (k:Int)):=by
  intro i k hk
  have hi:i < 32:=(List.getElem?_eq_some_iff.1 hk).1
  have h1:=hel i hi
  rw [List.getElem?_eq_getElem (by omega)] at h1
  obtain ⟨n,hc,hxn,_⟩:=DataW.trod_int uEl h1
  have h2:=congrArg (fun l=>l[i]?) hd
  simp only [List.getElem?_map,hk,List.getElem?_eq_getElem (show i < xs.length by omega),Option.map_some,hxn] at h2
  have h3:n = (k:Int):=by
   have:=Option.some.inj h2
   simp only [DataW.lit.injEq,Lit.int.injEq,true_and] at this
   exact this.symm
  subst h3
  rw [cEl,Nat.mul_one] at hc
  have h4:=congrArg (fun l=>l[0]?) hc
  simp only [List.getElem?_take,List.getElem?_drop,Nat.add_zero,Nat.zero_lt_one,if_true,List.getElem?_cons_zero] at h4
  rw [← Array.getElem?_toList]
  exact h4
 intro p hp
 have hp':p = (0,bruijn.map fun n:Nat=>Value.int .u8 (n:Int)):=by simpa [tab,bruijn] using hp
 subst hp'
 have hcell:=fun i:Nat=>World.var?_cell hg0 hv0 i
 refine ⟨?_,fun i v hv=>?_⟩
 ·have h0:=hcell 0
  rw [key 0 0 rfl] at h0
  unfold World.cell? at h0
  cases hh:W.heap[0]? with
  | none=>simp [hh] at h0
  | some o=>exact (Array.getElem?_eq_some_iff.1 hh).1
 ·simp only [List.getElem?_map] at hv
  cases hk:bruijn[i]? with
  | none=>rw [hk] at hv;simp at hv
  | some k=>
   rw [hk] at hv
   simp only [Option.map_some,Option.some.injEq] at hv
   rw [hcell i,key i k hk,hv]
end Go.Proofs.YtmpkandbccallaaGreatDoor
set_option linter.unusedSimpArgs false
set_option linter.unusedVariables false
namespace Go.Proofs.YtmpkandbccallaaGreatDoor
open Go Go.RowKit Rc
end Go.Proofs.YtmpkandbccallaaGreatDoor
set_option linter.unusedSimpArgs false
set_option linter.unusedVariables false
namespace Go.Proofs.YtmpkandbccallaaGreatDoor
open Go Go.RowKit Rc
end Go.Proofs.YtmpkandbccallaaGreatDoor
set_option linter.unusedSimpArgs false
set_option linter.unusedVariables false
namespace Go.Proofs.YtmpkandbccallaaGreatDoor
open Go Go.RowKit Rc
theorem arTy:ArTy Tryz.prog 4 25 164 27 3 92 23 29:=⟨numTy,undI,cellsI64,by kernel_rfl,by kernel_rfl,by kernel_rfl,by kernel_rfl,by kernel_rfl,by kernel_rfl⟩
end Go.Proofs.YtmpkandbccallaaGreatDoor
