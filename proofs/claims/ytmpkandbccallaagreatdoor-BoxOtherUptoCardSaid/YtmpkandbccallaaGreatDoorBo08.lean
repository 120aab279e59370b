/- Parts of the proof, 8: the texts WlF, Row, WlG, WlH, WlI, Form, WlJ, WlK, WlL, Abv, WlM, as far as they are used. -/
import Derived.Test.YtmpkandbccallaaGreatDoorBo07
set_option linter.unusedSimpArgs false
set_option linter.unusedVariables false
namespace Go.Proofs.YtmpkandbccallaaGreatDoor
open Go Go.RowKit Rc
set_option maxRecDepth 10000 in
theorem iof_z (z:Int) (h1:-9223372036854775808≤z) (h2:z≤9223372036854775807):Ctr Tryz.prog 134 [V.one (Leaf.val (.int .i64 z))] (R.one (zV (zOf z))):=by
 refine bd_ Tryz.func134 Tryz.ntmps134 rfl (fun w0 A0=>?_)
 refine zc 9 rfl ?_
 by_cases hz0:z < 0
 ·refine tq_ rfl (ltT rfl) (zl 6 rfl (tq_ rfl (jc6 (18446744073709551616 - z.natAbs) rfl) (tq_ rfl (Jq_neg rfl rfl (r:=((z.natAbs:Nat):Int)) (wu64 (by omega))) (tc_ fn183 rfl (of_spec z.natAbs (by omega)) (zl 4 rfl ?_)))))
  exact r1_ hq_ rfl (by show R.one (V.agg [Leaf.val (.bool true),natL (limbs z.natAbs)]) = R.one (V.agg [Leaf.val (.bool (decide (z < 0))),natL (limbs z.natAbs)]);rw [decide_eq_true hz0])
 ·refine tq_ rfl (ltF rfl) (zl 8 rfl (tq_ rfl (jc6 z.natAbs rfl) (tc_ fn183 rfl (of_spec z.natAbs (by omega)) (zl 4 rfl ?_))))
  exact r1_ hq_ rfl (by show R.one (V.agg [Leaf.val (.bool false),natL (limbs z.natAbs)]) = R.one (V.agg [Leaf.val (.bool (decide (z < 0))),natL (limbs z.natAbs)]);rw [decide_eq_false hz0])
set_option maxRecDepth 10000 in
theorem qwhole (z:Int) {B:Nat} [Bz z B] (hB:B≤1000):Ctr Tryz.prog 133 [zV (zOf z)] (R.one (qV (qOf (z:Rat)))):=by
 refine bd_ Tryz.func133 Tryz.ntmps133 rfl (fun w0 A0=>?_)
 refine zc 7 rfl (dr_ 0 [(6,1)] [1] (dz 4 rfl (kc_ fn162 rfl (qone) (kc_ fn99 rfl (qquot (decide (z < 0)) (limbs (Int.natAbs (z))) [1] (small_limbs _) (Small.cons (by decide) Small.nil) (Bz.use (z:=z) (by omega)) (by simp) (Int.natAbs (z)) (1) (val_limbs _) rfl (by decide)) (dz 1 rfl (DK_nil (za 1 rfl ?_)))))))
 exact r1_ hq_ rfl (by rw [rq_intz] <;> rfl)
set_option maxRecDepth 10000 in
theorem qof_spec (z:Int) (h1:-9223372036854775808≤z) (h2:z≤9223372036854775807):Ctr Tryz.prog 80 [V.one (Leaf.val (.int .i64 z))] (R.one (qV (qOf (z:Rat)))):=by
 refine bd_ Tryz.func80 Tryz.ntmps80 rfl (fun w0 A0=>?_)
 haveI:Bz z 2:=⟨Bn.of_lt (by omega) (by omega)⟩
 refine zc 8 rfl (tc_ fn134 rfl (iof_z z (by omega) (by omega)) (tc_ fn133 rfl (qwhole z (by omega)) (zl 3 rfl ?_)))
 exact r1_ hq_ rfl rfl
set_option maxRecDepth 10000 in
theorem lvalid (f:Af) {b n:Nat} (h:FOk b n f) (hb:b≤100000000) (vars:Nat) (hv:n≤vars) (hv2:vars≤1000):Ctr Tryz.prog 40 [afV f,V.one (Leaf.val (.int .i64 ((vars:Int))))] (R.one (V.one (Leaf.val (.bool true)))):=by
 refine bd_ Tryz.func40 Tryz.ntmps40 rfl (fun w0 A0=>?_)
 haveI:=h.br
 have hln:=h.len
 refine zc 11 rfl (tq_ rfl (jln rfl) (zl 4 rfl ?_))
 refine lpR_ (fun m Γ H=>∃ (i:Nat),f.ts.length - i = m∧Γ = [(1,some (D.val (.int .i64 ((vars:Nat):Int)))),(2,some (D.ptr 0 0)),(8,some (D.v (V.one (El.row tmE f.ts)))),(9,some (D.val (.int .i64 ((f.ts.length:Nat):Int)))),(10,some (D.val (.int .i64 ((i:Nat):Int))))]∧H = [hb_ 29 (afL f)]∧i≤f.ts.length) ⟨0,rfl,rfl,rfl,Nat.zero_le _⟩ rfl ?_
 rintro m Γ H ⟨i,rfl,rfl,rfl,hi0⟩
 refine zc 2 rfl ?_
 by_cases hi:i < f.ts.length
 ·refine tq_ rfl (ltT rfl) (zl 9 rfl ?_)
  obtain ⟨x,hx⟩:∃ x,f.ts[i]? = some x:=⟨_,List.getElem?_eq_getElem hi⟩
  have hxm:=List.mem_of_getElem? hx
  haveI hbx:=(h.bd x hxm).br
  obtain ⟨hn0,hgt,hlt⟩:=h.can.get hx
  have hxv:=h.var x hxm
  refine zc 2 rfl (tq_ rfl (jix i hx rfl) (tq_ rfl (jlr rfl) (zl 6 rfl (dr_ 0 [] [] (dz 2 rfl (kq_ rfl (ltF rfl) (dz 4 rfl (kq_ rfl (geF rfl) (dz 3 rfl ?_)))))))))
  by_cases hi1:0 < i
  ·refine kq_ rfl (gtT rfl) (dz 4 rfl ?_)
   obtain ⟨y,hy⟩:∃ y,f.ts[i - 1]? = some y:=⟨_,List.getElem?_eq_getElem (by omega)⟩
   have hyx:=h.can.prev hi1 hx hy
   refine kq_ rfl (jsb (i - 1) rfl) (kq_ rfl (jix (i - 1) hy rfl) (kq_ rfl (jfr rfl) (kq_ rfl (jli rfl) (dz 2 rfl (kq_ rfl (geF rfl) (dz 5 rfl (kc_ fn43 rfl (qsign (qOf (x.2)) (x.2) (qOf_q _) (Br.use (by omega))) (kq_ rfl (eqF rfl (sg_ne hn0)) (dz 4 rfl ?_)))))))))
   refine kc_ fn90 rfl (qvalid (qOf (x.2)) (x.2) (qOf_q _) (Br.use (by omega))) (kis_ true rfl (isC_of _) (dz 2 rfl (DK_nil (za 6 rfl (tq_ rfl (jad (i + 1) rfl) (zl 2 rfl (At_free 1 (trim_ 1 rfl ?_))))))))
   exact nx_ ⟨i + 1,rfl,rfl,rfl,hi⟩ rfl
  ·refine kq_ rfl (gtF rfl) (dz 16 rfl (kc_ fn43 rfl (qsign (qOf (x.2)) (x.2) (qOf_q _) (Br.use (by omega))) (kq_ rfl (eqF rfl (sg_ne hn0)) (dz 4 rfl (kc_ fn90 rfl (qvalid (qOf (x.2)) (x.2) (qOf_q _) (Br.use (by omega))) (kis_ true rfl (isC_of _) (dz 2 rfl (DK_nil (za 6 rfl ?_)))))))))
   refine tq_ rfl (jad (i + 1) rfl) (zl 2 rfl (At_free 1 (trim_ 1 rfl ?_)))
   exact nx_ ⟨i + 1,rfl,rfl,rfl,hi⟩ rfl
 ·refine tq_ rfl (ltF rfl) (zl 13 rfl (tc_ fn90 rfl (qvalid (qOf (f.c)) (f.c) (qOf_q _) (Br.use (by omega))) (is_ true rfl (isC_of _) (zl 3 rfl ?_))))
  exact r1_ hq_ rfl rfl
set_option maxRecDepth 10000 in
theorem idxfunc (l:List Af) (f:Nat) (ls:List Leaf) (hl:l.length≤1000000) (hf:FnOk Tryz.prog f) (hp:∀ x∈l,Ctr Tryz.prog f ([afV x] ++ ones ls) (R.one (V.one (Leaf.val (.bool false))))):Ctr Tryz.prog 208 [V.one (El.row afE l),V.one (Leaf.rep (funcRep f ls))] (R.one (V.one (Leaf.val (.int .i64 (-1))))):=by
 refine bd_ Tryz.func208 Tryz.ntmps208 rfl (fun w0 A0=>?_)
 refine zc 9 rfl (tq_ rfl (jln rfl) (zl 4 rfl (lpR_ (fun m Γ H=>∃ (i:Nat),l.length - i = m∧Γ = [(0,some (D.v (V.one (El.row afE l)))),(1,some (D.rep (funcRep f ls))),(7,some (D.val (.int .i64 ((l.length:Nat):Int)))),(8,some (D.val (.int .i64 ((i:Nat):Int))))]∧H = []∧i≤l.length) ⟨0,rfl,rfl,rfl,Nat.zero_le _⟩ rfl ?_)))
 rintro m Γ H ⟨i,rfl,rfl,rfl,hi0⟩
 refine zc 2 rfl ?_
 by_cases hi:i < l.length
 ·refine tq_ rfl (ltT rfl) (zl 15 rfl ?_)
  obtain ⟨x,hx⟩:∃ x,l[i]? = some x:=⟨_,List.getElem?_eq_getElem hi⟩
  refine zc 4 rfl (tq_ rfl (jix i hx rfl) (tq_ rfl (jlr rfl) (te_ rfl (Je_callVR rfl rfl hf rfl (hp x (List.mem_of_getElem? hx))) (zl 7 rfl (tq_ rfl (jad (i + 1) rfl) (zl 2 rfl ?_))))))
  exact nx_ ⟨i + 1,rfl,rfl,rfl,hi⟩ rfl
 ·refine tq_ rfl (ltF rfl) (zl 14 rfl ?_)
  exact r1_ hq_ rfl rfl
set_option maxRecDepth 10000 in
theorem hasfunc (l:List Af) (f:Nat) (ls:List Leaf) (hl:l.length≤1000000) (hf:FnOk Tryz.prog f) (hp:∀ x∈l,Ctr Tryz.prog f ([afV x] ++ ones ls) (R.one (V.one (Leaf.val (.bool false))))):Ctr Tryz.prog 180 [V.one (El.row afE l),V.one (Leaf.rep (funcRep f ls))] (R.one (V.one (Leaf.val (.bool false)))):=by
 refine bd_ Tryz.func180 Tryz.ntmps180 rfl (fun w0 A0=>?_)
 refine zc 9 rfl (tc_ fn208 rfl (idxfunc l f ls hl hf hp) (zl 4 rfl ?_))
 exact r1_ hq_ rfl rfl
set_option maxRecDepth 10000 in
theorem gvalid1 (f:Af) {b n:Nat} (h:FOk b n f) (hb:b≤100000000) (vars:Nat) (hv:n≤vars) (hv2:vars≤1000):Ctr Tryz.prog 190 [afV f,V.one (Leaf.rep (ptrRep [Leaf.val (.int .i64 ((vars:Nat):Int))]))] (R.one (V.one (Leaf.val (.bool false)))):=by
 refine bd_ Tryz.func190 Tryz.ntmps190 rfl (fun w0 A0=>?_)
 refine zc 9 rfl (tq_ rfl (jli rfl) (tc_ fn40 rfl (lvalid f h hb vars hv hv2) (zl 4 rfl ?_)))
 exact r1_ hq_ rfl rfl
set_option maxRecDepth 10000 in
theorem rvalid1 (f:Af) {b n:Nat} (h:FOk b n f) (hb:b≤100000000) (vars:Nat) (hv:n≤vars) (hv2:vars≤1000):Ctr Tryz.prog 181 [afV f,V.one (Leaf.rep (ptrRep [Leaf.val (.int .i64 ((vars:Nat):Int))]))] (R.one (V.one (Leaf.val (.bool false)))):=by
 refine bd_ Tryz.func181 Tryz.ntmps181 rfl (fun w0 A0=>?_)
 refine zc 9 rfl (tq_ rfl (jli rfl) (tc_ fn40 rfl (lvalid f h hb vars hv hv2) (zl 4 rfl ?_)))
 exact r1_ hq_ rfl rfl
set_option maxRecDepth 10000 in
theorem gvall (l:List Af) {b n:Nat} (h:∀ f∈l,FOk b n f) (hb:b≤100000000) (hl:l.length≤1000) (vars:Nat) (hv:n≤vars) (hv2:vars≤1000):Ctr Tryz.prog 147 [V.one (El.row afE l),V.one (Leaf.val (.int .i64 ((vars:Int))))] (R.one (V.one (Leaf.val (.bool true)))):=by
 refine bd_ Tryz.func147 Tryz.ntmps147 rfl (fun w0 A0=>?_)
 refine zc 9 rfl (Tl_freeze 3 rfl rfl rfl (te_ rfl (Je_makeFuncR [Leaf.rep (ptrRep [Leaf.val (.int .i64 ((vars:Nat):Int))])] rfl rfl) (tc_ fn180 rfl (hasfunc l 190 _ (by omega) fn190 (fun x hx=>gvalid1 x (h x hx) hb vars hv hv2)) (zl 4 rfl ?_))))
 exact r1_ hq_ rfl rfl
set_option maxRecDepth 10000 in
theorem gvalid_p (g:Gr) (hg:GOk g):Ctr Tryz.prog 91 [grV g] (R.one (V.one (Leaf.val (.bool true)))):=by
 refine bd_ Tryz.func91 Tryz.ntmps91 rfl (fun w0 A0=>?_)
 have h1:=hg.i1;have h2:=hg.i3;have h3:=hg.u4;have h4:=hg.o1;have h5:=hg.o3
 refine zc 11 rfl (tq_ rfl (ltF rfl) (zl 3 rfl (tq_ rfl (gtF rfl) (zl 4 rfl (tq_ rfl (jln rfl) (tq_ rfl (gtF rfl) (zl 4 rfl (tq_ rfl (jln rfl) (tq_ rfl (ltF rfl) ?_)))))))))
 refine zl 4 rfl (tq_ rfl (jln rfl) (tq_ rfl (gtF rfl) (zl 11 rfl (tq_ rfl (jln rfl) (zl 4 rfl ?_)))))
 refine lpR_ (fun m Γ H=>∃ (i:Nat),g.us.length - i = m∧Γ = [(1,some (D.ptr 0 0)),(32,some (D.v (V.one (El.row afE g.us)))),(33,some (D.val (.int .i64 ((g.us.length:Nat):Int)))),(34,some (D.val (.int .i64 ((i:Nat):Int))))]∧H = [hb_ 33 [Leaf.val (.int .i64 ((g.inp:Nat):Int)),El.row afE g.us,El.row afE g.os]]∧i≤g.us.length) ⟨0,rfl,rfl,rfl,Nat.zero_le _⟩ rfl ?_
 rintro m Γ H ⟨i,rfl,rfl,rfl,hi0⟩
 refine zc 2 rfl ?_
 by_cases hi:i < g.us.length
 ·refine tq_ rfl (ltT rfl) (zl 9 rfl ?_)
  obtain ⟨x,hx⟩:∃ x,g.us[i]? = some x:=⟨_,List.getElem?_eq_getElem hi⟩
  have hxo:=hg.us i x hx
  refine zc 2 rfl (tq_ rfl (jix i hx rfl) (tq_ rfl (jlr rfl) (zl 11 rfl (tq_ rfl (jad (g.inp + i) rfl) (tc_ fn40 rfl (lvalid x hxo (by omega) (g.inp + i) (Nat.le_refl _) (by omega)) (zl 8 rfl (tq_ rfl (jad (i + 1) rfl) (zl 2 rfl (At_free 1 ?_)))))))))
  refine trim_ 1 rfl ?_
  exact nx_ ⟨i + 1,rfl,rfl,rfl,hi⟩ rfl
 ·refine tq_ rfl (ltF rfl) (zl 17 rfl (tq_ rfl (jln rfl) (tq_ rfl (jad (g.inp + g.us.length) rfl) (tc_ fn147 rfl (gvall g.os hg.os (by omega) (by omega) (g.inp + g.us.length) (Nat.le_refl _) (by omega)) (zl 3 rfl ?_)))))
  exact r1_ hq_ rfl rfl
set_option maxRecDepth 10000 in
theorem rgvalid_p (r:Rg) (n:Nat) (hr:ROk n r) (hn1:1≤n) (hn3:n≤3):Ctr Tryz.prog 131 [rgV r,V.one (Leaf.val (.int .i64 ((n:Int))))] (R.one (V.one (Leaf.val (.bool true)))):=by
 refine bd_ Tryz.func131 Tryz.ntmps131 rfl (fun w0 A0=>?_)
 have h1:=hr.lo;have h2:=hr.hi;have h3:=hr.r2
 refine zc 11 rfl (tq_ rfl (ltF rfl) (zl 2 rfl (tq_ rfl (gtF rfl) (zl 4 rfl (tq_ rfl (jln rfl) (zl 1 rfl (tq_ rfl (neF rfl) (zl 4 rfl (tq_ rfl (jln rfl) ?_)))))))))
 refine zl 1 rfl (tq_ rfl (neF rfl) (zl 4 rfl (tq_ rfl (jln rfl) (tq_ rfl (gtF rfl) (zl 11 rfl (tq_ rfl (jln rfl) (zl 4 rfl ?_)))))))
 refine lpR_ (fun m Γ H=>∃ (i:Nat),n - i = m∧Γ = [(2,some (D.ptr 0 0)),(3,some (D.ptr 1 0)),(34,some (D.v (V.one (El.row ratE r.lo)))),(35,some (D.val (.int .i64 ((r.lo.length:Nat):Int)))),(36,some (D.val (.int .i64 ((i:Nat):Int))))]∧H = [hb_ 36 [El.row ratE r.lo,El.row ratE r.hi,El.row afE r.rows],hb_ 3 [Leaf.val (.int .i64 ((n:Nat):Int))]]∧i≤n) ⟨0,rfl,rfl,rfl,Nat.zero_le _⟩ rfl ?_
 rintro m Γ H ⟨i,rfl,rfl,rfl,hi0⟩
 refine zc 2 rfl ?_
 by_cases hi:i < r.lo.length
 ·refine tq_ rfl (ltT rfl) (zl 9 rfl ?_)
  obtain ⟨x,hx⟩:∃ x,r.lo[i]? = some x:=⟨_,List.getElem?_eq_getElem (by omega)⟩
  obtain ⟨y,hy⟩:∃ y,r.hi[i]? = some y:=⟨_,List.getElem?_eq_getElem (by omega)⟩
  obtain ⟨hb1,hb2,hxy⟩:=hr.bd i x y hx hy
  haveI:=hb1.br;haveI:=hb2.br
  refine zc 2 rfl (tq_ rfl (jix i hx rfl) (tq_ rfl (jlr rfl) (zl 6 rfl (dr_ 0 [] [] (dz 1 rfl (kc_ fn90 rfl (qvalid (qOf (x)) (x) (qOf_q _) (Br.use (by omega))) (kis_ true rfl (isC_of _) (dz 5 rfl (kq_ rfl (jix i hy rfl) ?_)))))))))
  refine kq_ rfl (jlr rfl) (kc_ fn90 rfl (qvalid (qOf (y)) (y) (qOf_q _) (Br.use (by omega))) (kis_ true rfl (isC_of _) (dz 7 rfl (kq_ rfl (jix i hy rfl) (kq_ rfl (jlr rfl) (kc_ fn83 rfl (qcmp (qOf (x)) (x) (qOf_q _) (Br.use (by omega)) (qOf (y)) (y) (qOf_q _) (Br.use (by omega))) (kq_ rfl (gtF rfl (by have:=cmpq_le.2 hxy;omega)) (dz 1 rfl (DK_nil ?_)))))))))
  refine za 6 rfl (tq_ rfl (jad (i + 1) rfl) (zl 2 rfl (At_free 2 (trim_ 2 rfl ?_))))
  exact nx_ ⟨i + 1,rfl,rfl,rfl,(by omega)⟩ rfl
 ·refine tq_ rfl (ltF rfl) (zl 13 rfl (Tl_freeze 3 rfl rfl rfl (te_ rfl (Je_makeFuncR [Leaf.rep (ptrRep [Leaf.val (.int .i64 ((n:Nat):Int))])] rfl rfl) (tc_ fn180 rfl (hasfunc r.rows 181 _ (by omega) fn181 (fun x hx=>rvalid1 x (hr.rows x hx) (by omega) n (Nat.le_refl _) (by omega))) (zl 4 rfl ?_)))))
  exact r1_ hq_ rfl rfl
set_option maxRecDepth 10000 in
theorem qvalid_p (q:Qu) (hq:QOk q):Ctr Tryz.prog 75 [quV q] (R.one (V.one (Leaf.val (.bool true)))):=by
 refine bd_ Tryz.func75 Tryz.ntmps75 rfl (fun w0 A0=>?_)
 have hg:=hq.g;have hr:=hq.r
 have h1:=hg.i1;have h2:=hg.i3;have h3:=hg.u4;have h4:=hg.o1;have h5:=hg.o3
 refine zc 10 rfl (tc_ fn91 rfl (gvalid_p q.g (by assumption)) (zl 6 rfl (tc_ fn131 rfl (rgvalid_p q.r q.g.inp (by assumption) (by omega) (by omega)) (zl 10 rfl (tq_ rfl (jln rfl) (tq_ rfl (jad (q.g.inp + q.g.us.length) rfl) (tc_ fn40 rfl (lvalid q.goal hq.goal (by omega) (q.g.inp + q.g.us.length) (Nat.le_refl _) (by omega)) (zl 4 rfl ?_))))))))
 exact r1_ hq_ rfl rfl
end Go.Proofs.YtmpkandbccallaaGreatDoor
set_option linter.unusedSimpArgs false
set_option linter.unusedVariables false
namespace Rc
open Go Go.RowKit
class Fq (x:Qr) (k:outParam Nat):Prop where
 fit:Fit k x
theorem Fq.use {x:Qr} {k k':Nat} [h:Fq x k] (hk:k≤k'):Fit k' x:=h.fit.mono hk
instance Fq.of {r:Rat} {k:Nat} [h:Br r k]:Fq (qOf r) k:=⟨h.fit⟩
instance Fq.br {x:Qr} {k:Nat} [h:Fq x k]:Br x.q k:=Br.q h.fit
theorem Fq.mono {x:Qr} {k k':Nat} (h:Fq x k) (hk:k≤k'):Fq x k':=⟨h.fit.mono hk⟩
instance Br.one:Br ((1:Int):Rat) 2:=Br.int2 (by decide) (by decide)
instance Br.mone:Br ((-1:Int):Rat) 2:=Br.int2 (by decide) (by decide)
def lv (l:List Lm) (n:Nat):Rat:=match l[n - 1]? with | some m=>m.v.q | none=>0
theorem lv_get {l:List Lm} {n:Nat} {m:Lm} (h:l[n - 1]? = some m):lv l n = m.v.q:=by unfold lv;rw [h]
def bstp (l:List Lm) (u:Int) (s:Nat × Nat) (n:Nat):Nat × Nat:=
 match l[n]? with
 | none=>s
 | some m=>if m.unit = u then (if m.up = true then (if s.2 = 0 ∨ m.v.q < lv l s.2 then (s.1,n + 1) else s) else (if s.1 = 0 ∨ lv l s.1 < m.v.q then (n + 1,s.2) else s)) else s
def bestn (l:List Lm) (u:Int) (n:Nat):Nat × Nat:=(List.range n).foldl (bstp l u) (0,0)
def best (l:List Lm) (u:Int):Nat × Nat:=bestn l u l.length
theorem bestn_succ (l:List Lm) (u:Int) (n:Nat):bestn l u (n + 1) = bstp l u (bestn l u n) n:=by
 unfold bestn;rw [List.range_succ,List.foldl_append];rfl
section
variable {l:List Lm} {u:Int} {s:Nat × Nat} {n:Nat} {x:Lm} (hx:l[n]? = some x)
include hx
theorem bstp_ne (h:x.unit≠u):bstp l u s n = s:=by unfold bstp;simp only [hx];rw [if_neg h]
theorem bstp_ut (h:x.unit = u) (hu:x.up = true) (hc:s.2 = 0 ∨ x.v.q < lv l s.2):bstp l u s n = (s.1,n + 1):=by unfold bstp;simp only [hx];rw [if_pos h,if_pos hu,if_pos hc]
theorem bstp_uf (h:x.unit = u) (hu:x.up = true) (hc:¬ (s.2 = 0 ∨ x.v.q < lv l s.2)):bstp l u s n = s:=by unfold bstp;simp only [hx];rw [if_pos h,if_pos hu,if_neg hc]
theorem bstp_lt (h:x.unit = u) (hu:x.up = false) (hc:s.1 = 0 ∨ lv l s.1 < x.v.q):bstp l u s n = (n + 1,s.2):=by unfold bstp;simp only [hx];rw [if_pos h,if_neg (by rw [hu];decide),if_pos hc]
theorem bstp_lf (h:x.unit = u) (hu:x.up = false) (hc:¬ (s.1 = 0 ∨ lv l s.1 < x.v.q)):bstp l u s n = s:=by unfold bstp;simp only [hx];rw [if_pos h,if_neg (by rw [hu];decide),if_neg hc]
end
def isLm (l:List Lm) (u:Int) (up:Bool) (n:Nat):Prop:=n = 0 ∨ ∃ m,l[n - 1]? = some m∧0 < n∧m.unit = u∧m.up = up
theorem bestn_ok (l:List Lm) (u:Int):∀ n,(bestn l u n).1≤n∧(bestn l u n).2≤n∧isLm l u false (bestn l u n).1∧isLm l u true (bestn l u n).2
 | 0=>⟨Nat.le_refl _,Nat.le_refl _,.inl rfl,.inl rfl⟩
 | n + 1=>by
  obtain ⟨h1,h2,h3,h4⟩:=bestn_ok l u n
  rw [bestn_succ]
  cases hx:l[n]? with
  | none=>unfold bstp;simp only [hx];exact ⟨by omega,by omega,h3,h4⟩
  | some x=>
   by_cases hu:x.unit = u
   ·cases hup:x.up
    ·by_cases hc:(bestn l u n).1 = 0 ∨ lv l (bestn l u n).1 < x.v.q
     ·rw [bstp_lt hx hu hup hc];exact ⟨Nat.le_refl _,by show (bestn l u n).2≤n + 1;omega,.inr ⟨x,by simpa using hx,by simp,hu,hup⟩,h4⟩
     ·rw [bstp_lf hx hu hup hc];exact ⟨by omega,by omega,h3,h4⟩
    ·by_cases hc:(bestn l u n).2 = 0 ∨ x.v.q < lv l (bestn l u n).2
     ·rw [bstp_ut hx hu hup hc];exact ⟨by show (bestn l u n).1≤n + 1;omega,Nat.le_refl _,h3,.inr ⟨x,by simpa using hx,by simp,hu,hup⟩⟩
     ·rw [bstp_uf hx hu hup hc];exact ⟨by omega,by omega,h3,h4⟩
   ·rw [bstp_ne hx hu];exact ⟨by omega,by omega,h3,h4⟩
theorem best_lo {l:List Lm} {u:Int} (h:(best l u).1≠0):∃ m,l[(best l u).1 - 1]? = some m∧m.unit = u∧m.up = false∧lv l (best l u).1 = m.v.q∧0 < (best l u).1∧(best l u).1≤l.length:=by
 obtain ⟨h1,h2,h3,h4⟩:=bestn_ok l u l.length
 rcases h3 with h3 | ⟨m,q1,q2,q3,q4⟩
 ·exact absurd h3 h
 ·exact ⟨m,q1,q3,q4,lv_get q1,q2,h1⟩
theorem best_hi {l:List Lm} {u:Int} (h:(best l u).2≠0):∃ m,l[(best l u).2 - 1]? = some m∧m.unit = u∧m.up = true∧lv l (best l u).2 = m.v.q∧0 < (best l u).2∧(best l u).2≤l.length:=by
 obtain ⟨h1,h2,h3,h4⟩:=bestn_ok l u l.length
 rcases h4 with h3 | ⟨m,q1,q2,q3,q4⟩
 ·exact absurd h3 h
 ·exact ⟨m,q1,q3,q4,lv_get q1,q2,h2⟩
def lessR (a b:Rw):Bool:=if a.kind≠b.kind then decide (a.kind < b.kind) else if a.idx≠b.idx then decide (a.idx < b.idx) else if a.lo≠b.lo then decide (a.lo < b.lo) else decide (a.hi < b.hi)
theorem lessR_iff {a b:Rw}:lessR a b = true↔a.kind < b.kind ∨ (a.kind = b.kind∧(a.idx < b.idx ∨ (a.idx = b.idx∧(a.lo < b.lo ∨ (a.lo = b.lo∧a.hi < b.hi))))):=by
 unfold lessR
 split
 ·simp;omega
 ·split
  ·simp;omega
  ·split <;> simp <;> omega
theorem lessR_trans {a b c:Rw} (h:lessR a b = true) (h':lessR b c = true):lessR a c = true:=by
 rw [lessR_iff] at *;omega
theorem lessR_irrefl (a:Rw):lessR a a = false:=by
 cases h:lessR a a
 ·rfl
 ·rw [lessR_iff] at h;omega
theorem lessR_total {a b:Rw} (h:lessR a b = false) (hne:a≠b):lessR b a = true:=by
 cases h':lessR b a
 ·exfalso
  have h1:¬ lessR a b = true:=by rw [h];decide
  have h2:¬ lessR b a = true:=by rw [h'];decide
  rw [lessR_iff] at h1 h2
  exact hne (Rw.ext' (by omega) (by omega) (by omega) (by omega))
 ·rfl
theorem eq4_t {a b:Rw} (h:a = b):eq4 a.kind a.idx a.lo a.hi b.kind b.idx b.lo b.hi = true:=by subst h;simp [eq4]
theorem eq4_f {a b:Rw} (h:a≠b):eq4 a.kind a.idx a.lo a.hi b.kind b.idx b.lo b.hi = false:=by
 cases h':eq4 a.kind a.idx a.lo a.hi b.kind b.idx b.lo b.hi
 ·rfl
 ·exfalso
  simp [eq4] at h'
  exact h (Rw.ext' h'.1 h'.2.1 h'.2.2.1 h'.2.2.2)
def insM:List Mu→Rw→Rat→List Mu
 | [],r,c=>[⟨r,qOf c⟩]
 | m :: l,r,c=>if lessR m.r r = true then m :: insM l r c else if m.r = r then ⟨r,qOf (m.c.q + c)⟩ :: l else ⟨r,qOf c⟩ :: m :: l
def plusM (l:List Mu) (r:Rw) (c:Rat):List Mu:=if c = 0 then l else insM l r c
def mergeM (a b:List Mu) (c:Rat):List Mu:=b.foldl (fun a m=>plusM a m.r (m.c.q * c)) a
theorem insM_at:∀ {l:List Mu} {r:Rw} {c:Rat} {k:Nat},(∀ (i:Nat) (m:Mu),i < k→l[i]? = some m→lessR m.r r = true)→k≤l.length→insM l r c = l.take k ++ insM (l.drop k) r c
 | l,r,c,0,_,_=>by simp
 | [],r,c,k + 1,_,h=>by simp at h
 | m :: l,r,c,k + 1,h,hk=>by
  have h0:=h 0 m (by omega) rfl
  have ih:=insM_at (l:=l) (r:=r) (c:=c) (k:=k) (fun i m' hi hm=>h (i + 1) m' (by omega) (by simpa using hm)) (by simpa using hk)
  show (if lessR m.r r = true then m :: insM l r c else _) = _
  rw [if_pos h0,ih]
  rfl
theorem insM_end {l:List Mu} {r:Rw} {c:Rat} (h:∀ (i:Nat) (m:Mu),i < l.length→l[i]? = some m→lessR m.r r = true):insM l r c = l ++ [⟨r,qOf c⟩]:=by
 rw [insM_at h (Nat.le_refl _),List.take_length,List.drop_length];rfl
theorem drop_get' {α:Type} {l:List α} {k:Nat} {x:α} (h:l[k]? = some x):l.drop k = x :: l.drop (k + 1):=drop_get h
theorem insM_eq {l:List Mu} {r:Rw} {c:Rat} {k:Nat} {x:Mu} (h:∀ (i:Nat) (m:Mu),i < k→l[i]? = some m→lessR m.r r = true) (hx:l[k]? = some x) (hr:x.r = r):insM l r c = l.take k ++ [⟨r,qOf (x.c.q + c)⟩] ++ l.drop (k + 1):=by
 rw [insM_at h (Nat.le_of_lt (List.getElem?_eq_some_iff.1 hx).1),drop_get' hx]
 show _ ++ (if lessR x.r r = true then _ else if x.r = r then _ else _) = _
 rw [if_neg (by rw [hr,lessR_irrefl];decide),if_pos hr,List.append_assoc];rfl
theorem insM_ne {l:List Mu} {r:Rw} {c:Rat} {k:Nat} {x:Mu} (h:∀ (i:Nat) (m:Mu),i < k→l[i]? = some m→lessR m.r r = true) (hx:l[k]? = some x) (hl:lessR x.r r = false) (hr:x.r≠r):insM l r c = l.take k ++ [⟨r,qOf c⟩] ++ l.drop k:=by
 rw [insM_at h (Nat.le_of_lt (List.getElem?_eq_some_iff.1 hx).1),drop_get' hx]
 show _ ++ (if lessR x.r r = true then _ else if x.r = r then _ else _) = _
 rw [if_neg (by rw [hl];decide),if_neg hr,List.append_assoc];rfl
theorem insM_len:∀ (l:List Mu) (r:Rw) (c:Rat),(insM l r c).length≤l.length + 1
 | [],_,_=>by simp [insM]
 | m :: l,r,c=>by
  have:=insM_len l r c
  unfold insM
  split
  ·simp;omega
  ·split <;> simp
theorem plusM_len (l:List Mu) (r:Rw) (c:Rat):(plusM l r c).length≤l.length + 1:=by
 unfold plusM;split
 ·omega
 ·exact insM_len l r c
theorem mergeM_len:∀ (b a:List Mu) (c:Rat),(mergeM a b c).length≤a.length + b.length
 | [],a,c=>by simp [mergeM]
 | m :: b,a,c=>by
  have h1:=plusM_len a m.r (m.c.q * c)
  have h2:=mergeM_len b (plusM a m.r (m.c.q * c)) c
  have:mergeM a (m :: b) c = mergeM (plusM a m.r (m.c.q * c)) b c:=rfl
  rw [this];simp;omega
theorem mergeM_snoc (a b:List Mu) (m:Mu) (c:Rat):mergeM a (b ++ [m]) c = plusM (mergeM a b c) m.r (m.c.q * c):=by unfold mergeM;rw [List.foldl_append];rfl
theorem mergeM_take {a b:List Mu} {i:Nat} {m:Mu} {c:Rat} (h:b[i]? = some m):mergeM a (b.take (i + 1)) c = plusM (mergeM a (b.take i) c) m.r (m.c.q * c):=by rw [take_snoc h,mergeM_snoc]
def MB (B:Nat) (l:List Mu):Prop:=∀ m∈l,Fq m.c B
theorem MB.mono {B C:Nat} {l:List Mu} (h:MB B l) (hBC:B≤C):MB C l:=fun m hm=>(h m hm).mono hBC
theorem insM_bd {B C:Nat} {r:Rw} {c:Rat} [hc:Br c C]:∀ {l:List Mu},MB B l→MB (B + C + 1) (insM l r c)
 | [],_=>fun m hm=>by
  simp [insM] at hm;subst hm
  exact (Fq.of (r:=c)).mono (by omega)
 | x :: l,h=>by
  have hx:=h x (by simp)
  intro m hm
  unfold insM at hm
  split at hm
  ·rcases List.mem_cons.1 hm with rfl | hm
   ·exact hx.mono (by omega)
   ·exact insM_bd (l:=l) (fun m hm=>h m (by simp [hm])) m hm
  ·split at hm
   ·rcases List.mem_cons.1 hm with rfl | hm
    ·exact Fq.of (r:=x.c.q + c)
    ·exact (h m (by simp [hm])).mono (by omega)
   ·rcases List.mem_cons.1 hm with rfl | hm
    ·exact (Fq.of (r:=c)).mono (by omega)
    ·exact (h m hm).mono (by omega)
theorem plusM_bd {B C:Nat} {l:List Mu} {r:Rw} {c:Rat} [hc:Br c C] (h:MB B l):MB (B + C + 1) (plusM l r c):=by
 unfold plusM;split
 ·exact h.mono (by omega)
 ·exact insM_bd h
theorem mergeM_bd {B C D:Nat} {c:Rat} [hc:Br c D]:∀ {b a:List Mu},MB B a→MB C b→MB (B + b.length * (C + D + 2)) (mergeM a b c)
 | [],a,h,_=>h.mono (by omega)
 | m :: b,a,h,hb=>by
  haveI:=hb m (by simp)
  have h1:=plusM_bd (r:=m.r) (c:=m.c.q * c) h
  have h2:=mergeM_bd (b:=b) h1 (fun m hm=>hb m (by simp [hm])) (c:=c)
  have e:mergeM a (m :: b) c = mergeM (plusM a m.r (m.c.q * c)) b c:=rfl
  rw [e]
  refine h2.mono ?_
  simp only [List.length_cons,Nat.add_mul]
  omega
def CanM:List Mu→Prop
 | []=>True
 | m :: l=>(m.c = qOf m.c.q∧0 < m.c.q)∧(∀ x∈l,lessR m.r x.r = true)∧CanM l
theorem insM_mem {r:Rw} {c:Rat}:∀ {l:List Mu} {x:Mu},x∈insM l r c→x.r = r ∨ x∈l
 | [],x,h=>by simp [insM] at h;subst h;exact .inl rfl
 | m :: l,x,h=>by
  unfold insM at h
  split at h
  ·rcases List.mem_cons.1 h with rfl | h
   ·exact .inr (by simp)
   ·rcases insM_mem h with h | h
    ·exact .inl h
    ·exact .inr (by simp [h])
  ·split at h
   ·rcases List.mem_cons.1 h with rfl | h
    ·exact .inl rfl
    ·exact .inr (by simp [h])
   ·rcases List.mem_cons.1 h with rfl | h
    ·exact .inl rfl
    ·exact .inr h
theorem insM_can {r:Rw} {c:Rat} (hc:0 < c):∀ {l:List Mu},CanM l→CanM (insM l r c)
 | [],_=>⟨⟨by rw [qOf_q],by rw [qOf_q];exact hc⟩,fun x hx=>by simp at hx,trivial⟩
 | m :: l,h=>by
  obtain ⟨h1,h2,h3⟩:=h
  unfold insM
  split
  ·rename_i hlt
   refine ⟨h1,fun x hx=>?_,insM_can hc h3⟩
   rcases insM_mem hx with e | hx
   ·rw [e];exact hlt
   ·exact h2 x hx
  ·rename_i hlt
   split
   ·rename_i he
    refine ⟨⟨by rw [qOf_q],?_⟩,fun x hx=>?_,h3⟩
    ·rw [qOf_q];have:=h1.2;grind
    ·rw [← he];exact h2 x hx
   ·rename_i hne
    have hl:=lessR_total (by simpa using hlt) hne
    refine ⟨⟨by rw [qOf_q],by rw [qOf_q];exact hc⟩,fun x hx=>?_,h1,h2,h3⟩
    rcases List.mem_cons.1 hx with rfl | hx
    ·exact hl
    ·exact lessR_trans hl (h2 x hx)
theorem plusM_can {r:Rw} {c:Rat} (hc:0≤c) {l:List Mu} (h:CanM l):CanM (plusM l r c):=by
 unfold plusM;split
 ·exact h
 ·rename_i h0;exact insM_can (by grind) h
theorem CanM.pos:∀ {l:List Mu},CanM l→∀ m∈l,0 < m.c.q∧m.c = qOf m.c.q
 | x :: l,h,m,hm=>by
  rcases List.mem_cons.1 hm with rfl | hm
  ·exact ⟨h.1.2,h.1.1⟩
  ·exact CanM.pos h.2.2 m hm
theorem CanM.lt {l:List Mu} (h:CanM l):∀ {i j:Nat} {x y:Mu},i < j→l[i]? = some y→l[j]? = some x→lessR y.r x.r = true:=by
 induction l with
 | nil=>intro i j x y _ hy;simp at hy
 | cons m l ih=>
  intro i j x y hij hy hx
  obtain ⟨j,rfl⟩:∃ j',j = j' + 1:=⟨j - 1,by omega⟩
  rw [List.getElem?_cons_succ] at hx
  cases i with
  | zero=>simp at hy;subst hy;exact h.2.1 x (List.mem_of_getElem? hx)
  | succ i=>rw [List.getElem?_cons_succ] at hy;exact ih h.2.2 (by omega) hy hx
theorem CanM.prev {l:List Mu} {i:Nat} {x y:Mu} (h:CanM l) (hi:0 < i) (hx:l[i]? = some x) (hy:l[i - 1]? = some y):lessR y.r x.r = true:=h.lt (by omega) hy hx
theorem mergeM_can {c:Rat} (hc:0≤c):∀ {b a:List Mu},CanM a→(∀ m∈b,0 < m.c.q)→CanM (mergeM a b c)
 | [],a,h,_=>h
 | m :: b,a,h,hb=>mergeM_can (b:=b) hc (plusM_can (Rat.mul_nonneg (Rat.le_of_lt (hb m (by simp))) hc) h) (fun m hm=>hb m (by simp [hm]))
theorem rq_one1:rq false 1 1 = 1:=by decide +kernel
theorem rq_quo (a b:Bool) (m n d e:Nat) (hn:n≠0):rq (a != b) (m * dn e) (dn d * n) = rq a m d / rq b n e:=by
 have h1:=rq_mul a b m (dn e) d n
 have h2:=rq_mul b b n (dn e) e n
 rw [dn_of hn] at h1 h2
 rw [h1]
 have h3:rq (b != b) (n * dn e) (dn e * n) = 1:=by
  rw [← rq_one1,rq_eq,dn_of (Nat.mul_ne_zero (dn_ne e) hn)]
  simp [sgn,dn,Nat.mul_comm]
 rw [h3] at h2
 have h4:rq b n e≠0:=fun h=>by rw [h] at h2;grind
 rw [Rat.div_def]
 congr 1
 have h5:rq b n e * (rq b n e)⁻¹ = 1:=Rat.mul_inv_cancel _ h4
 generalize rq b n e = p at *
 generalize rq b (dn e) n = q at *
 generalize p⁻¹ = w at *
 grind
theorem sg_le {p:Rat}:sg p≤0↔p≤0:=by unfold sg;grind
theorem sg_ge {p:Rat}:0≤sg p↔0≤p:=by unfold sg;grind
theorem sg_gt {p:Rat}:0 < sg p↔0 < p:=by unfold sg;grind
def atLeast (inp v:Nat):List Mu:=if v < inp then [⟨⟨1,(v:Int),0,0⟩,qOf ((1:Int):Rat)⟩] else [⟨⟨5,((v - inp:Nat):Int),0,0⟩,qOf ((1:Int):Rat)⟩]
def atMost (inp:Nat) (l:List Lm) (v:Nat):Option (List Mu):=
 if v < inp then some [⟨⟨2,(v:Int),0,0⟩,qOf ((1:Int):Rat)⟩]
 else if (best l ((v - inp:Nat):Int)).1 = 0 ∨ (best l ((v - inp:Nat):Int)).2 = 0 then none
 else if lv l (best l ((v - inp:Nat):Int)).2≤0 then some [⟨⟨10,((v - inp:Nat):Int),0,((best l ((v - inp:Nat):Int)).2:Int)⟩,qOf ((1:Int):Rat)⟩]
 else if 0≤lv l (best l ((v - inp:Nat):Int)).1 then some [⟨⟨8,((v - inp:Nat):Int),((best l ((v - inp:Nat):Int)).1:Int),0⟩,qOf ((1:Int):Rat)⟩,⟨⟨12,((v - inp:Nat):Int),0,((best l ((v - inp:Nat):Int)).2:Int)⟩,qOf ((1:Int):Rat)⟩]
 else some [⟨⟨12,((v - inp:Nat):Int),0,((best l ((v - inp:Nat):Int)).2:Int)⟩,qOf (((1:Int):Rat) / (lv l (best l ((v - inp:Nat):Int)).2 - lv l (best l ((v - inp:Nat):Int)).1) * lv l (best l ((v - inp:Nat):Int)).2)⟩,
   ⟨⟨13,((v - inp:Nat):Int),((best l ((v - inp:Nat):Int)).1:Int),((best l ((v - inp:Nat):Int)).2:Int)⟩,qOf (((1:Int):Rat) / (lv l (best l ((v - inp:Nat):Int)).2 - lv l (best l ((v - inp:Nat):Int)).1))⟩]
end Rc
set_option linter.unusedSimpArgs false
set_option linter.unusedVariables false
namespace Go.Proofs.YtmpkandbccallaaGreatDoor
open Go Go.RowKit Rc
theorem row_i4:Ints4 Tryz.prog 103 3:=⟨by kernel_rfl,by kernel_rfl,ty3,by kernel_rfl,by kernel_rfl⟩
set_option maxRecDepth 10000 in
theorem best_p (s:Sc) {B:Nat} (hB:∀ m∈s.lems,Fq m.v B) (hB2:B≤100000000000) (hl:s.lems.length≤1000000) (u:Int):Ctr Tryz.prog 81 [scV s,V.one (Leaf.val (.int .i64 (u)))] (R.tup [V.one (Leaf.val (.int .i64 (((best s.lems u).1:Nat):Int))),V.one (Leaf.val (.int .i64 (((best s.lems u).2:Nat):Int)))]):=by
 refine bd_ Tryz.func81 Tryz.ntmps81 rfl (fun w0 A0=>?_)
 refine zc 18 rfl (tq_ rfl (jln rfl) (zl 4 rfl ?_))
 refine lpR_ (fun m Γ H=>∃ (i:Nat) (lo hi:Nat),s.lems.length - i = m∧Γ = [(1,some (D.val (.int .i64 u))),(2,some (D.ptr 0 0)),(6,some (D.val (.int .i64 ((lo:Nat):Int)))),(7,some (D.val (.int .i64 ((hi:Nat):Int)))),(11,some (D.v (V.one (El.row lmE s.lems)))),(12,some (D.val (.int .i64 ((s.lems.length:Nat):Int)))),(13,some (D.val (.int .i64 ((i:Nat):Int))))]∧H = [hb_ 42 (scL s)]∧i≤s.lems.length∧(lo,hi) = bestn s.lems u i) ⟨0,0,0,rfl,rfl,rfl,Nat.zero_le _,rfl⟩ rfl ?_
 rintro m Γ H ⟨i,lo,hi,rfl,rfl,rfl,hi0,hs⟩
 refine zc 2 rfl ?_
 by_cases hi_:i < s.lems.length
 ·refine tq_ rfl (ltT rfl) (zl 9 rfl ?_)
  obtain ⟨x,hx⟩:∃ x,s.lems[i]? = some x:=⟨_,List.getElem?_eq_getElem (by omega)⟩
  haveI hxb:=hB x (List.mem_of_getElem? hx)
  have hbn:=bestn_ok s.lems u i
  rw [← hs] at hbn
  obtain ⟨hlo,hhi,_,_⟩:=hbn
  refine zc 2 rfl (tq_ rfl (jix i hx rfl) (tq_ rfl (jlr rfl) (zl 11 rfl ?_)))
  by_cases hne:x.unit≠u
  ·refine tq_ rfl (neT rfl) (zl 8 rfl (tq_ rfl (jad (i + 1) rfl) (zl 2 rfl (At_free 1 (trim_ 1 rfl ?_)))))
   exact nx_ ⟨i + 1,_,_,rfl,rfl,rfl,(by omega),by rw [bestn_succ,← hs];exact (bstp_ne hx hne).symm⟩ rfl
  ·refine tq_ rfl (neF rfl) (zl 6 rfl ?_)
   have hu:x.unit = u:=Classical.not_not.1 hne
   refine zc 5 rfl ?_
   refine Tc_cond rfl (fun hup=>?_) (fun hup=>?_)
   ·refine zc 1 rfl (dr_ 0 [] [] (dz 1 rfl ?_))
    by_cases hv:hi = 0
    ·refine kq_ rfl (eqT rfl) (dz 13 rfl (DK_nil (za 4 rfl (tq_ rfl (jad (i + 1) rfl) (zl 5 rfl (tq_ rfl (jad (i + 1) rfl) (zl 2 rfl (At_free 1 (trim_ 1 rfl ?_)))))))))
     exact nx_ ⟨i + 1,_,_,rfl,rfl,rfl,(by omega),by rw [bestn_succ,← hs];exact (bstp_ut (s:=(lo,hi)) hx hu hup (.inl hv)).symm⟩ rfl
    ·refine kq_ rfl (eqF rfl) (dz 6 rfl ?_)
     obtain ⟨y,hy⟩:∃ y,s.lems[hi - 1]? = some y:=⟨_,List.getElem?_eq_getElem (by omega)⟩
     haveI hyb:=hB y (List.mem_of_getElem? hy)
     have hly:=lv_get hy
     refine kq_ rfl (jsb (hi - 1) rfl) (kq_ rfl (jix (hi - 1) hy rfl) (kq_ rfl (jft rfl) (kq_ rfl (jlr rfl) (kc_ fn83 rfl (qcmp x.v (x.v.q) rfl (Fq.use (x:=x.v) (by omega)) y.v (y.v.q) rfl (Fq.use (x:=y.v) (by omega))) ?_))))
     by_cases hc:x.v.q < lv s.lems hi
     ·refine kq_ rfl (ltT rfl (by rw [cmpq_lt,← hly];exact hc)) (dz 1 rfl (DK_nil (za 4 rfl (tq_ rfl (jad (i + 1) rfl) (zl 5 rfl (tq_ rfl (jad (i + 1) rfl) (zl 2 rfl (At_free 1 (trim_ 1 rfl ?_)))))))))
      exact nx_ ⟨i + 1,_,_,rfl,rfl,rfl,(by omega),by rw [bestn_succ,← hs];exact (bstp_ut (s:=(lo,hi)) hx hu hup (.inr hc)).symm⟩ rfl
     ·refine kq_ rfl (ltF rfl (by rw [cmpq_lt,← hly];exact hc)) (dz 1 rfl (DK_nil (za 6 rfl (tq_ rfl (jad (i + 1) rfl) (zl 2 rfl (At_free 1 (trim_ 1 rfl ?_)))))))
      exact nx_ ⟨i + 1,_,_,rfl,rfl,rfl,(by omega),by rw [bestn_succ,← hs];exact (bstp_uf (s:=(lo,hi)) hx hu hup (fun h=>h.elim hv hc)).symm⟩ rfl
   ·refine zc 1 rfl (dr_ 0 [] [] (dz 1 rfl ?_))
    by_cases hv:lo = 0
    ·refine kq_ rfl (eqT rfl) (dz 13 rfl (DK_nil (za 4 rfl (tq_ rfl (jad (i + 1) rfl) (zl 5 rfl (tq_ rfl (jad (i + 1) rfl) (zl 2 rfl (At_free 1 (trim_ 1 rfl ?_)))))))))
     exact nx_ ⟨i + 1,_,_,rfl,rfl,rfl,(by omega),by rw [bestn_succ,← hs];exact (bstp_lt (s:=(lo,hi)) hx hu hup (.inl hv)).symm⟩ rfl
    ·refine kq_ rfl (eqF rfl) (dz 6 rfl ?_)
     obtain ⟨y,hy⟩:∃ y,s.lems[lo - 1]? = some y:=⟨_,List.getElem?_eq_getElem (by omega)⟩
     haveI hyb:=hB y (List.mem_of_getElem? hy)
     have hly:=lv_get hy
     refine kq_ rfl (jsb (lo - 1) rfl) (kq_ rfl (jix (lo - 1) hy rfl) (kq_ rfl (jft rfl) (kq_ rfl (jlr rfl) (kc_ fn83 rfl (qcmp x.v (x.v.q) rfl (Fq.use (x:=x.v) (by omega)) y.v (y.v.q) rfl (Fq.use (x:=y.v) (by omega))) ?_))))
     by_cases hc:lv s.lems lo < x.v.q
     ·refine kq_ rfl (gtT rfl (by rw [cmpq_gt,← hly];exact hc)) (dz 1 rfl (DK_nil (za 4 rfl (tq_ rfl (jad (i + 1) rfl) (zl 5 rfl (tq_ rfl (jad (i + 1) rfl) (zl 2 rfl (At_free 1 (trim_ 1 rfl ?_)))))))))
      exact nx_ ⟨i + 1,_,_,rfl,rfl,rfl,(by omega),by rw [bestn_succ,← hs];exact (bstp_lt (s:=(lo,hi)) hx hu hup (.inr hc)).symm⟩ rfl
     ·refine kq_ rfl (gtF rfl (by rw [cmpq_gt,← hly];exact hc)) (dz 1 rfl (DK_nil (za 6 rfl (tq_ rfl (jad (i + 1) rfl) (zl 2 rfl (At_free 1 (trim_ 1 rfl ?_)))))))
      exact nx_ ⟨i + 1,_,_,rfl,rfl,rfl,(by omega),by rw [bestn_succ,← hs];exact (bstp_lf (s:=(lo,hi)) hx hu hup (fun h=>h.elim hv hc)).symm⟩ rfl
 ·refine tq_ rfl (ltF rfl) (zl 10 rfl ?_)
  have hie:i = s.lems.length:=by omega
  rw [hie] at hs
  refine zc 7 rfl ?_
  exact r2_ hq_ rfl (by unfold best;rw [← hs])
set_option maxRecDepth 10000 in
theorem best_r (s:Sc) {B:Nat} (hB:∀ m∈s.lems,Fq m.v B) (hB2:B≤100000000000) (hl:s.lems.length≤1000000) (u:Int):Ctr Tryz.prog 32 [scV s,V.one (Leaf.val (.int .i64 (u)))] (R.tup [V.one (Leaf.val (.int .i64 (((best s.lems u).1:Nat):Int))),V.one (Leaf.val (.int .i64 (((best s.lems u).2:Nat):Int)))]):=by
 refine bd_ Tryz.func32 Tryz.ntmps32 rfl (fun w0 A0=>?_)
 refine zc 20 rfl ?_
 refine lpR_ (fun m Γ H=>∃ (i:Nat) (lo hi:Nat),s.lems.length - i = m∧Γ = [(1,some (D.val (.int .i64 u))),(2,some (D.ptr 0 0)),(6,some (D.val (.int .i64 ((lo:Nat):Int)))),(7,some (D.val (.int .i64 ((hi:Nat):Int)))),(8,some (D.val (.int .i64 (((i + 1):Nat):Int))))]∧H = [hb_ 42 (scL s)]∧i≤s.lems.length∧(lo,hi) = bestn s.lems u i) ⟨0,0,0,rfl,rfl,rfl,Nat.zero_le _,rfl⟩ rfl ?_
 rintro m Γ H ⟨i,lo,hi,rfl,rfl,rfl,hi0,hs⟩
 refine zc 6 rfl (tq_ rfl (jln rfl) ?_)
 by_cases hi_:i < s.lems.length
 ·refine tq_ rfl (leT rfl) (zl 8 rfl ?_)
  obtain ⟨x,hx⟩:∃ x,s.lems[i]? = some x:=⟨_,List.getElem?_eq_getElem (by omega)⟩
  haveI hxb:=hB x (List.mem_of_getElem? hx)
  have hbn:=bestn_ok s.lems u i
  rw [← hs] at hbn
  obtain ⟨hlo,hhi,_,_⟩:=hbn
  refine zc 4 rfl (tq_ rfl (jsb i rfl) (tq_ rfl (jix i hx rfl) (tq_ rfl (jlr rfl) (zl 10 rfl ?_))))
  by_cases hne:x.unit≠u
  ·refine tq_ rfl (neT rfl) (zl 9 rfl (tq_ rfl (jad ((i + 1) + 1) rfl) (zl 2 rfl (At_free 1 (trim_ 1 rfl ?_)))))
   exact nx_ ⟨i + 1,_,_,rfl,rfl,rfl,(by omega),by rw [bestn_succ,← hs];exact (bstp_ne hx hne).symm⟩ rfl
  ·refine tq_ rfl (neF rfl) (zl 7 rfl ?_)
   have hu:x.unit = u:=Classical.not_not.1 hne
   refine dr_ 0 [] [] (dz 3 rfl ?_)
   refine ktw_ rfl (fun hup=>?_) (fun hup=>?_)
   ·refine dz 16 rfl (DK_nil (za 5 rfl (dr_ 0 [] [] (dz 2 rfl (kis_ false rfl (hup) (dz 3 rfl ?_))))))
    by_cases hv:lo = 0
    ·refine kq_ rfl (eqT rfl) (dz 14 rfl (DK_nil (za 10 rfl (tq_ rfl (jad ((i + 1) + 1) rfl) (zl 2 rfl (At_free 1 (trim_ 1 rfl ?_)))))))
     exact nx_ ⟨i + 1,_,_,rfl,rfl,rfl,(by omega),by rw [bestn_succ,← hs];exact (bstp_lt (s:=(lo,hi)) hx hu hup (.inl hv)).symm⟩ rfl
    ·refine kq_ rfl (eqF rfl) (dz 6 rfl ?_)
     obtain ⟨y,hy⟩:∃ y,s.lems[lo - 1]? = some y:=⟨_,List.getElem?_eq_getElem (by omega)⟩
     haveI hyb:=hB y (List.mem_of_getElem? hy)
     have hly:=lv_get hy
     refine kq_ rfl (jsb (lo - 1) rfl) (kq_ rfl (jix (lo - 1) hy rfl) (kq_ rfl (jft rfl) (kq_ rfl (jlr rfl) (kc_ fn26 rfl (rqcmp x.v (x.v.q) rfl (Fq.use (x:=x.v) (by omega)) y.v (y.v.q) rfl (Fq.use (x:=y.v) (by omega))) ?_))))
     by_cases hc:lv s.lems lo < x.v.q
     ·refine kq_ rfl (gtT rfl (by rw [cmpq_gt,← hly];exact hc)) (dz 2 rfl (DK_nil (za 10 rfl (tq_ rfl (jad ((i + 1) + 1) rfl) (zl 2 rfl (At_free 1 (trim_ 1 rfl ?_)))))))
      exact nx_ ⟨i + 1,_,_,rfl,rfl,rfl,(by omega),by rw [bestn_succ,← hs];exact (bstp_lt (s:=(lo,hi)) hx hu hup (.inr hc)).symm⟩ rfl
     ·refine kq_ rfl (gtF rfl (by rw [cmpq_gt,← hly];exact hc)) (dz 2 rfl (DK_nil (za 7 rfl (tq_ rfl (jad ((i + 1) + 1) rfl) (zl 2 rfl (At_free 1 (trim_ 1 rfl ?_)))))))
      exact nx_ ⟨i + 1,_,_,rfl,rfl,rfl,(by omega),by rw [bestn_succ,← hs];exact (bstp_lf (s:=(lo,hi)) hx hu hup (fun h=>h.elim hv hc)).symm⟩ rfl
   ·refine dz 1 rfl ?_
    by_cases hv:hi = 0
    ·refine kq_ rfl (eqT rfl) (dz 14 rfl (DK_nil (za 8 rfl (dr_ 0 [] [] (dz 2 rfl (kis_ true rfl (hup) (dz 18 rfl (DK_nil (za 7 rfl ?_)))))))))
     refine tq_ rfl (jad ((i + 1) + 1) rfl) (zl 2 rfl (At_free 1 (trim_ 1 rfl ?_)))
     exact nx_ ⟨i + 1,_,_,rfl,rfl,rfl,(by omega),by rw [bestn_succ,← hs];exact (bstp_ut (s:=(lo,hi)) hx hu hup (.inl hv)).symm⟩ rfl
    ·refine kq_ rfl (eqF rfl) (dz 6 rfl ?_)
     obtain ⟨y,hy⟩:∃ y,s.lems[hi - 1]? = some y:=⟨_,List.getElem?_eq_getElem (by omega)⟩
     haveI hyb:=hB y (List.mem_of_getElem? hy)
     have hly:=lv_get hy
     refine kq_ rfl (jsb (hi - 1) rfl) (kq_ rfl (jix (hi - 1) hy rfl) (kq_ rfl (jft rfl) (kq_ rfl (jlr rfl) (kc_ fn26 rfl (rqcmp x.v (x.v.q) rfl (Fq.use (x:=x.v) (by omega)) y.v (y.v.q) rfl (Fq.use (x:=y.v) (by omega))) ?_))))
     by_cases hc:x.v.q < lv s.lems hi
     ·refine kq_ rfl (ltT rfl (by rw [cmpq_lt,← hly];exact hc)) (dz 2 rfl (DK_nil (za 8 rfl (dr_ 0 [] [] (dz 2 rfl (kis_ true rfl (hup) (dz 18 rfl (DK_nil (za 7 rfl ?_)))))))))
      refine tq_ rfl (jad ((i + 1) + 1) rfl) (zl 2 rfl (At_free 1 (trim_ 1 rfl ?_)))
      exact nx_ ⟨i + 1,_,_,rfl,rfl,rfl,(by omega),by rw [bestn_succ,← hs];exact (bstp_ut (s:=(lo,hi)) hx hu hup (.inr hc)).symm⟩ rfl
     ·refine kq_ rfl (ltF rfl (by rw [cmpq_lt,← hly];exact hc)) (dz 2 rfl (DK_nil (za 5 rfl (dr_ 0 [] [] (dz 2 rfl (kis_ true rfl (hup) (dz 18 rfl (DK_nil (za 7 rfl ?_)))))))))
      refine tq_ rfl (jad ((i + 1) + 1) rfl) (zl 2 rfl (At_free 1 (trim_ 1 rfl ?_)))
      exact nx_ ⟨i + 1,_,_,rfl,rfl,rfl,(by omega),by rw [bestn_succ,← hs];exact (bstp_uf (s:=(lo,hi)) hx hu hup (fun h=>h.elim hv hc)).symm⟩ rfl
 ·refine tq_ rfl (leF rfl) (zl 9 rfl ?_)
  have hie:i = s.lems.length:=by omega
  rw [hie] at hs
  refine zc 7 rfl ?_
  exact r2_ hq_ rfl (by unfold best;rw [← hs])
end Go.Proofs.YtmpkandbccallaaGreatDoor
set_option linter.unusedSimpArgs false
set_option linter.unusedVariables false
namespace Go.Proofs.YtmpkandbccallaaGreatDoor
open Go Go.RowKit Rc
set_option maxRecDepth 10000 in
theorem less_r (a b:Rw):Ctr Tryz.prog 118 [rwV a,rwV b] (R.one (V.one (Leaf.val (.bool (lessR a b))))):=by
 refine bd_ Tryz.func118 Tryz.ntmps118 rfl (fun w0 A0=>?_)
 refine zc 15 rfl ?_
 by_cases h1:a.kind≠b.kind
 ·refine tq_ rfl (neT rfl) (zl 14 rfl ?_)
  exact r1_ hq_ rfl (by unfold lessR;rw [if_pos h1])
 ·refine tq_ rfl (neF rfl) (zl 10 rfl ?_)
  by_cases h2:a.idx≠b.idx
  ·refine tq_ rfl (neT rfl) (zl 14 rfl ?_)
   exact r1_ hq_ rfl (by unfold lessR;rw [if_neg h1,if_pos h2])
  ·refine tq_ rfl (neF rfl) (zl 10 rfl ?_)
   by_cases h3:a.lo≠b.lo
   ·refine tq_ rfl (neT rfl) (zl 14 rfl ?_)
    exact r1_ hq_ rfl (by unfold lessR;rw [if_neg h1,if_neg h2,if_pos h3])
   ·refine tq_ rfl (neF rfl) (zl 17 rfl ?_)
    exact r1_ hq_ rfl (by unfold lessR;rw [if_neg h1,if_neg h2,if_neg h3])
set_option maxRecDepth 10000 in
theorem plus_r (l:List Mu) (r:Rw) (c:Rat) {B C:Nat} (hB:MB B l) [Br c C] (hBC:B + C≤300000000000) (hl:l.length≤100000):Ctr Tryz.prog 56 [V.one (El.row muE l),rwV r,V.agg (qL (c))] (R.one (V.one (El.row muE (plusM l r c)))):=by
 refine bd_ Tryz.func56 Tryz.ntmps56 rfl (fun w0 A0=>?_)
 refine zc 11 rfl (tc_ fn37 rfl (rqsign (qOf (c)) (c) (qOf_q _) (Br.use (by omega))) ?_)
 by_cases hc0:c = 0
 ·refine tq_ rfl (eqT rfl (by rw [hc0];rfl)) (zl 9 rfl ?_)
  exact r1_ hq_ rfl (by unfold plusM;rw [if_pos hc0])
 ·refine tq_ rfl (eqF rfl (sg_ne hc0)) (zl 12 rfl ?_)
  refine lpR_ (fun m Γ H=>∃ (k:Nat),l.length - k = m∧Γ = [(0,some (D.v (V.one (El.row muE l)))),(4,some (D.ptr 0 0)),(5,some (D.ptr 1 0)),(7,some (D.val (.int .i64 ((k:Nat):Int))))]∧H = [hb_ 103 [Leaf.val (.int .i64 r.kind),Leaf.val (.int .i64 r.idx),Leaf.val (.int .i64 r.lo),Leaf.val (.int .i64 r.hi)],hb_ 27 (qL c)]∧k≤l.length∧∀ (i:Nat) (m:Mu),i < k→l[i]? = some m→lessR m.r r = true) ⟨0,rfl,rfl,rfl,Nat.zero_le _,fun i m hi=>by omega⟩ rfl ?_
  rintro m Γ H ⟨k,rfl,rfl,rfl,hk0,hlt⟩
  refine zc 2 rfl (dr_ 0 [] [] (dz 2 rfl (kq_ rfl (jln rfl) ?_)))
  by_cases hk:k < l.length
  ·refine kq_ rfl (ltT rfl) (dz 1 rfl ?_)
   obtain ⟨x,hx⟩:∃ x,l[k]? = some x:=⟨_,List.getElem?_eq_getElem hk⟩
   haveI hxb:=hB x (List.mem_of_getElem? hx)
   refine dz 2 rfl (kq_ rfl (jix k hx rfl) (kq_ rfl (jft rfl) (kq_ rfl (jlr rfl) (dz 1 rfl (kc_ fn118 rfl (less_r x.r r) (dz 1 rfl (DK_nil (za 1 rfl ?_))))))))
   refine Tc_cond rfl (fun hls=>?_) (fun hls=>?_)
   ·refine zc 5 rfl (tq_ rfl (jad (k + 1) rfl) (zl 3 rfl ?_))
    exact nx_ ⟨k + 1,rfl,rfl,rfl,hk,fun i m hi hm=>if e:i = k then (by subst e;rw [hx] at hm;cases hm;exact hls) else hlt i m (by omega) hm⟩ rfl
   ·refine zc 7 rfl (Tl_build0 rfl rfl rfl rfl un44 ty105 rfl (Tl_ownG 28 2 rfl rfl (zl 2 rfl (tq_ rfl (Jq_sliceR_hi muE l (k) rfl rfl rfl un44 ty105 rfl (by omega)) (te_ rfl (jal (e:=muE) (l:=[]) rfl rfl) (zl 5 rfl (dr_ 0 [] [] (dz 2 rfl (kq_ rfl (jln rfl) ?_)))))))))
    refine kq_ rfl (ltT rfl) (dz 3 rfl (kq_ rfl (jix k hx rfl) (kq_ rfl (jft rfl) (kq_ rfl (jlr rfl) (dz 1 rfl ?_)))))
    by_cases heq:x.r = r
    ·refine kq_ rfl (Jq_eql4 rfl rfl rfl row_i4 (d:=true) (eq4_t heq)) (dz 1 rfl (DK_nil (za 3 rfl (dr_ 0 [(11,2)] [2] (dz 4 rfl (kq_ rfl (jix k hx rfl) (kq_ rfl (jfr rfl) (kq_ rfl (jlr rfl) (dz 1 rfl ?_)))))))))
     refine kc_ fn54 rfl (rqadd x.c (x.c.q) rfl (Fq.use (x:=x.c) (by omega)) (qOf (c)) (c) (qOf_q _) (Br.use (by omega))) (dz 1 rfl (ke_ rfl (fun _=>Je_buildSlice rfl un44 ty105 tz105 rfl (by decide) (by decide) rfl (by decide) rfl) (ki_ 2 rfl (dap (e:=muE) (⟨⟨r.kind,r.idx,r.lo,r.hi⟩,(qOf ((x.c.q) + (c)))⟩) rfl rfl) (dz 1 rfl (DK_nil (za 3 rfl (tq_ rfl (jad (k + 1) rfl) ?_)))))))
     refine zl 8 rfl (tq_ rfl (Jq_sliceR_lo muE l (k + 1) rfl rfl rfl un44 ty105 rfl (by omega)) (te_ rfl (jal rfl rfl) (zl 3 rfl ?_)))
     refine Tc_viewS 6 (x':=V.one (El.row muE ([] ++ (l.take (k)) ++ [⟨⟨r.kind,r.idx,r.lo,r.hi⟩,(qOf ((x.c.q) + (c)))⟩] ++ (l.drop (k + 1))))) rfl (RowAt.ofE muE ([] ++ (l.take (k)) ++ [⟨⟨r.kind,r.idx,r.lo,r.hi⟩,(qOf ((x.c.q) + (c)))⟩] ++ (l.drop (k + 1))) rfl (by decide)) (.inr ⟨rfl,rfl⟩) ?_
     exact r1_ hq_ rfl (by unfold plusM;rw [if_neg hc0,insM_eq hlt hx heq] <;> rfl)
    ·refine kq_ rfl (Jq_eql4 rfl rfl rfl row_i4 (d:=false) (eq4_f heq)) (dz 1 rfl (DK_nil (za 2 rfl (dr_ 0 [(6,2)] [2] (dz 3 rfl (kc_ fn57 rfl (rqcanon (qOf (c)) (c) (qOf_q _) (Br.use (by omega))) (dz 1 rfl (ke_ rfl (fun _=>Je_buildSlice rfl un44 ty105 tz105 rfl (by decide) (by decide) rfl (by decide) rfl) ?_))))))))
     refine ki_ 2 rfl (dap (e:=muE) (⟨⟨r.kind,r.idx,r.lo,r.hi⟩,(qOf (c))⟩) rfl rfl) (dz 1 rfl (DK_nil (za 6 rfl (tq_ rfl (Jq_sliceR_lo muE l (k) rfl rfl rfl un44 ty105 rfl (by omega)) (te_ rfl (jal rfl rfl) (zl 3 rfl ?_))))))
     refine Tc_viewS 6 (x':=V.one (El.row muE ([] ++ (l.take (k)) ++ [⟨⟨r.kind,r.idx,r.lo,r.hi⟩,(qOf (c))⟩] ++ (l.drop (k))))) rfl (RowAt.ofE muE ([] ++ (l.take (k)) ++ [⟨⟨r.kind,r.idx,r.lo,r.hi⟩,(qOf (c))⟩] ++ (l.drop (k))) rfl (by decide)) (.inr ⟨rfl,rfl⟩) ?_
     exact r1_ hq_ rfl (by unfold plusM;rw [if_neg hc0,insM_ne hlt hx hls heq] <;> rfl)
  ·refine kq_ rfl (ltF rfl) (dz 9 rfl (DK_nil (za 8 rfl ?_)))
   have hke:k = l.length:=by omega
   refine zc 1 rfl (Tl_build0 rfl rfl rfl rfl un44 ty105 rfl (Tl_ownG 28 2 rfl rfl (zl 2 rfl (tq_ rfl (Jq_sliceR_hi muE l (k) rfl rfl rfl un44 ty105 rfl (by omega)) (te_ rfl (jal (e:=muE) (l:=[]) rfl rfl) (zl 5 rfl (dr_ 0 [] [] (dz 2 rfl (kq_ rfl (jln rfl) ?_)))))))))
   refine kq_ rfl (ltF rfl) (dz 9 rfl (DK_nil (za 2 rfl (dr_ 0 [(6,2)] [2] (dz 3 rfl (kc_ fn57 rfl (rqcanon (qOf (c)) (c) (qOf_q _) (Br.use (by omega))) (dz 1 rfl (ke_ rfl (fun _=>Je_buildSlice rfl un44 ty105 tz105 rfl (by decide) (by decide) rfl (by decide) rfl) (ki_ 2 rfl (dap (e:=muE) (⟨⟨r.kind,r.idx,r.lo,r.hi⟩,(qOf (c))⟩) rfl rfl) ?_)))))))))
   refine dz 1 rfl (DK_nil (za 6 rfl (tq_ rfl (Jq_sliceR_lo muE l (k) rfl rfl rfl un44 ty105 rfl (by omega)) (te_ rfl (jal rfl rfl) (zl 3 rfl ?_)))))
   refine Tc_viewS 6 (x':=V.one (El.row muE ([] ++ (l.take (k)) ++ [⟨⟨r.kind,r.idx,r.lo,r.hi⟩,(qOf (c))⟩] ++ (l.drop (k))))) rfl (RowAt.ofE muE ([] ++ (l.take (k)) ++ [⟨⟨r.kind,r.idx,r.lo,r.hi⟩,(qOf (c))⟩] ++ (l.drop (k))) rfl (by decide)) (.inr ⟨rfl,rfl⟩) ?_
   exact r1_ hq_ rfl (by unfold plusM;rw [if_neg hc0,insM_end (fun i m hi=>hlt i m (by omega)),hke,List.take_length,List.drop_length,List.append_nil] <;> rfl)
end Go.Proofs.YtmpkandbccallaaGreatDoor
set_option linter.unusedSimpArgs false
set_option linter.unusedVariables false
namespace Go.Proofs.YtmpkandbccallaaGreatDoor
open Go Go.RowKit Rc
set_option maxRecDepth 10000 in
theorem merge_r (a b:List Mu) (c:Rat) {B C K:Nat} (hA:MB B a) (hB:MB C b) [Br c K] (hBC:B + b.length * (C + K + 2) + C + K≤200000000000) (hl:a.length≤10000) (hlb:b.length≤10000):Ctr Tryz.prog 188 [V.one (El.row muE a),V.one (El.row muE b),V.agg (qL (c))] (R.one (V.one (El.row muE (mergeM a b c)))):=by
 refine bd_ Tryz.func188 Tryz.ntmps188 rfl (fun w0 A0=>?_)
 refine zc 13 rfl (lpR_ (fun m Γ H=>∃ (i:Nat) (out:List Mu),b.length - i = m∧Γ = [(0,some (D.v (V.one (El.row muE out)))),(1,some (D.v (V.one (El.row muE b)))),(5,some (D.ptr 0 0)),(7,some (D.val (.int .i64 ((i:Nat):Int))))]∧H = [hb_ 27 (qL c)]∧i≤b.length∧out = mergeM a (b.take i) c) ⟨0,a,rfl,rfl,rfl,Nat.zero_le _,rfl⟩ rfl ?_)
 rintro m Γ H ⟨i,out,rfl,rfl,rfl,hi0,hout⟩
 refine zc 5 rfl (tq_ rfl (jln rfl) ?_)
 by_cases hi:i < b.length
 ·refine tq_ rfl (ltT rfl) (zl 7 rfl ?_)
  obtain ⟨x,hx⟩:∃ x,b[i]? = some x:=⟨_,List.getElem?_eq_getElem hi⟩
  haveI hxb:=hB x (List.mem_of_getElem? hx)
  have hol:out.length≤20000:=by rw [hout];refine Nat.le_trans (mergeM_len _ _ _) ?_;rw [List.length_take];omega
  have hMB:MB (B + b.length * (C + K + 2)) out:=by
   rw [hout]
   refine (mergeM_bd (c:=c) hA (fun m hm=>hB m (List.mem_of_mem_take hm))).mono ?_
   have:=Nat.mul_le_mul_right (C + K + 2) (show (b.take i).length≤b.length by rw [List.length_take];omega)
   omega
  refine dr_ 0 [] [] (dz 3 rfl (kq_ rfl (jix i hx rfl) (kq_ rfl (jft rfl) (kq_ rfl (jlr rfl) (dz 2 rfl (kq_ rfl (jix i hx rfl) (kq_ rfl (jfr rfl) (kq_ rfl (jlr rfl) (dz 1 rfl ?_)))))))))
  refine kc_ fn55 rfl (rqmul x.c (x.c.q) rfl (Fq.use (x:=x.c) (by omega)) (qOf (c)) (c) (qOf_q _) (Br.use (by omega))) (kc_ fn56 rfl (plus_r out x.r ((x.c.q) * (c)) (by assumption) (by omega) (by omega)) (dz 1 rfl (DK_nil (za 4 rfl (tq_ rfl (jad (i + 1) rfl) (zl 2 rfl ?_))))))
  exact nx_ ⟨i + 1,_,rfl,rfl,rfl,hi,by rw [hout,mergeM_take hx]⟩ rfl
 ·refine tq_ rfl (ltF rfl) (zl 14 rfl ?_)
  exact r1_ hq_ rfl (by rw [hout,show i = b.length by omega,List.take_length])
set_option maxRecDepth 10000 in
theorem rqdiv (x:Qr) (r:Rat) (hr:x.q = r) (hfx:Fit 1000000000000 x) (y:Qr) (s:Rat) (hs:y.q = s) (hfy:Fit 1000000000000 y) (hs0:s≠0):Ctr Tryz.prog 171 [qV x,qV y] (R.tup [qV (qOf (r / s)),V.one (Leaf.val (.int .i64 0))]):=by
 refine bd_ Tryz.func171 Tryz.ntmps171 rfl (fun w0 A0=>?_)
 haveI ixn:Bn (val x.n) 1000000000000:=Bn.val x.hn hfx.n
 haveI ixd:Bn (val x.d) 1000000000000:=Bn.val x.hd hfx.d
 haveI iyn:Bn (val y.n) 1000000000000:=Bn.val y.hn hfy.n
 haveI iyd:Bn (val y.d) 1000000000000:=Bn.val y.hd hfy.d
 have hyn:val y.n≠0:=fun e=>hs0 (by rw [← hs];unfold Qr.q;rw [rq_eq_zero];exact e)
 refine zc 12 rfl (tc_ fn37 rfl (rqsign y (s) hs (hfy.mono (by omega))) (tq_ rfl (eqF rfl (sg_ne hs0)) (zl 6 rfl (dr_ 0 [(18,2)] [2] (dz 4 rfl (kq_ rfl (Jq_neq_bool rfl rfl rfl un4 (d:=_) (rfl)) (dz 4 rfl (kc_ fn115 rfl ((rqone_w y.d y.hd (hfy.mono (by omega)).d (val y.d) rfl)) ?_))))))))
 refine kc_ fn114 rfl (rmul_w x.n (limbs (dn (val y.d))) x.hn (small_limbs _) (hfx.mono (by omega)).n (Bn.use (by omega)) (val x.n) (dn (val y.d)) rfl (val_limbs _)) (dz 2 rfl (kc_ fn115 rfl ((rqone_w x.d x.hd (hfx.mono (by omega)).d (val x.d) rfl)) (dz 2 rfl ?_)))
 refine kc_ fn114 rfl (rmul_w (limbs (dn (val x.d))) y.n (small_limbs _) y.hn (Bn.use (by omega)) (hfy.mono (by omega)).n (dn (val x.d)) (val y.n) (val_limbs _) rfl) ?_
 refine kc_ fn117 rfl (rqquot (x.neg != y.neg) (limbs ((val x.n) * (dn (val y.d)))) (limbs ((dn (val x.d)) * (val y.n))) (small_limbs _) (small_limbs _) (Bn.use (by omega)) (Bn.use (by omega)) ((val x.n) * (dn (val y.d))) ((dn (val x.d)) * (val y.n)) (val_limbs _) (val_limbs _) (Nat.mul_ne_zero (dn_ne _) hyn)) (dz 2 rfl (DK_nil (za 1 rfl ?_)))
 exact r2_ hq_ rfl (by subst hr;subst hs;rw [rq_quo _ _ _ _ _ _ hyn] <;> rfl)
set_option maxRecDepth 10000 in
theorem atleast_r (s:Sc) (hi3:s.q.g.inp≤1000) (v:Nat) (hv:v≤1000):Ctr Tryz.prog 187 [scV s,V.one (Leaf.val (.int .i64 ((v:Int))))] (R.one (V.one (El.row muE (atLeast s.q.g.inp v)))):=by
 refine bd_ Tryz.func187 Tryz.ntmps187 rfl (fun w0 A0=>?_)
 refine zc 14 rfl ?_
 by_cases h1:v < s.q.g.inp
 ·refine tq_ rfl (ltT rfl) (zl 7 rfl (tc_ fn36 rfl (rqof 1 (by decide) (by decide)) (zl 1 rfl (te_ rfl (Je_buildSlice rfl un44 ty105 tz105 rfl (by decide) (by decide) rfl (by decide) rfl) (zl 3 rfl ?_)))))
  exact r1_ hq_ rfl (by unfold atLeast;rw [if_pos h1] <;> rfl)
 ·refine tq_ rfl (ltF rfl) (zl 6 rfl (dr_ 0 [] [] (dz 5 rfl (kq_ rfl (jsb (v - s.q.g.inp) rfl) (dz 1 rfl (kc_ fn36 rfl (rqof 1 (by decide) (by decide)) (dz 1 rfl (ke_ rfl (fun _=>Je_buildSlice rfl un44 ty105 tz105 rfl (by decide) (by decide) rfl (by decide) rfl) (dz 1 rfl ?_)))))))))
  refine DK_nil (za 1 rfl ?_)
  exact r1_ hq_ rfl (by unfold atLeast;rw [if_neg h1] <;> rfl)
set_option maxRecDepth 10000 in
set_option maxHeartbeats 2000000 in
theorem atmost_r (s:Sc) {B:Nat} (hB:∀ m∈s.lems,Fq m.v B) (hB2:B≤100000000000) (hl:s.lems.length≤1000000) (hi3:s.q.g.inp≤1000) (v:Nat) (hv:v≤1000):Ctr Tryz.prog 186 [scV s,V.one (Leaf.val (.int .i64 ((v:Int))))] (R.tup [V.one (El.row muE ((atMost s.q.g.inp s.lems v).getD [])),V.one (Leaf.val (.bool (atMost s.q.g.inp s.lems v).isSome))]):=by
 refine bd_ Tryz.func186 Tryz.ntmps186 rfl (fun w0 A0=>?_)
 refine zc 9 rfl (tc_ fn36 rfl (rqof 1 (by decide) (by decide)) (zl 12 rfl ?_))
 by_cases hv1:v < s.q.g.inp
 ·refine tq_ rfl (ltT rfl) (zl 9 rfl (te_ rfl (Je_buildSlice rfl un44 ty105 tz105 rfl (by decide) (by decide) rfl (by decide) rfl) (zl 4 rfl ?_)))
  exact r2_ hq_ rfl (by unfold atMost;rw [if_pos hv1] <;> rfl)
 ·refine tq_ rfl (ltF rfl) (zl 12 rfl (tq_ rfl (jsb (v - s.q.g.inp) rfl) (zl 7 rfl (tc_ fn32 rfl (best_r s (by assumption) (by omega) (by omega) ((v - s.q.g.inp:Nat):Int)) (zl 11 rfl ?_)))))
  by_cases hb1:(best s.lems ((v - s.q.g.inp:Nat):Int)).1 = 0
  ·refine tq_ rfl (eqT rfl) (zl 8 rfl ?_)
   have hb:(best s.lems ((v - s.q.g.inp:Nat):Int)).1 = 0 ∨ (best s.lems ((v - s.q.g.inp:Nat):Int)).2 = 0:=.inl hb1
   refine zc 5 rfl ?_
   exact r2_ hq_ rfl (by unfold atMost;rw [if_neg hv1,if_pos hb] <;> rfl)
  ·refine tq_ rfl (eqF rfl) (zl 2 rfl ?_)
   by_cases hb2:(best s.lems ((v - s.q.g.inp:Nat):Int)).2 = 0
   ·refine tq_ rfl (eqT rfl) (zl 5 rfl ?_)
    have hb:(best s.lems ((v - s.q.g.inp:Nat):Int)).1 = 0 ∨ (best s.lems ((v - s.q.g.inp:Nat):Int)).2 = 0:=.inr hb2
    refine zc 5 rfl ?_
    exact r2_ hq_ rfl (by unfold atMost;rw [if_neg hv1,if_pos hb] <;> rfl)
   ·refine tq_ rfl (eqF rfl) (zl 7 rfl ?_)
    have hb:¬ ((best s.lems ((v - s.q.g.inp:Nat):Int)).1 = 0 ∨ (best s.lems ((v - s.q.g.inp:Nat):Int)).2 = 0):=fun h=>h.elim hb1 hb2
    obtain ⟨y,hy,_,_,hly,hy0,hyl⟩:=best_lo hb1
    obtain ⟨z,hz,_,_,hlz,hz0,hzl⟩:=best_hi hb2
    haveI hyB:=hB y (List.mem_of_getElem? hy)
    haveI hzB:=hB z (List.mem_of_getElem? hz)
    refine dr_ 2 [(14,2),(15,3),(16,2),(17,3)] [2,3] (dz 3 rfl (kq_ rfl (jsb (((best s.lems ((v - s.q.g.inp:Nat):Int)).1) - 1) rfl) (kq_ rfl (jix ((best s.lems ((v - s.q.g.inp:Nat):Int)).1 - 1) hy rfl) (kq_ rfl (jft rfl) (kq_ rfl (jlr rfl) (dz 3 rfl (kq_ rfl (jsb (((best s.lems ((v - s.q.g.inp:Nat):Int)).2) - 1) rfl) ?_)))))))
    refine kq_ rfl (jix ((best s.lems ((v - s.q.g.inp:Nat):Int)).2 - 1) hz rfl) (kq_ rfl (jft rfl) (kq_ rfl (jlr rfl) (dz 4 rfl (DK_nil (za 6 rfl (tc_ fn37 rfl (rqsign z.v (z.v.q) rfl (Fq.use (x:=z.v) (by omega))) ?_))))))
    by_cases hu0:lv s.lems (best s.lems ((v - s.q.g.inp:Nat):Int)).2≤0
    ·refine tq_ rfl (leT rfl (by rw [← hlz];exact sg_le.2 hu0)) (zl 11 rfl (te_ rfl (Je_buildSlice rfl un44 ty105 tz105 rfl (by decide) (by decide) rfl (by decide) rfl) (zl 4 rfl ?_)))
     exact r2_ hq_ rfl (by unfold atMost;rw [if_neg hv1,if_neg hb,if_pos hu0] <;> rfl)
    ·refine tq_ rfl (leF rfl (by rw [← hlz];exact fun e=>hu0 (sg_le.1 e))) (zl 7 rfl (tc_ fn37 rfl (rqsign y.v (y.v.q) rfl (Fq.use (x:=y.v) (by omega))) ?_))
     by_cases hl0:0≤lv s.lems (best s.lems ((v - s.q.g.inp:Nat):Int)).1
     ·refine tq_ rfl (geT rfl (by rw [← hly];exact sg_ge.2 hl0)) (zl 16 rfl (te_ rfl (Je_buildSlice rfl un44 ty105 tz105 rfl (by decide) (by decide) rfl (by decide) rfl) (zl 4 rfl ?_)))
      exact r2_ hq_ rfl (by unfold atMost;rw [if_neg hv1,if_neg hb,if_neg hu0,if_pos hl0] <;> rfl)
     ·refine tq_ rfl (geF rfl (by rw [← hly];exact fun e=>hl0 (sg_ge.1 e))) (zl 8 rfl ?_)
      rw [hlz] at hu0
      rw [hly] at hl0
      have hne:z.v.q - y.v.q≠0:=by grind
      refine dr_ 1 [(8,4),(9,4)] [4] (dz 3 rfl (kc_ fn66 rfl (rqsub z.v (z.v.q) rfl (Fq.use (x:=z.v) (by omega)) y.v (y.v.q) rfl (Fq.use (x:=y.v) (by omega))) (kc_ fn171 rfl (rqdiv (qOf (((1:Int):Rat))) (((1:Int):Rat)) (qOf_q _) (Br.use (by omega)) (qOf ((z.v.q) - (y.v.q))) ((z.v.q) - (y.v.q)) (qOf_q _) (Br.use (by omega)) (by assumption)) (dz 6 rfl (DK_nil (za 2 rfl ?_))))))
      refine dr_ 0 [] [] (dz 5 rfl (kc_ fn55 rfl (rqmul (qOf ((((1:Int):Rat)) / ((z.v.q) - (y.v.q)))) ((((1:Int):Rat)) / ((z.v.q) - (y.v.q))) (qOf_q _) (Br.use (by omega)) z.v (z.v.q) rfl (Fq.use (x:=z.v) (by omega))) (dz 7 rfl (ke_ rfl (fun _=>Je_buildSlice rfl un44 ty105 tz105 rfl (by decide) (by decide) rfl (by decide) rfl) (dz 2 rfl (DK_nil (za 1 rfl ?_)))))))
      exact r2_ hq_ rfl (by unfold atMost;rw [if_neg hv1,if_neg hb,if_neg (by rw [hlz];exact hu0),if_neg (by rw [hly];exact hl0),hlz,hly] <;> rfl)
end Go.Proofs.YtmpkandbccallaaGreatDoor
set_option linter.unusedSimpArgs false
set_option linter.unusedVariables false
namespace Rc
open Go Go.RowKit
structure FL (B n:Nat) (f:Af):Prop where
 can:CanT f.ts
 bd:∀ t∈f.ts,Br t.2 B
 cb:Br f.c B
 var:∀ t∈f.ts,t.1 < n
theorem FL.mono {B C n m:Nat} {f:Af} (h:FL B n f) (h1:B≤C) (h2:n≤m):FL C m f:=
 ⟨h.can,fun t ht=>(h.bd t ht).mono h1,h.cb.mono h1,fun t ht=>Nat.lt_of_lt_of_le (h.var t ht) h2⟩
theorem FOk.fl {b n:Nat} {f:Af} (h:FOk b n f):FL (b + 1) n f:=⟨h.can,fun t ht=>(h.bd t ht).br,h.br,h.var⟩
theorem FL.fm {B n:Nat} {f:Af} (h:FL B n f) (hn:n≤1000000):Fm f.ts B n:=
 ⟨h.can,h.bd,by have:=canT_len (a:=0) h.can (fun t ht=>⟨Nat.zero_le _,h.var t ht⟩);omega,fun t ht=>Nat.lt_of_lt_of_le (h.var t ht) hn⟩
def fV (v:Nat):Af:=⟨[(v,((1:Int):Rat))],0⟩
def fN (c:Rat):Af:=⟨[],c⟩
def fAdd (f g:Af):Af:=⟨sumT f.ts g.ts,f.c + g.c⟩
def fSc (f:Af) (c:Rat):Af:=⟨scT f.ts c,f.c * c⟩
def fSub (f g:Af):Af:=⟨sumT f.ts (scT g.ts ((-1:Int):Rat)),f.c + g.c * ((-1:Int):Rat)⟩
def fZ:Af:=⟨[],0⟩
theorem FL.v {v n:Nat} (h:v < n):FL 2 n (fV v):=
 ⟨⟨by decide,fun t ht=>by simp at ht,trivial⟩,fun t ht=>by simp [fV] at ht;subst ht;exact Br.one,Br.zero.mono (by omega),fun t ht=>by simp [fV] at ht;subst ht;exact h⟩
theorem FL.n {c:Rat} {B n:Nat} (h:Br c B):FL B n (fN c):=⟨trivial,fun t ht=>by simp [fN] at ht,h,fun t ht=>by simp [fN] at ht⟩
theorem FL.z {n:Nat}:FL 0 n fZ:=⟨trivial,fun t ht=>by simp [fZ] at ht,Br.zero,fun t ht=>by simp [fZ] at ht⟩
theorem FL.add {f g:Af} {B C n:Nat} (hf:FL B n f) (hg:FL C n g):FL (B + C + 1) n (fAdd f g):=by
 haveI:=hf.cb;haveI:=hg.cb
 exact ⟨sumT_can hf.can,sumT_bd hf.can hg.can hf.bd hg.bd,Br.add,sumT_var hf.var hg.var⟩
theorem FL.sc {f:Af} {c:Rat} {B C n:Nat} (hf:FL B n f) [hc:Br c C]:FL (B + C + 1) n (fSc f c):=by
 haveI:=hf.cb
 refine ⟨by show CanT (scT f.ts c);rw [scT_eq];exact scR_can hf.can,fun t ht=>?_,Br.mul,fun t ht=>?_⟩
 ·have ht:t∈scT f.ts c:=ht
  rw [scT_eq] at ht
  obtain ⟨u,h1,h2,h3,_⟩:=scR_mem ht
  rw [h3]
  haveI:=hf.bd u h1
  exact Br.mul
 ·have ht:t∈scT f.ts c:=ht
  rw [scT_eq] at ht
  obtain ⟨u,h1,h2,_⟩:=scR_mem ht
  rw [← h2];exact hf.var u h1
theorem FL.sub {f g:Af} {B C n:Nat} (hf:FL B n f) (hg:FL C n g):FL (B + C + 4) n (fSub f g):=by
 have:=hf.add (FL.sc (c:=((-1:Int):Rat)) hg)
 exact this.mono (by omega) (Nat.le_refl _)
def DOk (b:Nat) (q:Qu) (d:Dc):Prop:=(((d.kind = 1 ∨ d.kind = 2)∧d.idx < q.g.us.length∧d.pt = 0) ∨ ((d.kind = 3 ∨ d.kind = 4)∧d.idx < q.g.inp))∧Hb d.pt b
def decM (path:List Dc) (k:Nat) (j:Int):Bool:=path.any (fun d=>((d.kind:Int) == (k:Int)) && ((d.idx:Int) == j))
def decN (path:List Dc) (k:Nat) (j:Int) (n:Nat):Bool:=(path.take n).any (fun d=>((d.kind:Int) == (k:Int)) && ((d.idx:Int) == j))
theorem decN_succ {path:List Dc} {k n:Nat} {j:Int} {d:Dc} (h:path[n]? = some d):decN path k j (n + 1) = (decN path k j n || (((d.kind:Int) == (k:Int)) && ((d.idx:Int) == j))):=by
 unfold decN;rw [take_snoc h,List.any_append];simp
theorem decM_end {path:List Dc} {k:Nat} {j:Int}:decN path k j path.length = decM path k j:=by unfold decN decM;rw [List.take_length]
theorem decM_t {path:List Dc} {k n:Nat} {j:Int} {d:Dc} (h:path[n]? = some d) (h1:((d.kind:Int) == (k:Int)) = true) (h2:((d.idx:Int) == j) = true):decM path k j = true:=by
 unfold decM;rw [List.any_eq_true];exact ⟨d,List.mem_of_getElem? h,by rw [h1,h2];rfl⟩
def lem (l:List Lm) (n unit:Int) (up:Bool):Rat × Bool:=
 if n < 1 then (0,false) else match l[(n - 1).toNat]? with
 | none=>(0,false)
 | some m=>if m.unit = unit∧m.up = up then (m.v.q,true) else (0,false)
theorem lem_lt {l:List Lm} {n unit:Int} {up:Bool} (h:n < 1):lem l n unit up = (0,false):=if_pos h
theorem lem_gt {l:List Lm} {n unit:Int} {up:Bool} (h:(l.length:Int) < n):lem l n unit up = (0,false):=by
 unfold lem;rw [if_neg (by omega),List.getElem?_eq_none (by omega)]
theorem lem_no {l:List Lm} {n unit:Int} {up:Bool} {m:Lm} (h:¬ n < 1) (hm:l[(n - 1).toNat]? = some m) (hn:¬ (m.unit = unit∧m.up = up)):lem l n unit up = (0,false):=by
 unfold lem;rw [if_neg h,hm];simp only [];rw [if_neg hn]
theorem lem_yes {l:List Lm} {n unit:Int} {up:Bool} {m:Lm} (h:¬ n < 1) (hm:l[(n - 1).toNat]? = some m) (hn:m.unit = unit∧m.up = up):lem l n unit up = (m.v.q,true):=by
 unfold lem;rw [if_neg h,hm];simp only [];rw [if_pos hn]
theorem lem_br {l:List Lm} {n unit:Int} {up:Bool} {B:Nat} (hB:∀ m∈l,Fq m.v B):Br (lem l n unit up).1 B:=by
 unfold lem
 split
 ·exact Br.zero.mono (Nat.zero_le _)
 ·split
  ·exact Br.zero.mono (Nat.zero_le _)
  ·rename_i m hm
   split
   ·haveI:=hB m (List.mem_of_getElem? hm);exact Fq.br
   ·exact Br.zero.mono (Nat.zero_le _)
section
variable (s:Sc) (r:Rw)
@[reducible] def lowQ:Rat:=(lem s.lems r.lo r.idx false).1
@[reducible] def lowB:Bool:=(lem s.lems r.lo r.idx false).2
@[reducible] def topQ:Rat:=(lem s.lems r.hi r.idx true).1
@[reducible] def topB:Bool:=(lem s.lems r.hi r.idx true).2
def onB:Bool:=(r.hi == 0) && (((r.lo == 0) && decM s.path 1 r.idx) || (lowB s r && decide (0≤sg (lowQ s r))))
def offB:Bool:=(r.lo == 0) && (((r.hi == 0) && decM s.path 2 r.idx) || (topB s r && decide (sg (topQ s r)≤0)))
def unitF (p:Af):Af × Bool:=
 if r.kind = 5 then (fV (s.q.g.inp + r.idx.toNat),(r.lo == 0) && (r.hi == 0))
 else if r.kind = 6 then (fSub (fV (s.q.g.inp + r.idx.toNat)) p,(r.lo == 0) && (r.hi == 0))
 else if r.kind = 7 then (p,onB s r)
 else if r.kind = 8 then (fSub p (fV (s.q.g.inp + r.idx.toNat)),onB s r)
 else if r.kind = 9 then (fSc p ((-1:Int):Rat),offB s r)
 else if r.kind = 10 then (fSc (fV (s.q.g.inp + r.idx.toNat)) ((-1:Int):Rat),offB s r)
 else if r.kind = 11 then (fSub p (fN (lowQ s r)),lowB s r && (r.hi == 0))
 else if r.kind = 12 then (fSub (fN (topQ s r)) p,topB s r && (r.lo == 0))
 else if r.kind = 13 then (fSub (fSc (fSub p (fN (lowQ s r))) (topQ s r)) (fSc (fV (s.q.g.inp + r.idx.toNat)) (topQ s r - lowQ s r)),lowB s r && topB s r && decide (sg (lowQ s r) < 0) && decide (0 < sg (topQ s r)))
 else (fZ,false)
def orZ (x:Af × Bool):Af × Bool:=if x.2 = true then x else (fZ,false)
def unitM:Af × Bool:=if r.idx < 0 then (fZ,false) else match s.q.g.us[r.idx.toNat]? with
 | none=>(fZ,false)
 | some p=>orZ (unitF s r p)
def pathF (d:Dc):Af:=if d.kind = 3 then fSub (fV d.idx) (fN d.pt) else fSc (fSub (fV d.idx) (fN d.pt)) ((-1:Int):Rat)
def formM:Af × Bool:=
 if 5≤r.kind then unitM s r
 else if r.lo≠0 ∨ r.hi≠0 ∨ r.idx < 0 then (fZ,false)
 else if r.kind = 1 then (match s.q.r.lo[r.idx.toNat]? with | some c=>(fSub (fV r.idx.toNat) (fN c),true) | none=>(fZ,false))
 else if r.kind = 2 then (match s.q.r.hi[r.idx.toNat]? with | some c=>(fSub (fN c) (fV r.idx.toNat),true) | none=>(fZ,false))
 else if r.kind = 3 then (match s.q.r.rows[r.idx.toNat]? with | some f=>(f,true) | none=>(fZ,false))
 else if r.kind = 4 then (match s.path[r.idx.toNat]? with | some d=>if 3≤d.kind then (pathF d,true) else (fZ,false) | none=>(fZ,false))
 else (fZ,false)
end
theorem unitM_t {s:Sc} {r:Rw} {p f:Af} (h1:¬ r.idx < 0) (hp:s.q.g.us[r.idx.toNat]? = some p) (h:unitF s r p = (f,true)):unitM s r = (f,true):=by
 unfold unitM;rw [if_neg h1,hp];simp only [h,orZ,if_true]
theorem unitM_f {s:Sc} {r:Rw} {p:Af} (h1:¬ r.idx < 0) (hp:s.q.g.us[r.idx.toNat]? = some p) (h:(unitF s r p).2 = false):unitM s r = (fZ,false):=by
 unfold unitM;rw [if_neg h1,hp];simp only [orZ];rw [if_neg (by rw [h];decide)]
theorem fZ_ret (b:Bool) (ls:List Leaf) (h:ls = [tmE.row [],Leaf.val (.bool false),nilL,nilL]):R.tup [V.agg ls,V.one (Leaf.val (.bool b))] = R.tup [afV fZ,V.one (Leaf.val (.bool b))]:=by
 subst h;show _ = R.tup [afV ⟨[],0⟩,_];rw [af0]
theorem qOf0:qOf 0 = qZero:=by
 show Qr.mk (cneg 0) (limbs (cnum 0)) (limbs (cden 0)) _ _ = Qr.mk false [] [] _ _
 simp only [Qr.mk.injEq,cnum_zero,cden_zero,limbs_zero,and_true]
 decide
theorem unitF_fl {s:Sc} {r:Rw} {p:Af} {B n:Nat} (hB:∀ m∈s.lems,Fq m.v B) (hp:FL 4 n p) (hv:s.q.g.inp + r.idx.toNat < n):FL (4 * B + 40) n (unitF s r p).1:=by
 haveI hl:Br (lowQ s r) B:=lem_br hB
 haveI ht:Br (topQ s r) B:=lem_br hB
 have h1:=FL.v hv
 have m:∀ {C:Nat} {f:Af},FL C n f→C≤4 * B + 40→FL (4 * B + 40) n f:=fun h hc=>h.mono hc (Nat.le_refl _)
 unfold unitF
 split;· exact m h1 (by omega)
 split;· exact m (h1.sub hp) (by omega)
 split;· exact m hp (by omega)
 split;· exact m (hp.sub h1) (by omega)
 split;· exact m (FL.sc (c:=((-1:Int):Rat)) hp) (by omega)
 split;· exact m (FL.sc (c:=((-1:Int):Rat)) h1) (by omega)
 split;· exact m (hp.sub (FL.n hl)) (by omega)
 split;· exact m ((FL.n ht).sub hp) (by omega)
 split;· exact m ((FL.sc (c:=topQ s r) (hp.sub (FL.n hl))).sub (FL.sc (c:=topQ s r - lowQ s r) h1)) (by omega)
 exact m FL.z (by omega)
theorem unitM_fl {s:Sc} {r:Rw} {B:Nat} (hq:QOk s.q) (hB:∀ m∈s.lems,Fq m.v B):FL (4 * B + 40) (s.q.g.inp + s.q.g.us.length) (unitM s r).1:=by
 unfold unitM
 split
 ·exact FL.z.mono (by omega) (Nat.le_refl _)
 ·split
  ·exact FL.z.mono (by omega) (Nat.le_refl _)
  ·rename_i p hp
   have hj:=(List.getElem?_eq_some_iff.1 hp).1
   unfold orZ
   split
   ·exact unitF_fl hB ((hq.g.us _ p hp).fl.mono (by omega) (by omega)) (by omega)
   ·exact FL.z.mono (by omega) (Nat.le_refl _)
theorem formM_fl {s:Sc} {r:Rw} {B b:Nat} (hq:QOk s.q) (hd:∀ d∈s.path,DOk b s.q d) (hB:∀ m∈s.lems,Fq m.v B):FL (4 * B + b + 40) (s.q.g.inp + s.q.g.us.length) (formM s r).1:=by
 have z:FL (4 * B + b + 40) (s.q.g.inp + s.q.g.us.length) fZ:=FL.z.mono (by omega) (Nat.le_refl _)
 have m:∀ {C:Nat} {f:Af},FL C (s.q.g.inp + s.q.g.us.length) f→C≤4 * B + b + 40→FL (4 * B + b + 40) (s.q.g.inp + s.q.g.us.length) f:=fun h hc=>h.mono hc (Nat.le_refl _)
 unfold formM
 split
 ·exact m (unitM_fl hq hB) (by omega)
 split
 ·exact z
 split
 ·split
  ·rename_i c hc
   have hj:=(List.getElem?_eq_some_iff.1 hc).1
   have hl:=hq.r.lo;have hh:=hq.r.hi
   obtain ⟨y,hy⟩:∃ y,s.q.r.hi[r.idx.toNat]? = some y:=⟨_,List.getElem?_eq_getElem (by omega)⟩
   exact m ((FL.v (by omega)).sub (FL.n (hq.r.bd _ _ _ hc hy).1.br)) (by omega)
  ·exact z
 split
 ·split
  ·rename_i c hc
   have hj:=(List.getElem?_eq_some_iff.1 hc).1
   have hl:=hq.r.lo;have hh:=hq.r.hi
   obtain ⟨y,hy⟩:∃ y,s.q.r.lo[r.idx.toNat]? = some y:=⟨_,List.getElem?_eq_getElem (by omega)⟩
   exact m ((FL.n (hq.r.bd _ _ _ hy hc).2.1.br).sub (FL.v (by omega))) (by omega)
  ·exact z
 split
 ·split
  ·rename_i f hf
   exact (hq.r.rows f (List.mem_of_getElem? hf)).fl.mono (by omega) (by omega)
  ·exact z
 split
 ·split
  ·rename_i d hdd
   have hok:=hd d (List.mem_of_getElem? hdd)
   split
   ·rename_i h3
    have hv:d.idx < s.q.g.inp + s.q.g.us.length:=by rcases hok.1 with ⟨h,_⟩ | ⟨_,h⟩ <;> omega
    unfold pathF
    split
    ·exact m ((FL.v hv).sub (FL.n hok.2.br)) (by omega)
    ·exact m (FL.sc (c:=((-1:Int):Rat)) ((FL.v hv).sub (FL.n hok.2.br))) (by omega)
   ·exact z
  ·exact z
 exact z
def sumM (s:Sc) (l:List Mu):Af:=l.foldl (fun a m=>fAdd a (fSc (formM s m.r).1 m.c.q)) fZ
theorem sumM_snoc (s:Sc) (l:List Mu) (m:Mu):sumM s (l ++ [m]) = fAdd (sumM s l) (fSc (formM s m.r).1 m.c.q):=by unfold sumM;rw [List.foldl_append];rfl
theorem sumM_take {s:Sc} {l:List Mu} {i:Nat} {m:Mu} (h:l[i]? = some m):sumM s (l.take (i + 1)) = fAdd (sumM s (l.take i)) (fSc (formM s m.r).1 m.c.q):=by rw [take_snoc h,sumM_snoc]
theorem foldl_fl {s:Sc} {B b C:Nat} (hq:QOk s.q) (hd:∀ d∈s.path,DOk b s.q d) (hB:∀ m∈s.lems,Fq m.v B):∀ (l:List Mu) (a:Af) (K:Nat),FL K (s.q.g.inp + s.q.g.us.length) a→MB C l →
  FL (K + l.length * (4 * B + b + C + 42)) (s.q.g.inp + s.q.g.us.length) (l.foldl (fun a m=>fAdd a (fSc (formM s m.r).1 m.c.q)) a)
 | [],a,K,h,_=>h.mono (by omega) (Nat.le_refl _)
 | m :: l,a,K,h,hm=>by
  haveI:=hm m (by simp)
  have h1:=h.add (FL.sc (c:=m.c.q) (formM_fl (r:=m.r) hq hd hB))
  have h2:=foldl_fl hq hd hB l _ _ h1 (fun x hx=>hm x (by simp [hx]))
  refine h2.mono ?_ (Nat.le_refl _)
  simp only [List.length_cons,Nat.add_mul]
  omega
theorem sumM_fl {s:Sc} {l:List Mu} {B b C:Nat} (hq:QOk s.q) (hd:∀ d∈s.path,DOk b s.q d) (hB:∀ m∈s.lems,Fq m.v B) (hm:MB C l):FL (l.length * (4 * B + b + C + 42)) (s.q.g.inp + s.q.g.us.length) (sumM s l):=
 (foldl_fl hq hd hB l fZ 0 FL.z hm).mono (by omega) (Nat.le_refl _)
theorem MB.take {C n:Nat} {l:List Mu} (h:MB C l):MB C (l.take n):=fun m hm=>h m (List.mem_of_mem_take hm)
def abst (inp:Nat) (lems:List Lm) (a:List Mu × Bool) (t:Tm):List Mu × Bool:=
 if a.2 = true then
  if 0 < t.2 then (mergeM a.1 (atLeast inp t.1) (rq false (cnum t.2) (cden t.2)),true)
  else match atMost inp lems t.1 with
   | some m=>(mergeM a.1 m (rq false (cnum t.2) (cden t.2)),true)
   | none=>([],false)
 else a
def absn (inp:Nat) (lems:List Lm) (ts:List Tm):List Mu × Bool:=ts.foldl (abst inp lems) ([],true)
theorem absn_snoc (inp:Nat) (lems:List Lm) (ts:List Tm) (t:Tm):absn inp lems (ts ++ [t]) = abst inp lems (absn inp lems ts) t:=by unfold absn;rw [List.foldl_append];rfl
theorem absn_take {inp:Nat} {lems:List Lm} {ts:List Tm} {i:Nat} {t:Tm} (h:ts[i]? = some t):absn inp lems (ts.take (i + 1)) = abst inp lems (absn inp lems (ts.take i)) t:=by rw [take_snoc h,absn_snoc]
theorem absn_no {inp:Nat} {lems:List Lm}:∀ (ts:List Tm) (a:List Mu × Bool),a.2 = false→(ts.foldl (abst inp lems) a).2 = false
 | [],a,h=>h
 | t :: ts,a,h=>absn_no ts _ (by unfold abst;rw [if_neg (by rw [h];decide)];exact h)
theorem absn_bad {inp:Nat} {lems:List Lm} {ts:List Tm} {i:Nat} (h:(absn inp lems (ts.take i)).2 = false):(absn inp lems ts).2 = false:=by
 have e:absn inp lems ts = (ts.drop i).foldl (abst inp lems) (absn inp lems (ts.take i)):=by
  unfold absn;rw [← List.foldl_append,List.take_append_drop]
 rw [e];exact absn_no _ _ h
end Rc
set_option linter.unusedSimpArgs false
set_option linter.unusedVariables false
namespace Go.Proofs.YtmpkandbccallaaGreatDoor
open Go Go.RowKit Rc
set_option maxRecDepth 10000 in
set_option maxHeartbeats 2000000 in
theorem lemma_r (s:Sc) {B:Nat} (hB:∀ m∈s.lems,Fq m.v B) (hB2:B≤100000000000) (hl:s.lems.length≤1000000) (n u:Int) (up:Bool):Ctr Tryz.prog 178 [scV s,V.one (Leaf.val (.int .i64 (n))),V.one (Leaf.val (.int .i64 (u))),V.one (Leaf.val (.bool up))] (R.tup [qV (qOf (lem s.lems n u up).1),V.one (Leaf.val (.bool (lem s.lems n u up).2))]):=by
 refine bd_ Tryz.func178 Tryz.ntmps178 rfl (fun w0 A0=>?_)
 refine zc 11 rfl ?_
 by_cases h1:n < 1
 ·refine tq_ rfl (ltT rfl) (zl 24 rfl (zl 15 rfl ?_))
  exact r2_ hq_ rfl (by rw [lem_lt h1];show _ = R.tup [qV (qOf 0),V.one (Leaf.val (.bool false))];rw [← qV_zero] <;> rfl)
 ·refine tq_ rfl (ltF rfl) (zl 4 rfl (tq_ rfl (jln rfl) ?_))
  by_cases h2:(s.lems.length:Int) < n
  ·refine tq_ rfl (gtT rfl) (zl 24 rfl (za 9 rfl ?_))
   exact r2_ hq_ rfl (by rw [lem_gt h2];show _ = R.tup [qV (qOf 0),V.one (Leaf.val (.bool false))];rw [← qV_zero] <;> rfl)
  ·refine tq_ rfl (gtF rfl) (zl 2 rfl ?_)
   obtain ⟨x,hx⟩:∃ x,s.lems[(n - 1).toNat]? = some x:=⟨_,List.getElem?_eq_getElem (by omega)⟩
   haveI hxB:=hB x (List.mem_of_getElem? hx)
   refine zl 3 rfl (tq_ rfl (Jq_sub rfl rfl rfl (r:=(n - 1)) (w64 (by omega) (by omega) (by omega))) (tq_ rfl (jix ((n - 1).toNat) hx rfl (by omega)) (tq_ rfl (jfr rfl) (tq_ rfl (jli rfl) (zl 1 rfl ?_)))))
   by_cases h3:x.unit≠u
   ·refine tq_ rfl (neT rfl) (zl 22 rfl ?_)
    exact r2_ hq_ rfl (by rw [lem_no h1 hx (fun e=>h3 e.1)];show _ = R.tup [qV (qOf 0),V.one (Leaf.val (.bool false))];rw [← qV_zero] <;> rfl)
   ·refine tq_ rfl (neF rfl) (zl 5 rfl (tq_ rfl (Jq_sub rfl rfl rfl (r:=(n - 1)) (w64 (by omega) (by omega) (by omega))) (tq_ rfl (jix ((n - 1).toNat) hx rfl (by omega)) (tq_ rfl (jfr rfl) (tq_ rfl (jli rfl) (zl 1 rfl ?_))))))
    by_cases h4:x.up≠up
    ·refine tq_ rfl (Jq_neq_bool rfl rfl rfl un4 (d:=true) (bne_iff_ne.2 h4)) (zl 11 rfl ?_)
     exact r2_ hq_ rfl (by rw [lem_no h1 hx (fun e=>h4 e.2)];show _ = R.tup [qV (qOf 0),V.one (Leaf.val (.bool false))];rw [← qV_zero] <;> rfl)
    ·refine tq_ rfl (Jq_neq_bool rfl rfl rfl un4 (d:=false) (by rw [Classical.not_not.1 h4];simp)) (zl 11 rfl (tq_ rfl (Jq_sub rfl rfl rfl (r:=(n - 1)) (w64 (by omega) (by omega) (by omega))) (tq_ rfl (jix ((n - 1).toNat) hx rfl (by omega)) (tq_ rfl (jft rfl) (tq_ rfl (jlr rfl) (tc_ fn57 rfl (rqcanon x.v (x.v.q) rfl (Fq.use (x:=x.v) (by omega))) (zl 4 rfl ?_)))))))
     exact r2_ hq_ rfl (by rw [lem_yes h1 hx ⟨Classical.not_not.1 h3,Classical.not_not.1 h4⟩] <;> rfl)
set_option maxRecDepth 10000 in
theorem fits_r (q:Qu) (d:Dc) {b:Nat} (hd:DOk b q d) (hb:b≤1000000):Ctr Tryz.prog 74 [quV q,dcV d] (R.one (V.one (Leaf.val (.bool true)))):=by
 refine bd_ Tryz.func74 Tryz.ntmps74 rfl (fun w0 A0=>?_)
 obtain ⟨hk,hbt⟩:=hd
 haveI:=hbt.br
 have hkk:d.kind = 1 ∨ d.kind = 2 ∨ d.kind = 3 ∨ d.kind = 4:=by rcases hk with ⟨h,_⟩ | ⟨h,_⟩ <;> omega
 refine zc 18 rfl ?_
 by_cases h1:d.kind = 1
 ·refine tq_ rfl (eqT rfl) (zl 8 rfl ?_)
  have hp0:d.idx < q.g.us.length∧d.pt = 0:=by rcases hk with ⟨_,h⟩ | ⟨h,_⟩ <;> first | exact h | omega
  refine zc 3 rfl (tq_ rfl (geT rfl) (zl 6 rfl (tq_ rfl (jln rfl) (tq_ rfl (ltT rfl) (zl 5 rfl (tc_ fn15 rfl (rqsame (qOf (d.pt)) qZero) (is_ true rfl (by rw [hp0.2,qOf0];rfl) (zl 4 rfl ?_))))))))
  exact r1_ hq_ rfl rfl
 ·refine tq_ rfl (eqF rfl) (zl 5 rfl ?_)
  by_cases h2:d.kind = 2
  ·refine tq_ rfl (eqT rfl) (zl 5 rfl ?_)
   have hp0:d.idx < q.g.us.length∧d.pt = 0:=by rcases hk with ⟨_,h⟩ | ⟨h,_⟩ <;> first | exact h | omega
   refine zc 3 rfl (tq_ rfl (geT rfl) (zl 6 rfl (tq_ rfl (jln rfl) (tq_ rfl (ltT rfl) (zl 5 rfl (tc_ fn15 rfl (rqsame (qOf (d.pt)) qZero) (is_ true rfl (by rw [hp0.2,qOf0];rfl) (zl 4 rfl ?_))))))))
   exact r1_ hq_ rfl rfl
  ·refine tq_ rfl (eqF rfl) (zl 7 rfl ?_)
   by_cases h3:d.kind = 3
   ·refine tq_ rfl (eqT rfl) (zl 8 rfl ?_)
    have hp0:d.idx < q.g.inp:=by rcases hk with ⟨h,_⟩ | ⟨_,h⟩ <;> first | exact h | omega
    refine zc 3 rfl (tq_ rfl (geT rfl) (zl 6 rfl (tq_ rfl (ltT rfl) (zl 4 rfl (tc_ fn110 rfl (rqvalid (qOf (d.pt)) (d.pt) (qOf_q _) (Br.use (by omega))) (is_ true rfl (isC_of _) (zl 4 rfl ?_)))))))
    exact r1_ hq_ rfl rfl
   ·refine tq_ rfl (eqF rfl) (zl 5 rfl (tq_ rfl (eqT rfl) (zl 5 rfl ?_)))
    have hp0:d.idx < q.g.inp:=by rcases hk with ⟨h,_⟩ | ⟨_,h⟩ <;> first | exact h | omega
    refine zc 3 rfl (tq_ rfl (geT rfl) (zl 6 rfl (tq_ rfl (ltT rfl) (zl 4 rfl (tc_ fn110 rfl (rqvalid (qOf (d.pt)) (d.pt) (qOf_q _) (Br.use (by omega))) (is_ true rfl (isC_of _) (zl 4 rfl ?_)))))))
    exact r1_ hq_ rfl rfl
set_option maxRecDepth 10000 in
theorem decided_r (s:Sc) {b:Nat} (hq:QOk s.q) (hd:∀ d∈s.path,DOk b s.q d) (hb:b≤1000000) (hpl:s.path.length≤1000) (k:Nat) (j:Int):Ctr Tryz.prog 142 [scV s,V.one (Leaf.val (.int .i64 ((k:Int)))),V.one (Leaf.val (.int .i64 (j)))] (R.one (V.one (Leaf.val (.bool (decM s.path k j))))):=by
 refine bd_ Tryz.func142 Tryz.ntmps142 rfl (fun w0 A0=>?_)
 refine zc 13 rfl (lpR_ (fun m Γ H=>∃ (i:Nat),s.path.length - i = m∧Γ = [(1,some (D.val (.int .i64 ((k:Nat):Int)))),(2,some (D.val (.int .i64 j))),(3,some (D.ptr 0 0)),(7,some (D.val (.int .i64 ((i:Nat):Int))))]∧H = [hb_ 42 (scL s)]∧i≤s.path.length∧decN s.path k j i = false) ⟨0,rfl,rfl,rfl,Nat.zero_le _,rfl⟩ rfl ?_)
 rintro m Γ H ⟨i,rfl,rfl,rfl,hi0,hno⟩
 refine zc 6 rfl (tq_ rfl (jln rfl) ?_)
 by_cases hi:i < s.path.length
 ·refine tq_ rfl (ltT rfl) (zl 8 rfl ?_)
  obtain ⟨x,hx⟩:∃ x,s.path[i]? = some x:=⟨_,List.getElem?_eq_getElem hi⟩
  have hxd:=hd x (List.mem_of_getElem? hx)
  refine dr_ 0 [] [] (dz 3 rfl (kq_ rfl (jix i hx rfl) (kq_ rfl (jfr rfl) (kq_ rfl (jli rfl) (dz 3 rfl ?_)))))
  refine ktw_ rfl (fun hk1=>?_) (fun hk1=>?_)
  ·refine dz 19 rfl (DK_nil (za 7 rfl (tq_ rfl (jad (i + 1) rfl) (zl 2 rfl ?_))))
   exact nx_ ⟨i + 1,rfl,rfl,rfl,hi,by rw [decN_succ hx,hno,hk1];rfl⟩ rfl
  ·refine dz 3 rfl (kq_ rfl (jix i hx rfl) (kq_ rfl (jfr rfl) (kq_ rfl (jli rfl) (dz 4 rfl ?_))))
   refine ktw_ rfl (fun hk2=>?_) (fun hk2=>?_)
   ·refine dz 9 rfl (DK_nil (za 7 rfl (tq_ rfl (jad (i + 1) rfl) (zl 2 rfl ?_))))
    exact nx_ ⟨i + 1,rfl,rfl,rfl,hi,by rw [decN_succ hx,hno,hk1,hk2];rfl⟩ rfl
   ·refine dz 5 rfl (kq_ rfl (jix i hx rfl) (kq_ rfl (jlr rfl) (kc_ fn74 rfl (fits_r s.q x (by assumption) (by omega)) (dz 1 rfl (DK_nil (za 7 rfl ?_))))))
    exact r1_ hq_ rfl (by rw [decM_t hx hk1 hk2])
 ·refine tq_ rfl (ltF rfl) (zl 13 rfl ?_)
  exact r1_ hq_ rfl (by rw [← decM_end,← show i = s.path.length by omega,hno])
end Go.Proofs.YtmpkandbccallaaGreatDoor
set_option linter.unusedSimpArgs false
set_option linter.unusedVariables false
namespace Go.Proofs.YtmpkandbccallaaGreatDoor
open Go Go.RowKit Rc
set_option maxRecDepth 10000 in
set_option maxHeartbeats 2000000 in
theorem unit_r (s:Sc) {B:Nat} (hB:∀ m∈s.lems,Fq m.v B) (hB2:B≤1000000000) (hl:s.lems.length≤1000000) {b:Nat} (hq:QOk s.q) (hd:∀ d∈s.path,DOk b s.q d) (hb:b≤1000000) (hpl:s.path.length≤1000) (r:Rw):Ctr Tryz.prog 122 [scV s,rwV r] (R.tup [afV (unitM s r).1,V.one (Leaf.val (.bool (unitM s r).2))]):=by
 refine bd_ Tryz.func122 Tryz.ntmps122 rfl (fun w0 A0=>?_)
 have hg:=hq.g;have hr:=hq.r;have hlo:=hr.lo;have hhi:=hr.hi
 have h1:=hg.i1;have h2:=hg.i3;have h3:=hg.u4;have h4:=hg.o1;have h5:=hg.o3
 refine zc 19 rfl ?_
 refine nz_ [so 2 (D.ptr 0 0),so 3 (D.ptr 1 0),so 4 (D.ptr 2 0),so 6 (D.ptr 3 0)] [hb_ 42 (scL s),hb_ 103 [Leaf.val (.int .i64 r.kind),Leaf.val (.int .i64 r.idx),Leaf.val (.int .i64 r.lo),Leaf.val (.int .i64 r.hi)],hb_ 29 [El.row tmE ([]),Leaf.val (.bool false),natL ([]),natL ([])],hb_ 33 [Leaf.val (.int .i64 ((s.q.g.inp:Nat):Int)),El.row afE s.q.g.us,El.row afE s.q.g.os]] rfl rfl ?_
 refine zc 3 rfl ?_
 by_cases h1:r.idx < 0
 ·refine tq_ rfl (ltT rfl) (zl 12 rfl (nf_ [0,1,3] [so 4 _] [none,none,_,none] rfl rfl rfl (zc 6 rfl ?_)))
  exact r2_ hq_ rfl (by unfold unitM;rw [if_pos h1];exact fZ_ret _ _ rfl)
 ·refine tq_ rfl (ltF rfl) (zl 5 rfl (tq_ rfl (jln rfl) ?_))
  by_cases h2:(s.q.g.us.length:Int)≤r.idx
  ·refine tq_ rfl (geT rfl) (zl 5 rfl (nf_ [0,1,3] [so 4 _] [none,none,_,none] rfl rfl rfl (zc 6 rfl ?_)))
   exact r2_ hq_ rfl (by unfold unitM;rw [if_neg h1,List.getElem?_eq_none (by omega)];exact fZ_ret _ _ rfl)
  ·refine tq_ rfl (geF rfl) (zl 7 rfl ?_)
   obtain ⟨p,hp0⟩:∃ p,s.q.g.us[r.idx.toNat]? = some p:=⟨_,List.getElem?_eq_getElem (by omega)⟩
   have hp:FL 4 (s.q.g.inp + s.q.g.us.length) p:=(hq.g.us _ p hp0).fl.mono (by omega) (by omega)
   have hv:FL 2 (s.q.g.inp + s.q.g.us.length) (fV (s.q.g.inp + r.idx.toNat)):=FL.v (by omega)
   haveI hlq:Br (lowQ s r) B:=lem_br hB
   haveI htq:Br (topQ s r) B:=lem_br hB
   have hnl:FL B (s.q.g.inp + s.q.g.us.length) (fN (lowQ s r)):=FL.n hlq
   have hnt:FL B (s.q.g.inp + s.q.g.us.length) (fN (topQ s r)):=FL.n htq
   have g3:=hp.sub hnl
   have g5:=FL.sc (c:=topQ s r) g3
   have g6:=FL.sc (c:=topQ s r - lowQ s r) hv
   haveI:=hp.fm (by omega);haveI:=hp.cb
   haveI:=hv.fm (by omega);haveI:=hv.cb
   haveI:=hnl.fm (by omega);haveI:=hnl.cb
   haveI:=hnt.fm (by omega);haveI:=hnt.cb
   haveI:=g3.fm (by omega);haveI:=g3.cb
   haveI:=g5.fm (by omega);haveI:=g5.cb
   haveI:=g6.fm (by omega);haveI:=g6.cb
   refine dr_ 2 [(12,4),(13,5),(14,4),(15,5)] [4,5] (dz 4 rfl (kq_ rfl (jad (s.q.g.inp + r.idx.toNat) rfl) (kc_ fn121 rfl (rvar (s.q.g.inp + r.idx.toNat) (by omega)) (dz 4 rfl (kq_ rfl (jix r.idx.toNat hp0 rfl (by omega)) (kq_ rfl (jlr rfl) (dz 4 rfl (DK_nil (za 2 rfl ?_)))))))))
   refine nf_ [3] [so 2 _,so 3 _,so 4 _,so 7 (D.ptr 4 0),so 8 (D.ptr 5 0)] [_,_,_,none,hb_ 29 (afL (fV (s.q.g.inp + r.idx.toNat))),hb_ 29 (afL p)] rfl rfl rfl (zc 6 rfl (tc_ fn178 rfl (lemma_r s hB (by omega) hl r.lo r.idx false) (zl 9 rfl ?_)))
   refine nz_ [so 2 _,so 3 _,so 4 _,so 7 _,so 8 _,so 9 (D.ptr 6 0),so 10 (D.bool (lowB s r))] [_,_,_,none,_,_,hb_ 27 (qL (lowQ s r))] rfl rfl (zc 6 rfl (tc_ fn178 rfl (lemma_r s hB (by omega) hl r.hi r.idx true) (zl 9 rfl ?_)))
   refine nz_ [so 2 _,so 3 _,so 4 _,so 7 _,so 8 _,so 9 _,so 10 _,so 11 (D.ptr 7 0),so 12 (D.bool (topB s r))] [_,_,_,none,_,_,_,hb_ 27 (qL (topQ s r))] rfl rfl (zc 1 rfl (tc_ fn36 rfl (rqof (-1) (by decide) (by decide)) (zl 4 rfl ?_)))
   refine mt_ [so 2 (D.ptr 0 0),so 3 (D.ptr 1 0),so 4 (D.ptr 2 0),so 7 (D.ptr 4 0),so 8 (D.ptr 5 0),so 9 (D.ptr 6 0),so 10 (D.bool (lowB s r)),so 11 (D.ptr 7 0),so 12 (D.bool (topB s r)),so 13 (D.ptr 8 0),so 14 (D.bool (onB s r))] [hb_ 42 (scL s),hb_ 103 [Leaf.val (.int .i64 r.kind),Leaf.val (.int .i64 r.idx),Leaf.val (.int .i64 r.lo),Leaf.val (.int .i64 r.hi)],hb_ 29 [El.row tmE ([]),Leaf.val (.bool false),natL ([]),natL ([])],none,hb_ 29 (afL (fV (s.q.g.inp + r.idx.toNat))),hb_ 29 (afL p),hb_ 27 (qL (lowQ s r)),hb_ 27 (qL (topQ s r)),hb_ 27 (qL (((-1):Int):Rat))] ?_ ?_
   ·refine zc 5 rfl ?_
    refine two_ rfl (fun hb68=>?_) (fun hb68=>?_)
    ·refine zl 18 rfl (is_ (onB s r) rfl (by simp [onB, *]) (zl 2 rfl ?_))
     exact mx_ rfl
    ·refine zl 4 rfl ?_
     refine two_ rfl (fun hb72=>?_) (fun hb72=>?_)
     ·refine zl 8 rfl ?_
      refine two_ rfl (fun hb80=>?_) (fun hb80=>?_)
      ·refine zl 6 rfl (is_ (onB s r) rfl (by simp [onB, *]) (zl 2 rfl ?_))
       exact mx_ rfl
      ·refine zl 1 rfl (tc_ fn37 rfl (rqsign (qOf ((lowQ s r))) ((lowQ s r)) (qOf_q _) (Br.use (by omega))) (zl 4 rfl (is_ (onB s r) rfl (by simp [onB, *]) (zl 2 rfl ?_))))
       exact mx_ rfl
     ·refine zl 3 rfl (tc_ fn142 rfl (decided_r s hq hd (by omega) hpl 1 r.idx) (zl 2 rfl ?_))
      refine two_ rfl (fun hb78=>?_) (fun hb78=>?_)
      ·refine zl 2 rfl ?_
       refine two_ rfl (fun hb80=>?_) (fun hb80=>?_)
       ·refine zl 6 rfl (is_ (onB s r) rfl (by simp [onB, *]) (zl 2 rfl ?_))
        exact mx_ rfl
       ·refine zl 1 rfl (tc_ fn37 rfl (rqsign (qOf ((lowQ s r))) ((lowQ s r)) (qOf_q _) (Br.use (by omega))) (zl 4 rfl (is_ (onB s r) rfl (by simp [onB, *]) (zl 2 rfl ?_))))
        exact mx_ rfl
      ·refine zl 8 rfl (is_ (onB s r) rfl (by simp [onB, *]) (zl 2 rfl ?_))
       exact mx_ rfl
   ·refine mt_ [so 3 (D.ptr 1 0),so 4 (D.ptr 2 0),so 7 (D.ptr 4 0),so 8 (D.ptr 5 0),so 9 (D.ptr 6 0),so 10 (D.bool (lowB s r)),so 11 (D.ptr 7 0),so 12 (D.bool (topB s r)),so 13 (D.ptr 8 0),so 14 (D.bool (onB s r)),so 15 (D.bool (offB s r))] [hb_ 42 (scL s),hb_ 103 [Leaf.val (.int .i64 r.kind),Leaf.val (.int .i64 r.idx),Leaf.val (.int .i64 r.lo),Leaf.val (.int .i64 r.hi)],hb_ 29 [El.row tmE ([]),Leaf.val (.bool false),natL ([]),natL ([])],none,hb_ 29 (afL (fV (s.q.g.inp + r.idx.toNat))),hb_ 29 (afL p),hb_ 27 (qL (lowQ s r)),hb_ 27 (qL (topQ s r)),hb_ 27 (qL (((-1):Int):Rat))] ?_ ?_
    ·refine zc 5 rfl ?_
     refine two_ rfl (fun hb90=>?_) (fun hb90=>?_)
     ·refine zl 18 rfl (is_ (offB s r) rfl (by simp [offB, *]) (zl 2 rfl ?_))
      exact mx_ rfl
     ·refine zl 4 rfl ?_
      refine two_ rfl (fun hb94=>?_) (fun hb94=>?_)
      ·refine zl 8 rfl ?_
       refine two_ rfl (fun hb102=>?_) (fun hb102=>?_)
       ·refine zl 6 rfl (is_ (offB s r) rfl (by simp [offB, *]) (zl 2 rfl ?_))
        exact mx_ rfl
       ·refine zl 1 rfl (tc_ fn37 rfl (rqsign (qOf ((topQ s r))) ((topQ s r)) (qOf_q _) (Br.use (by omega))) (zl 4 rfl (is_ (offB s r) rfl (by simp [offB, *]) (zl 2 rfl ?_))))
        exact mx_ rfl
      ·refine zl 3 rfl (tc_ fn142 rfl (decided_r s hq hd (by omega) hpl 2 r.idx) (zl 2 rfl ?_))
       refine two_ rfl (fun hb100=>?_) (fun hb100=>?_)
       ·refine zl 2 rfl ?_
        refine two_ rfl (fun hb102=>?_) (fun hb102=>?_)
        ·refine zl 6 rfl (is_ (offB s r) rfl (by simp [offB, *]) (zl 2 rfl ?_))
         exact mx_ rfl
        ·refine zl 1 rfl (tc_ fn37 rfl (rqsign (qOf ((topQ s r))) ((topQ s r)) (qOf_q _) (Br.use (by omega))) (zl 4 rfl (is_ (offB s r) rfl (by simp [offB, *]) (zl 2 rfl ?_))))
         exact mx_ rfl
       ·refine zl 8 rfl (is_ (offB s r) rfl (by simp [offB, *]) (zl 2 rfl ?_))
        exact mx_ rfl
    ·refine zc 18 rfl ?_
     by_cases hk5:r.kind = 5
     ·refine tq_ rfl (eqT rfl) (zl 4 rfl (nf_ [0,5,6,7,8] [so 3 _,so 4 _,so 7 _,so 16 (D.ptr 9 0)] [none,_,_,none,_,none,none,none,none,hb_ 29 [El.row tmE ([]),Leaf.val (.bool false),natL ([]),natL ([])]] rfl rfl rfl (dr_ 0 [(9,9)] [9] (dz 5 rfl ?_))))
      refine ktw_ rfl (fun hb118=>?_) (fun hb118=>?_)
      ·refine dz 6 rfl (DK_nil (za 4 rfl (nf_ [1,4] [so 4 _,so 16 _,so 17 (D.bool false)] [none,none,_,none,none,none,none,none,none,hb_ 29 (afL (fV (s.q.g.inp + r.idx.toNat)))] rfl rfl rfl (zc 13 rfl ?_))))
       exact r2_ hq_ rfl (by rw [unitM_f h1 hp0 (by unfold unitF;rw [if_pos hk5];(try simp at hc212);simp [*])];exact fZ_ret _ _ rfl)
      ·refine dz 6 rfl (DK_nil (za 4 rfl (nf_ [1,4] [so 4 _,so 16 _,so 17 (D.bool (r.hi == 0))] [none,none,_,none,none,none,none,none,none,hb_ 29 (afL (fV (s.q.g.inp + r.idx.toNat)))] rfl rfl rfl (zc 5 rfl ?_))))
       refine Tc_cond rfl (fun hc212=>?_) (fun hc212=>?_)
       ·refine zc 7 rfl ?_
        exact r2_ hq_ rfl (by rw [unitM_f h1 hp0 (by unfold unitF;rw [if_pos hk5];(try simp at hc212);simp [*])];exact fZ_ret _ _ rfl)
       ·refine zc 9 rfl ?_
        exact r2_ hq_ rfl (by rw [unitM_t h1 hp0 (show unitF s r p = ((fV (s.q.g.inp + r.idx.toNat)),true) from by unfold unitF;rw [if_pos hk5];(try simp at hc212);simp [*])] <;> rfl)
     ·refine tq_ rfl (eqF rfl) (zl 5 rfl ?_)
      refine nf_ [0] [so 3 _,so 4 _,so 7 _,so 8 _,so 9 _,so 10 _,so 11 _,so 12 _,so 13 (D.ptr 8 0),so 14 (D.bool (onB s r)),so 15 (D.bool (offB s r)),so 16 (D.ptr 9 0),so 17 (D.bool false),so 111 (D.val (.int .i64 r.kind))] [none,_,_,none,_,_,_,_,hb_ 27 (qL (((-1):Int):Rat)),hb_ 29 [El.row tmE ([]),Leaf.val (.bool false),natL ([]),natL ([])]] rfl rfl rfl ?_
      refine zc 1 rfl ?_
      by_cases hk6:r.kind = 6
      ·refine tq_ rfl (eqT rfl) (zl 4 rfl (dr_ 0 [(11,9)] [9] (dz 2 rfl (kc_ fn20 rfl (rsub7 (fV (s.q.g.inp + r.idx.toNat)) p (by omega) (by omega) (by omega)) (dz 4 rfl ?_)))))
       refine ktw_ rfl (fun hb131=>?_) (fun hb131=>?_)
       ·refine dz 6 rfl (DK_nil (za 4 rfl (nf_ [1,4,5,6,7,8] [so 4 _,so 16 _,so 17 _] [none,none,_,none,none,none,none,none,none,hb_ 29 (afL (fSub (fV (s.q.g.inp + r.idx.toNat)) p))] rfl rfl rfl (zc 13 rfl ?_))))
        exact r2_ hq_ rfl (by rw [unitM_f h1 hp0 (by unfold unitF;rw [if_neg hk5,if_pos hk6];(try simp at hc212);simp [*])];exact fZ_ret _ _ rfl)
       ·refine dz 6 rfl (DK_nil (za 4 rfl (nf_ [1,4,5,6,7,8] [so 4 _,so 16 _,so 17 (D.bool (r.hi == 0))] [none,none,_,none,none,none,none,none,none,hb_ 29 (afL (fSub (fV (s.q.g.inp + r.idx.toNat)) p))] rfl rfl rfl (zc 5 rfl ?_))))
        refine Tc_cond rfl (fun hc212=>?_) (fun hc212=>?_)
        ·refine zc 7 rfl ?_
         exact r2_ hq_ rfl (by rw [unitM_f h1 hp0 (by unfold unitF;rw [if_neg hk5,if_pos hk6];(try simp at hc212);simp [*])];exact fZ_ret _ _ rfl)
        ·refine zc 9 rfl ?_
         exact r2_ hq_ rfl (by rw [unitM_t h1 hp0 (show unitF s r p = (fSub (fV (s.q.g.inp + r.idx.toNat)) p,true) from by unfold unitF;rw [if_neg hk5,if_pos hk6];(try simp at hc212);simp [*])] <;> rfl)
      ·refine tq_ rfl (eqF rfl) (zl 5 rfl (nz_ [so 3 _,so 4 _,so 7 _,so 8 _,so 9 _,so 10 _,so 11 _,so 12 _,so 13 _,so 14 _,so 15 _,so 16 _,so 17 _,so 111 _] [none,_,_,none,_,_,_,_,_,_] rfl rfl (zc 1 rfl ?_)))
       by_cases hk7:r.kind = 7
       ·refine tq_ rfl (eqT rfl) (zl 19 rfl ?_)
        refine Tc_cond rfl (fun hc212=>?_) (fun hc212=>?_)
        ·refine zc 1 rfl (nf_ [1,4,5,6,7,8,9] [so 4 _] [none,none,_,none,none,none,none,none,none,none] rfl rfl rfl (zc 6 rfl ?_))
         exact r2_ hq_ rfl (by rw [unitM_f h1 hp0 (by unfold unitF;rw [if_neg hk5,if_neg hk6,if_pos hk7];(try simp at hc212);simp [*])];exact fZ_ret _ _ rfl)
        ·refine zc 9 rfl ?_
         exact r2_ hq_ rfl (by rw [unitM_t h1 hp0 (show unitF s r p = (p,true) from by unfold unitF;rw [if_neg hk5,if_neg hk6,if_pos hk7];(try simp at hc212);simp [*])] <;> rfl)
       ·refine tq_ rfl (eqF rfl) (zl 5 rfl (nz_ [so 3 _,so 4 _,so 7 _,so 8 _,so 9 _,so 10 _,so 11 _,so 12 _,so 13 _,so 14 _,so 15 _,so 16 _,so 17 _,so 111 _] [none,_,_,none,_,_,_,_,_,_] rfl rfl (zc 1 rfl ?_)))
        by_cases hk8:r.kind = 8
        ·refine tq_ rfl (eqT rfl) (zl 7 rfl (tc_ fn20 rfl (rsub7 p (fV (s.q.g.inp + r.idx.toNat)) (by omega) (by omega) (by omega)) (zl 8 rfl (nf_ [1,4,5,6,7,8] [so 4 _,so 16 _,so 17 (D.bool (onB s r))] [none,none,_,none,none,none,none,none,none,hb_ 29 (afL (fSub p (fV (s.q.g.inp + r.idx.toNat))))] rfl rfl rfl (zc 5 rfl ?_)))))
         refine Tc_cond rfl (fun hc212=>?_) (fun hc212=>?_)
         ·refine zc 7 rfl ?_
          exact r2_ hq_ rfl (by rw [unitM_f h1 hp0 (by unfold unitF;rw [if_neg hk5,if_neg hk6,if_neg hk7,if_pos hk8];(try simp at hc212);simp [*])];exact fZ_ret _ _ rfl)
         ·refine zc 9 rfl ?_
          exact r2_ hq_ rfl (by rw [unitM_t h1 hp0 (show unitF s r p = (fSub p (fV (s.q.g.inp + r.idx.toNat)),true) from by unfold unitF;rw [if_neg hk5,if_neg hk6,if_neg hk7,if_pos hk8];(try simp at hc212);simp [*])] <;> rfl)
        ·refine tq_ rfl (eqF rfl) (zl 5 rfl (nz_ [so 3 _,so 4 _,so 7 _,so 8 _,so 9 _,so 10 _,so 11 _,so 12 _,so 13 _,so 15 _,so 16 _,so 17 _,so 111 _] [none,_,_,none,_,_,_,_,_,_] rfl rfl (zc 1 rfl ?_)))
         by_cases hk9:r.kind = 9
         ·refine tq_ rfl (eqT rfl) (zl 7 rfl (tc_ fn64 rfl (rscale_w p (((-1):Int):Rat) (by omega) (by omega)) (zl 8 rfl (nf_ [1,4,5,6,7,8] [so 4 _,so 16 _,so 17 (D.bool (offB s r))] [none,none,_,none,none,none,none,none,none,hb_ 29 (afL (fSc p (((-1):Int):Rat)))] rfl rfl rfl (zc 5 rfl ?_)))))
          refine Tc_cond rfl (fun hc212=>?_) (fun hc212=>?_)
          ·refine zc 7 rfl ?_
           exact r2_ hq_ rfl (by rw [unitM_f h1 hp0 (by unfold unitF;rw [if_neg hk5,if_neg hk6,if_neg hk7,if_neg hk8,if_pos hk9];(try simp at hc212);simp [*])];exact fZ_ret _ _ rfl)
          ·refine zc 9 rfl ?_
           exact r2_ hq_ rfl (by rw [unitM_t h1 hp0 (show unitF s r p = (fSc p ((-1:Int):Rat),true) from by unfold unitF;rw [if_neg hk5,if_neg hk6,if_neg hk7,if_neg hk8,if_pos hk9];(try simp at hc212);simp [*])] <;> rfl)
         ·refine tq_ rfl (eqF rfl) (zl 5 rfl (nz_ [so 3 _,so 4 _,so 7 _,so 8 _,so 9 _,so 10 _,so 11 _,so 12 _,so 13 _,so 15 _,so 16 _,so 17 _,so 111 _] [none,_,_,none,_,_,_,_,_,_] rfl rfl (zc 1 rfl ?_)))
          by_cases hk10:r.kind = 10
          ·refine tq_ rfl (eqT rfl) (zl 7 rfl (tc_ fn64 rfl (rscale_w (fV (s.q.g.inp + r.idx.toNat)) (((-1):Int):Rat) (by omega) (by omega)) (zl 8 rfl (nf_ [1,4,5,6,7,8] [so 4 _,so 16 _,so 17 (D.bool (offB s r))] [none,none,_,none,none,none,none,none,none,hb_ 29 (afL (fSc (fV (s.q.g.inp + r.idx.toNat)) (((-1):Int):Rat)))] rfl rfl rfl (zc 5 rfl ?_)))))
           refine Tc_cond rfl (fun hc212=>?_) (fun hc212=>?_)
           ·refine zc 7 rfl ?_
            exact r2_ hq_ rfl (by rw [unitM_f h1 hp0 (by unfold unitF;rw [if_neg hk5,if_neg hk6,if_neg hk7,if_neg hk8,if_neg hk9,if_pos hk10];(try simp at hc212);simp [*])];exact fZ_ret _ _ rfl)
           ·refine zc 9 rfl ?_
            exact r2_ hq_ rfl (by rw [unitM_t h1 hp0 (show unitF s r p = (fSc (fV (s.q.g.inp + r.idx.toNat)) ((-1:Int):Rat),true) from by unfold unitF;rw [if_neg hk5,if_neg hk6,if_neg hk7,if_neg hk8,if_neg hk9,if_pos hk10];(try simp at hc212);simp [*])] <;> rfl)
          ·refine tq_ rfl (eqF rfl) (zl 5 rfl (nf_ [8] [so 3 _,so 4 _,so 7 _,so 8 _,so 9 _,so 10 _,so 11 _,so 12 _,so 16 _,so 17 _,so 111 _] [none,_,_,none,_,_,_,_,none,_] rfl rfl rfl (zc 1 rfl ?_)))
           by_cases hk11:r.kind = 11
           ·refine tq_ rfl (eqT rfl) (zl 4 rfl (dr_ 0 [(10,9)] [9] (dz 2 rfl (kc_ fn21 rfl (rnumber (lowQ s r)) (kc_ fn20 rfl (rsub7 p (fN (lowQ s r)) (by omega) (by omega) (by omega)) (dz 2 rfl ?_))))))
            refine ktw_ rfl (fun hb165=>?_) (fun hb165=>?_)
            ·refine dz 6 rfl (DK_nil (za 4 rfl (nf_ [1,4,5,6,7] [so 4 _,so 16 _,so 17 _] [none,none,_,none,none,none,none,none,none,hb_ 29 (afL (fSub p (fN (lowQ s r))))] rfl rfl rfl (zc 13 rfl ?_))))
             exact r2_ hq_ rfl (by rw [unitM_f h1 hp0 (by unfold unitF;rw [if_neg hk5,if_neg hk6,if_neg hk7,if_neg hk8,if_neg hk9,if_neg hk10,if_pos hk11];(try simp at hc212);simp [*])];exact fZ_ret _ _ rfl)
            ·refine dz 6 rfl (DK_nil (za 4 rfl (nf_ [1,4,5,6,7] [so 4 _,so 16 _,so 17 (D.bool (r.hi == 0))] [none,none,_,none,none,none,none,none,none,hb_ 29 (afL (fSub p (fN (lowQ s r))))] rfl rfl rfl (zc 5 rfl ?_))))
             refine Tc_cond rfl (fun hc212=>?_) (fun hc212=>?_)
             ·refine zc 7 rfl ?_
              exact r2_ hq_ rfl (by rw [unitM_f h1 hp0 (by unfold unitF;rw [if_neg hk5,if_neg hk6,if_neg hk7,if_neg hk8,if_neg hk9,if_neg hk10,if_pos hk11];(try simp at hc212);simp [*])];exact fZ_ret _ _ rfl)
             ·refine zc 9 rfl ?_
              exact r2_ hq_ rfl (by rw [unitM_t h1 hp0 (show unitF s r p = (fSub p (fN (lowQ s r)),true) from by unfold unitF;rw [if_neg hk5,if_neg hk6,if_neg hk7,if_neg hk8,if_neg hk9,if_neg hk10,if_pos hk11];(try simp at hc212);simp [*])] <;> rfl)
           ·refine tq_ rfl (eqF rfl) (zl 5 rfl (nz_ [so 3 _,so 4 _,so 7 _,so 8 _,so 9 _,so 10 _,so 11 _,so 12 _,so 16 _,so 17 _,so 111 _] [none,_,_,none,_,_,_,_,none,_] rfl rfl (zc 1 rfl ?_)))
            by_cases hk12:r.kind = 12
            ·refine tq_ rfl (eqT rfl) (zl 4 rfl (dr_ 0 [(10,9)] [9] (dz 1 rfl (kc_ fn21 rfl (rnumber (topQ s r)) (dz 1 rfl (kc_ fn20 rfl (rsub7 (fN (topQ s r)) p (by omega) (by omega) (by omega)) (dz 2 rfl ?_)))))))
             refine ktw_ rfl (fun hb177=>?_) (fun hb177=>?_)
             ·refine dz 6 rfl (DK_nil (za 4 rfl (nf_ [1,4,5,6,7] [so 4 _,so 16 _,so 17 _] [none,none,_,none,none,none,none,none,none,hb_ 29 (afL (fSub (fN (topQ s r)) p))] rfl rfl rfl (zc 13 rfl ?_))))
              exact r2_ hq_ rfl (by rw [unitM_f h1 hp0 (by unfold unitF;rw [if_neg hk5,if_neg hk6,if_neg hk7,if_neg hk8,if_neg hk9,if_neg hk10,if_neg hk11,if_pos hk12];(try simp at hc212);simp [*])];exact fZ_ret _ _ rfl)
             ·refine dz 6 rfl (DK_nil (za 4 rfl (nf_ [1,4,5,6,7] [so 4 _,so 16 _,so 17 (D.bool (r.lo == 0))] [none,none,_,none,none,none,none,none,none,hb_ 29 (afL (fSub (fN (topQ s r)) p))] rfl rfl rfl (zc 5 rfl ?_))))
              refine Tc_cond rfl (fun hc212=>?_) (fun hc212=>?_)
              ·refine zc 7 rfl ?_
               exact r2_ hq_ rfl (by rw [unitM_f h1 hp0 (by unfold unitF;rw [if_neg hk5,if_neg hk6,if_neg hk7,if_neg hk8,if_neg hk9,if_neg hk10,if_neg hk11,if_pos hk12];(try simp at hc212);simp [*])];exact fZ_ret _ _ rfl)
              ·refine zc 9 rfl ?_
               exact r2_ hq_ rfl (by rw [unitM_t h1 hp0 (show unitF s r p = (fSub (fN (topQ s r)) p,true) from by unfold unitF;rw [if_neg hk5,if_neg hk6,if_neg hk7,if_neg hk8,if_neg hk9,if_neg hk10,if_neg hk11,if_pos hk12];(try simp at hc212);simp [*])] <;> rfl)
            ·refine tq_ rfl (eqF rfl) (zl 5 rfl (nf_ [1] [so 4 _,so 7 _,so 8 _,so 9 _,so 10 _,so 11 _,so 12 _,so 16 _,so 17 _,so 111 _] [none,none,_,none,_,_,_,_,none,_] rfl rfl rfl (zc 1 rfl ?_)))
             by_cases hk13:r.kind = 13
             ·refine tq_ rfl (eqT rfl) (zl 5 rfl (dr_ 1 [(6,10),(7,10)] [10] (dz 2 rfl (kc_ fn21 rfl (rnumber (lowQ s r)) (kc_ fn20 rfl (rsub7 p (fN (lowQ s r)) (by omega) (by omega) (by omega)) (dz 1 rfl (kc_ fn64 rfl (rscale_w (fSub p (fN (lowQ s r))) (topQ s r) (by omega) (by omega)) (dz 2 rfl (DK_nil ?_)))))))))
              refine za 1 rfl (nf_ [5] [so 4 _,so 7 _,so 9 _,so 10 _,so 11 _,so 12 _,so 16 _,so 18 (D.ptr 10 0)] [none,none,_,none,_,none,_,_,none,_,hb_ 29 (afL (fSc (fSub p (fN (lowQ s r))) (topQ s r)))] rfl rfl rfl (dr_ 0 [(21,9)] [9] (dz 4 rfl ?_)))
              refine kc_ fn66 rfl (rqsub (qOf ((topQ s r))) ((topQ s r)) (qOf_q _) (Br.use (by omega)) (qOf ((lowQ s r))) ((lowQ s r)) (qOf_q _) (Br.use (by omega))) (kc_ fn64 rfl (rscale_w (fV (s.q.g.inp + r.idx.toNat)) (((topQ s r)) - ((lowQ s r))) (by omega) (by omega)) ?_)
              refine kc_ fn20 rfl (rsub7 (fSc (fSub p (fN (lowQ s r))) (topQ s r)) (fSc (fV (s.q.g.inp + r.idx.toNat)) (((topQ s r)) - ((lowQ s r)))) (by omega) (by omega) (by omega)) (dz 2 rfl ?_)
              refine ktw_ rfl (fun hb198=>?_) (fun hb198=>?_)
              ·refine dz 14 rfl (DK_nil (za 4 rfl (nf_ [4,6,7,10] [so 4 _,so 16 _,so 17 (D.bool false)] [none,none,_,none,none,none,none,none,none,hb_ 29 (afL (fSub (fSc (fSub p (fN (lowQ s r))) (topQ s r)) (fSc (fV (s.q.g.inp + r.idx.toNat)) (((topQ s r)) - ((lowQ s r)))))),none] rfl rfl rfl (zc 13 rfl ?_))))
               exact r2_ hq_ rfl (by rw [unitM_f h1 hp0 (by unfold unitF;rw [if_neg hk5,if_neg hk6,if_neg hk7,if_neg hk8,if_neg hk9,if_neg hk10,if_neg hk11,if_neg hk12,if_pos hk13];(try simp at hc212);simp [*])];exact fZ_ret _ _ rfl)
              ·refine dz 3 rfl ?_
               refine ktw_ rfl (fun hb201=>?_) (fun hb201=>?_)
               ·refine dz 11 rfl (DK_nil (za 4 rfl (nf_ [4,6,7,10] [so 4 _,so 16 _,so 17 (D.bool false)] [none,none,_,none,none,none,none,none,none,hb_ 29 (afL (fSub (fSc (fSub p (fN (lowQ s r))) (topQ s r)) (fSc (fV (s.q.g.inp + r.idx.toNat)) (((topQ s r)) - ((lowQ s r)))))),none] rfl rfl rfl (zc 13 rfl ?_))))
                exact r2_ hq_ rfl (by rw [unitM_f h1 hp0 (by unfold unitF;rw [if_neg hk5,if_neg hk6,if_neg hk7,if_neg hk8,if_neg hk9,if_neg hk10,if_neg hk11,if_neg hk12,if_pos hk13];(try simp at hc212);simp [*])];exact fZ_ret _ _ rfl)
               ·refine dz 1 rfl (kc_ fn37 rfl (rqsign (qOf ((lowQ s r))) ((lowQ s r)) (qOf_q _) (Br.use (by omega))) (dz 3 rfl ?_))
                refine ktw_ rfl (fun hb206=>?_) (fun hb206=>?_)
                ·refine dz 6 rfl (DK_nil (za 4 rfl (nf_ [4,6,7,10] [so 4 _,so 16 _,so 17 (D.bool false)] [none,none,_,none,none,none,none,none,none,hb_ 29 (afL (fSub (fSc (fSub p (fN (lowQ s r))) (topQ s r)) (fSc (fV (s.q.g.inp + r.idx.toNat)) (((topQ s r)) - ((lowQ s r)))))),none] rfl rfl rfl (zc 13 rfl ?_))))
                 exact r2_ hq_ rfl (by rw [unitM_f h1 hp0 (by unfold unitF;rw [if_neg hk5,if_neg hk6,if_neg hk7,if_neg hk8,if_neg hk9,if_neg hk10,if_neg hk11,if_neg hk12,if_pos hk13];(try simp at hc212);simp [*])];exact fZ_ret _ _ rfl)
                ·refine dz 1 rfl (kc_ fn37 rfl (rqsign (qOf ((topQ s r))) ((topQ s r)) (qOf_q _) (Br.use (by omega))) (dz 4 rfl (DK_nil (za 4 rfl ?_))))
                 refine nf_ [4,6,7,10] [so 4 _,so 16 _,so 17 (D.bool (decide (0 < (sg ((topQ s r))))))] [none,none,_,none,none,none,none,none,none,hb_ 29 (afL (fSub (fSc (fSub p (fN (lowQ s r))) (topQ s r)) (fSc (fV (s.q.g.inp + r.idx.toNat)) (((topQ s r)) - ((lowQ s r)))))),none] rfl rfl rfl (zc 5 rfl ?_)
                 refine Tc_cond rfl (fun hc212=>?_) (fun hc212=>?_)
                 ·refine zc 7 rfl ?_
                  exact r2_ hq_ rfl (by rw [unitM_f h1 hp0 (by unfold unitF;rw [if_neg hk5,if_neg hk6,if_neg hk7,if_neg hk8,if_neg hk9,if_neg hk10,if_neg hk11,if_neg hk12,if_pos hk13];(try simp at hc212);simp [*])];exact fZ_ret _ _ rfl)
                 ·refine zc 9 rfl ?_
                  exact r2_ hq_ rfl (by rw [unitM_t h1 hp0 (show unitF s r p = (fSub (fSc (fSub p (fN (lowQ s r))) (topQ s r)) (fSc (fV (s.q.g.inp + r.idx.toNat)) (topQ s r - lowQ s r)),true) from by unfold unitF;rw [if_neg hk5,if_neg hk6,if_neg hk7,if_neg hk8,if_neg hk9,if_neg hk10,if_neg hk11,if_neg hk12,if_pos hk13];(try simp at hc212);simp [*])] <;> rfl)
             ·refine tq_ rfl (eqF rfl) (zl 9 rfl (nf_ [4,5,6,7] [so 4 _,so 16 _,so 17 _] [none,none,_,none,none,none,none,none,none,_] rfl rfl rfl (zc 13 rfl ?_)))
              exact r2_ hq_ rfl (by rw [unitM_f h1 hp0 (by unfold unitF;rw [if_neg hk5,if_neg hk6,if_neg hk7,if_neg hk8,if_neg hk9,if_neg hk10,if_neg hk11,if_neg hk12,if_neg hk13])];exact fZ_ret _ _ rfl)
end Go.Proofs.YtmpkandbccallaaGreatDoor
set_option linter.unusedSimpArgs false
set_option linter.unusedVariables false
namespace Go.Proofs.YtmpkandbccallaaGreatDoor
open Go Go.RowKit Rc
set_option maxRecDepth 10000 in
set_option maxHeartbeats 2000000 in
theorem form_r (s:Sc) {B:Nat} (hB:∀ m∈s.lems,Fq m.v B) (hB2:B≤1000000000) (hl:s.lems.length≤1000000) {b:Nat} (hq:QOk s.q) (hd:∀ d∈s.path,DOk b s.q d) (hb:b≤1000000) (hpl:s.path.length≤1000) (r:Rw):Ctr Tryz.prog 62 [scV s,rwV r] (R.tup [afV (formM s r).1,V.one (Leaf.val (.bool (formM s r).2))]):=by
 refine bd_ Tryz.func62 Tryz.ntmps62 rfl (fun w0 A0=>?_)
 have hg:=hq.g;have hr:=hq.r;have hlo:=hr.lo;have hhi:=hr.hi
 have h1:=hg.i1;have h2:=hg.i3;have h3:=hg.u4;have h4:=hg.o1;have h5:=hg.o3
 refine zc 13 rfl (tc_ fn50 rfl (qvalid_r s.q hq) (zl 11 rfl ?_))
 by_cases h5:5≤r.kind
 ·refine tq_ rfl (geT rfl) (zl 7 rfl (tc_ fn122 rfl (unit_r s hB (by omega) (by omega) hq hd (by omega) (by omega) r) (zl 6 rfl ?_)))
  exact r2_ hq_ rfl (by unfold formM;rw [if_pos h5] <;> rfl)
 ·refine tq_ rfl (geF rfl) (zl 10 rfl ?_)
  by_cases ha:r.lo≠0
  ·refine tq_ rfl (neT rfl) (zl 14 rfl ?_)
   have h0:r.lo≠0 ∨ r.hi≠0 ∨ r.idx < 0:=.inl ha
   refine zc 6 rfl ?_
   exact r2_ hq_ rfl (by unfold formM;rw [if_neg h5,if_pos h0];exact fZ_ret _ _ rfl)
  ·refine tq_ rfl (neF rfl) (zl 3 rfl ?_)
   by_cases hb_:r.hi≠0
   ·refine tq_ rfl (neT rfl) (zl 10 rfl ?_)
    have h0:r.lo≠0 ∨ r.hi≠0 ∨ r.idx < 0:=.inr (.inl hb_)
    refine zc 6 rfl ?_
    exact r2_ hq_ rfl (by unfold formM;rw [if_neg h5,if_pos h0];exact fZ_ret _ _ rfl)
   ·refine tq_ rfl (neF rfl) (zl 4 rfl ?_)
    by_cases hc_:r.idx < 0
    ·refine tq_ rfl (ltT rfl) (zl 5 rfl ?_)
     have h0:r.lo≠0 ∨ r.hi≠0 ∨ r.idx < 0:=.inr (.inr hc_)
     refine zc 6 rfl ?_
     exact r2_ hq_ rfl (by unfold formM;rw [if_neg h5,if_pos h0];exact fZ_ret _ _ rfl)
    ·refine tq_ rfl (ltF rfl) (zl 7 rfl ?_)
     have h0:¬ (r.lo≠0 ∨ r.hi≠0 ∨ r.idx < 0):=by omega
     refine zc 18 rfl ?_
     by_cases hk1:r.kind = 1
     ·refine tq_ rfl (eqT rfl) (zl 10 rfl (tq_ rfl (jln rfl) ?_))
      by_cases hin:r.idx.toNat < s.q.r.lo.length
      ·refine tq_ rfl (ltT rfl) (zl 4 rfl ?_)
       obtain ⟨c,hc⟩:∃ c,s.q.r.lo[r.idx.toNat]? = some c:=⟨_,List.getElem?_eq_getElem (by omega)⟩
       obtain ⟨c2,hc2⟩:∃ c,s.q.r.hi[r.idx.toNat]? = some c:=⟨_,List.getElem?_eq_getElem (by omega)⟩
       have hcb:=hr.bd _ _ _ hc hc2
       have hv:FL 2 (s.q.g.inp + s.q.g.us.length) (fV r.idx.toNat):=FL.v (by omega)
       have hn:FL 8 (s.q.g.inp + s.q.g.us.length) (fN c):=FL.n (hcb.1.br.mono (by omega))
       haveI:=hv.fm (by omega);haveI:=hv.cb
       haveI:=hn.fm (by omega);haveI:=hn.cb
       refine dr_ 0 [(11,2)] [2] (dz 2 rfl (keq_ (D.val (.int .i64 ((r.idx.toNat:Nat):Int))) rfl (by rw [Int.toNat_of_nonneg (by omega)]) (kc_ fn121 rfl (rvar r.idx.toNat (by omega)) (dz 4 rfl (kq_ rfl (jix r.idx.toNat hc rfl (by omega)) (kq_ rfl (jlr rfl) (kc_ fn21 rfl (rnumber c) (kc_ fn20 rfl (rsub7 (fV r.idx.toNat) (fN c) (by omega) (by omega) (by omega)) (dz 2 rfl ?_)))))))))
       refine DK_nil (za 1 rfl ?_)
       exact r2_ hq_ rfl (by unfold formM;rw [if_neg h5,if_neg h0,if_pos hk1,hc] <;> rfl)
      ·refine tq_ rfl (ltF rfl) (zl 13 rfl ?_)
       exact r2_ hq_ rfl (by unfold formM;rw [if_neg h5,if_neg h0,if_pos hk1,List.getElem?_eq_none (by omega)];exact fZ_ret _ _ rfl)
     ·refine tq_ rfl (eqF rfl) (zl 6 rfl ?_)
      by_cases hk2:r.kind = 2
      ·refine tq_ rfl (eqT rfl) (zl 10 rfl (tq_ rfl (jln rfl) ?_))
       by_cases hin:r.idx.toNat < s.q.r.hi.length
       ·refine tq_ rfl (ltT rfl) (zl 4 rfl ?_)
        obtain ⟨c,hc⟩:∃ c,s.q.r.hi[r.idx.toNat]? = some c:=⟨_,List.getElem?_eq_getElem (by omega)⟩
        obtain ⟨c2,hc2⟩:∃ c,s.q.r.lo[r.idx.toNat]? = some c:=⟨_,List.getElem?_eq_getElem (by omega)⟩
        have hcb:=hr.bd _ _ _ hc2 hc
        have hv:FL 2 (s.q.g.inp + s.q.g.us.length) (fV r.idx.toNat):=FL.v (by omega)
        have hn:FL 8 (s.q.g.inp + s.q.g.us.length) (fN c):=FL.n (hcb.2.1.br.mono (by omega))
        haveI:=hv.fm (by omega);haveI:=hv.cb
        haveI:=hn.fm (by omega);haveI:=hn.cb
        refine dr_ 0 [(11,2)] [2] (dz 4 rfl (kq_ rfl (jix r.idx.toNat hc rfl (by omega)) (kq_ rfl (jlr rfl) (kc_ fn21 rfl (rnumber c) (dz 2 rfl (keq_ (D.val (.int .i64 ((r.idx.toNat:Nat):Int))) rfl (by rw [Int.toNat_of_nonneg (by omega)]) (kc_ fn121 rfl (rvar r.idx.toNat (by omega)) (kc_ fn20 rfl (rsub7 (fN c) (fV r.idx.toNat) (by omega) (by omega) (by omega)) (dz 2 rfl ?_)))))))))
        refine DK_nil (za 1 rfl ?_)
        exact r2_ hq_ rfl (by unfold formM;rw [if_neg h5,if_neg h0,if_neg hk1,if_pos hk2,hc] <;> rfl)
       ·refine tq_ rfl (ltF rfl) (zl 13 rfl ?_)
        exact r2_ hq_ rfl (by unfold formM;rw [if_neg h5,if_neg h0,if_neg hk1,if_pos hk2,List.getElem?_eq_none (by omega)];exact fZ_ret _ _ rfl)
      ·refine tq_ rfl (eqF rfl) (zl 6 rfl ?_)
       by_cases hk3:r.kind = 3
       ·refine tq_ rfl (eqT rfl) (zl 10 rfl (tq_ rfl (jln rfl) ?_))
        by_cases hin:r.idx.toNat < s.q.r.rows.length
        ·refine tq_ rfl (ltT rfl) (zl 4 rfl ?_)
         obtain ⟨f,hf⟩:∃ f,s.q.r.rows[r.idx.toNat]? = some f:=⟨_,List.getElem?_eq_getElem (by omega)⟩
         refine zc 5 rfl (tq_ rfl (jix r.idx.toNat hf rfl (by omega)) (tq_ rfl (jlr rfl) (zl 4 rfl ?_)))
         exact r2_ hq_ rfl (by unfold formM;rw [if_neg h5,if_neg h0,if_neg hk1,if_neg hk2,if_pos hk3,hf] <;> rfl)
        ·refine tq_ rfl (ltF rfl) (zl 13 rfl ?_)
         exact r2_ hq_ rfl (by unfold formM;rw [if_neg h5,if_neg h0,if_neg hk1,if_neg hk2,if_pos hk3,List.getElem?_eq_none (by omega)];exact fZ_ret _ _ rfl)
       ·refine tq_ rfl (eqF rfl) (zl 6 rfl ?_)
        by_cases hk4:r.kind = 4
        ·refine tq_ rfl (eqT rfl) (zl 6 rfl (dr_ 0 [] [] (dz 4 rfl (kq_ rfl (jln rfl) ?_))))
         by_cases hin:s.path.length≤r.idx.toNat
         ·refine kq_ rfl (geT rfl) (dz 12 rfl (DK_nil (za 9 rfl ?_)))
          exact r2_ hq_ rfl (by unfold formM;rw [if_neg h5,if_neg h0,if_neg hk1,if_neg hk2,if_neg hk3,if_pos hk4,List.getElem?_eq_none (by omega)];exact fZ_ret _ _ rfl)
         ·refine kq_ rfl (geF rfl) (dz 1 rfl ?_)
          obtain ⟨d,hdd⟩:∃ d,s.path[r.idx.toNat]? = some d:=⟨_,List.getElem?_eq_getElem (by omega)⟩
          have hdo:=hd d (List.mem_of_getElem? hdd)
          have hdk:d.kind = 1 ∨ d.kind = 2 ∨ d.kind = 3 ∨ d.kind = 4:=by rcases hdo.1 with ⟨h,_⟩ | ⟨h,_⟩ <;> omega
          have hdi:d.idx < (s.q.g.inp + s.q.g.us.length):=by rcases hdo.1 with ⟨_,h,_⟩ | ⟨_,h⟩ <;> omega
          have hv:FL 2 (s.q.g.inp + s.q.g.us.length) (fV d.idx):=FL.v hdi
          have hn:FL (b + 1) (s.q.g.inp + s.q.g.us.length) (fN d.pt):=FL.n hdo.2.br
          have hs:=hv.sub hn
          haveI:=hv.fm (by omega);haveI:=hv.cb
          haveI:=hn.fm (by omega);haveI:=hn.cb
          haveI:=hs.fm (by omega);haveI:=hs.cb
          refine dz 6 rfl (kq_ rfl (jix r.idx.toNat hdd rfl (by omega)) (kq_ rfl (jlr rfl) (kc_ fn74 rfl (fits_r s.q d (by assumption) (by omega)) (dz 2 rfl (DK_nil (za 10 rfl (tq_ rfl (jix r.idx.toNat hdd rfl (by omega)) (tq_ rfl (jlr rfl) (zl 5 rfl ?_)))))))))
          refine dr_ 1 [(7,5),(8,5)] [5] (dz 2 rfl (kc_ fn121 rfl (rvar d.idx (by omega)) (dz 2 rfl (kc_ fn21 rfl (rnumber d.pt) (kc_ fn20 rfl (rsub7 (fV d.idx) (fN d.pt) (by omega) (by omega) (by omega)) (dz 2 rfl (DK_nil (za 6 rfl ?_))))))))
          by_cases hk:d.kind = 3
          ·refine tq_ rfl (eqT rfl) (zl 10 rfl ?_)
           exact r2_ hq_ rfl (by unfold formM;rw [if_neg h5,if_neg h0,if_neg hk1,if_neg hk2,if_neg hk3,if_pos hk4,hdd];show _ = R.tup [afV (if 3≤d.kind then (pathF d,true) else (fZ,false)).1,V.one (Leaf.val (.bool (if 3≤d.kind then (pathF d,true) else (fZ,false)).2))];rw [if_pos (by omega)];show _ = R.tup [afV (pathF d),V.one (Leaf.val (.bool true))];unfold pathF;rw [if_pos hk] <;> rfl)
          ·refine tq_ rfl (eqF rfl) (zl 9 rfl ?_)
           by_cases hk_:d.kind = 4
           ·refine tq_ rfl (eqT rfl) (zl 4 rfl (dr_ 0 [(3,2)] [2] (dz 1 rfl (kc_ fn36 rfl (rqof (-1) (by decide) (by decide)) (kc_ fn64 rfl (rscale_w (fSub (fV d.idx) (fN d.pt)) (((-1):Int):Rat) (by omega) (by omega)) (dz 2 rfl (DK_nil (za 1 rfl ?_))))))))
            exact r2_ hq_ rfl (by unfold formM;rw [if_neg h5,if_neg h0,if_neg hk1,if_neg hk2,if_neg hk3,if_pos hk4,hdd];show _ = R.tup [afV (if 3≤d.kind then (pathF d,true) else (fZ,false)).1,V.one (Leaf.val (.bool (if 3≤d.kind then (pathF d,true) else (fZ,false)).2))];rw [if_pos (by omega)];show _ = R.tup [afV (pathF d),V.one (Leaf.val (.bool true))];unfold pathF;rw [if_neg hk] <;> rfl)
           ·refine tq_ rfl (eqF rfl) (zl 13 rfl ?_)
            exact r2_ hq_ rfl (by unfold formM;rw [if_neg h5,if_neg h0,if_neg hk1,if_neg hk2,if_neg hk3,if_pos hk4,hdd];show _ = R.tup [afV (if 3≤d.kind then (pathF d,true) else (fZ,false)).1,V.one (Leaf.val (.bool (if 3≤d.kind then (pathF d,true) else (fZ,false)).2))];rw [if_neg (by omega)];exact fZ_ret _ _ rfl)
        ·refine tq_ rfl (eqF rfl) (zl 14 rfl ?_)
         exact r2_ hq_ rfl (by unfold formM;rw [if_neg h5,if_neg h0,if_neg hk1,if_neg hk2,if_neg hk3,if_neg hk4];exact fZ_ret _ _ rfl)
end Go.Proofs.YtmpkandbccallaaGreatDoor
set_option linter.unusedSimpArgs false
set_option linter.unusedVariables false
namespace Rc
open Go Go.RowKit
theorem fZ_ls:[tmE.row fZ.ts,Leaf.val (.bool (cneg fZ.c)),natL (limbs (cnum fZ.c)),natL (limbs (cden fZ.c))] = [nilL,Leaf.val (.bool false),nilL,nilL]:=by
 show [tmE.row [],Leaf.val (.bool (cneg 0)),natL (limbs (cnum 0)),natL (limbs (cden 0))] = _
 rw [cnum_zero,cden_zero,limbs_zero];rfl
theorem dq_can {x:Qr} (h:x = qOf x.q):D.agg [Leaf.val (.bool x.neg),natL x.n,natL x.d] = D.agg (qL x.q):=by
 rw [h,qOf_q];rfl
theorem cneg_nonneg {q:Rat} (h:0≤q):cneg q = false:=by unfold cneg;exact decide_eq_false (Int.not_lt.2 (Rat.num_nonneg.2 h))
theorem abs_ls (q:Rat):D.agg [Leaf.val (.bool false),natL (limbs (cnum q)),natL (limbs (cden q))] = D.agg (qL (rq false (cnum q) (cden q))):=by
 have h0:=abs_nonneg q
 rw [abs_eq] at h0 ⊢
 split
 ·rename_i h
  rw [if_pos h] at h0
  unfold qL
  rw [cnum_neg,cden_neg,cneg_nonneg h0]
 ·rename_i h
  rw [if_neg h] at h0
  unfold qL
  rw [cneg_nonneg h0]
theorem toNat_cast (n:Nat):((n:Nat):Int).toNat = n:=rfl
section
variable {s:Sc}
theorem form_lo {v:Nat} {c:Rat} (h:s.q.r.lo[v]? = some c):formM s ⟨1,(v:Int),0,0⟩ = (fSub (fV v) (fN c),true):=by
 unfold formM
 rw [if_neg (by show ¬ (5:Int)≤1;decide),if_neg (by show ¬ ((0:Int)≠0 ∨ (0:Int)≠0 ∨ ((v:Nat):Int) < 0);omega),if_pos rfl]
 simp only [toNat_cast,h]
theorem form_hi {v:Nat} {c:Rat} (h:s.q.r.hi[v]? = some c):formM s ⟨2,(v:Int),0,0⟩ = (fSub (fN c) (fV v),true):=by
 unfold formM
 rw [if_neg (by show ¬ (5:Int)≤2;decide),if_neg (by show ¬ ((0:Int)≠0 ∨ (0:Int)≠0 ∨ ((v:Nat):Int) < 0);omega),if_neg (by show ¬ (2:Int) = 1;decide),if_pos rfl]
 simp only [toNat_cast,h]
theorem form_unit {k lo hi:Int} {j:Nat} {p f:Af} (hk:5≤k) (hp:s.q.g.us[j]? = some p) (h:unitF s ⟨k,(j:Int),lo,hi⟩ p = (f,true)):formM s ⟨k,(j:Int),lo,hi⟩ = (f,true):=by
 unfold formM
 rw [if_pos hk]
 exact unitM_t (by show ¬ ((j:Nat):Int) < 0;omega) hp h
theorem form_zero {j:Nat} {p:Af} (hp:s.q.g.us[j]? = some p):formM s ⟨5,(j:Int),0,0⟩ = (fV (s.q.g.inp + j),true):=
 form_unit (by decide) hp (by unfold unitF;rw [if_pos rfl];rfl)
theorem form_above {j:Nat} {p:Af} (hp:s.q.g.us[j]? = some p):formM s ⟨6,(j:Int),0,0⟩ = (fSub (fV (s.q.g.inp + j)) p,true):=
 form_unit (by decide) hp (by unfold unitF;rw [if_neg (by simp),if_pos rfl];rfl)
theorem lem_at {j n:Nat} {up:Bool} {m:Lm} (hn:0 < n) (hm:s.lems[n - 1]? = some m) (hu:m.unit = (j:Int)) (hup:m.up = up):lem s.lems (n:Int) (j:Int) up = (m.v.q,true):=
 lem_yes (by omega) (by rw [show (((n:Nat):Int) - 1).toNat = n - 1 by omega];exact hm) ⟨hu,hup⟩
theorem form_on {j n:Nat} {p:Af} {m:Lm} (hp:s.q.g.us[j]? = some p) (hn:0 < n) (hm:s.lems[n - 1]? = some m) (hu:m.unit = (j:Int)) (hup:m.up = false) (hv:0≤m.v.q) :
  formM s ⟨8,(j:Int),(n:Int),0⟩ = (fSub p (fV (s.q.g.inp + j)),true):=
 form_unit (by decide) hp (by
  unfold unitF
  rw [if_neg (by simp),if_neg (by simp),if_neg (by simp),if_pos rfl]
  unfold onB lowB lowQ
  simp only [lem_at hn hm hu hup,sg_ge.2 hv]
  simp)
theorem form_off {j n:Nat} {p:Af} {m:Lm} (hp:s.q.g.us[j]? = some p) (hn:0 < n) (hm:s.lems[n - 1]? = some m) (hu:m.unit = (j:Int)) (hup:m.up = true) (hv:m.v.q≤0) :
  formM s ⟨10,(j:Int),0,(n:Int)⟩ = (fSc (fV (s.q.g.inp + j)) ((-1:Int):Rat),true):=
 form_unit (by decide) hp (by
  unfold unitF
  rw [if_neg (by simp),if_neg (by simp),if_neg (by simp),if_neg (by simp),if_neg (by simp),if_pos rfl]
  unfold offB topB topQ
  simp only [lem_at hn hm hu hup,sg_le.2 hv]
  simp)
theorem form_up {j n:Nat} {p:Af} {m:Lm} (hp:s.q.g.us[j]? = some p) (hn:0 < n) (hm:s.lems[n - 1]? = some m) (hu:m.unit = (j:Int)) (hup:m.up = true) :
  formM s ⟨12,(j:Int),0,(n:Int)⟩ = (fSub (fN m.v.q) p,true):=
 form_unit (by decide) hp (by
  unfold unitF
  rw [if_neg (by simp),if_neg (by simp),if_neg (by simp),if_neg (by simp),if_neg (by simp),if_neg (by simp),if_neg (by simp),if_pos rfl]
  unfold topB topQ
  simp only [lem_at hn hm hu hup]
  simp)
theorem form_tri {j n n':Nat} {p:Af} {m m':Lm} (hp:s.q.g.us[j]? = some p) (hn:0 < n) (hm:s.lems[n - 1]? = some m) (hu:m.unit = (j:Int)) (hup:m.up = false)
  (hn':0 < n') (hm':s.lems[n' - 1]? = some m') (hu':m'.unit = (j:Int)) (hup':m'.up = true) (hv:m.v.q < 0) (hv':0 < m'.v.q) :
  formM s ⟨13,(j:Int),(n:Int),(n':Int)⟩ = (fSub (fSc (fSub p (fN m.v.q)) m'.v.q) (fSc (fV (s.q.g.inp + j)) (m'.v.q - m.v.q)),true):=
 form_unit (by decide) hp (by
  unfold unitF
  rw [if_neg (by simp),if_neg (by simp),if_neg (by simp),if_neg (by simp),if_neg (by simp),if_neg (by simp),if_neg (by simp),if_neg (by simp),if_pos rfl]
  unfold lowB lowQ topB topQ
  simp only [lem_at hn hm hu hup,lem_at hn' hm' hu' hup',sg_lt.2 hv,sg_gt.2 hv']
  simp)
structure StepOk (s:Sc) (B:Nat) (l:List Mu):Prop where
 ok:∀ m∈l,(formM s m.r).2 = true
 pos:∀ m∈l,0 < m.c.q
 bd:MB B l
 len:l.length≤2
theorem one_step {r:Rw} {B:Nat} (h:(formM s r).2 = true):StepOk s (2 * B + 12) [⟨r,qOf ((1:Int):Rat)⟩]:=
 ⟨fun m hm=>by simp at hm;subst hm;exact h,fun m hm=>by simp at hm;subst hm;rw [qOf_q];decide,fun m hm=>by rw [List.mem_singleton] at hm;subst hm;exact Fq.of.mono (by omega),by simp⟩
theorem atLeast_ok {v B:Nat} (hq:QOk s.q) (hv:v < s.q.g.inp + s.q.g.us.length):StepOk s (2 * B + 12) (atLeast s.q.g.inp v):=by
 unfold atLeast
 split
 ·rename_i h
  have:=hq.r.lo
  obtain ⟨c,hc⟩:∃ c,s.q.r.lo[v]? = some c:=⟨_,List.getElem?_eq_getElem (by omega)⟩
  exact one_step (by rw [form_lo hc])
 ·obtain ⟨p,hp⟩:∃ p,s.q.g.us[v - s.q.g.inp]? = some p:=⟨_,List.getElem?_eq_getElem (by omega)⟩
  exact one_step (by rw [form_zero hp])
theorem atMost_ok {v B:Nat} {l:List Mu} (hq:QOk s.q) (hB:∀ m∈s.lems,Fq m.v B) (hv:v < s.q.g.inp + s.q.g.us.length) (h:atMost s.q.g.inp s.lems v = some l):StepOk s (4 * B + 12) l:=by
 have one:∀ {r:Rw},(formM s r).2 = true→StepOk s (4 * B + 12) [⟨r,qOf ((1:Int):Rat)⟩]:=fun h=>
  ⟨(one_step (B:=B) h).ok,(one_step (B:=B) h).pos,(one_step (B:=B) h).bd.mono (by omega),by simp⟩
 unfold atMost at h
 split at h
 ·rename_i hi
  cases h
  have:=hq.r.hi
  obtain ⟨c,hc⟩:∃ c,s.q.r.hi[v]? = some c:=⟨_,List.getElem?_eq_getElem (by omega)⟩
  exact one (by rw [form_hi hc])
 ·obtain ⟨p,hp⟩:∃ p,s.q.g.us[v - s.q.g.inp]? = some p:=⟨_,List.getElem?_eq_getElem (by omega)⟩
  split at h
  ·cases h
  ·rename_i hb
   obtain ⟨y,hy,yu,yp,hly,hy0,hyl⟩:=best_lo (fun e=>hb (.inl e))
   obtain ⟨z,hz,zu,zp,hlz,hz0,hzl⟩:=best_hi (fun e=>hb (.inr e))
   haveI:=hB y (List.mem_of_getElem? hy)
   haveI:=hB z (List.mem_of_getElem? hz)
   rw [hlz,hly] at h
   split at h
   ·rename_i hu
    cases h
    exact one (by rw [form_off hp hz0 hz zu zp hu])
   ·rename_i hu
    split at h
    ·rename_i hl
     cases h
     refine ⟨fun m hm=>?_,fun m hm=>?_,fun m hm=>?_,by simp⟩
     ·simp at hm
      rcases hm with rfl | rfl
      ·rw [form_on hp hy0 hy yu yp hl]
      ·rw [form_up hp hz0 hz zu zp]
     ·simp at hm
      rcases hm with rfl | rfl <;> rw [qOf_q] <;> decide
     ·simp only [List.mem_cons,List.not_mem_nil,or_false] at hm
      rcases hm with rfl | rfl <;> exact Fq.of.mono (by omega)
    ·rename_i hl
     cases h
     have h1:0 < z.v.q:=by grind
     have h2:0 < z.v.q - y.v.q:=by grind
     have h3:0 < ((1:Int):Rat) / (z.v.q - y.v.q):=by
      rw [Rat.div_def]
      exact Rat.mul_pos (by decide) (Rat.inv_pos.2 h2)
     refine ⟨fun m hm=>?_,fun m hm=>?_,fun m hm=>?_,by simp⟩
     ·simp at hm
      rcases hm with rfl | rfl
      ·rw [form_up hp hz0 hz zu zp]
      ·rw [form_tri hp hy0 hy yu yp hz0 hz zu zp (by grind) h1]
     ·simp only [List.mem_cons,List.not_mem_nil,or_false] at hm
      rcases hm with rfl | rfl
      ·show 0 < (qOf _).q
       rw [qOf_q];exact Rat.mul_pos h3 h1
      ·show 0 < (qOf _).q
       rw [qOf_q];exact h3
     ·simp only [List.mem_cons,List.not_mem_nil,or_false] at hm
      rcases hm with rfl | rfl <;> exact Fq.of.mono (by omega)
theorem plusM_mem {l:List Mu} {r:Rw} {c:Rat} {x:Mu} (h:x∈plusM l r c):x.r = r ∨ x∈l:=by
 unfold plusM at h
 split at h
 ·exact .inr h
 ·exact insM_mem h
theorem mergeM_ok {c:Rat} {P:Rw→Prop}:∀ {b a:List Mu},(∀ m∈a,P m.r)→(∀ m∈b,P m.r)→∀ m∈mergeM a b c,P m.r
 | [],a,h,_=>h
 | x :: b,a,h,hb=>mergeM_ok (b:=b) (a:=plusM a x.r (x.c.q * c)) (fun m hm=>by
   rcases plusM_mem hm with e | hm
   ·rw [e];exact hb x (by simp)
   ·exact h m hm) (fun m hm=>hb m (by simp [hm]))
structure DerOk (s:Sc) (B n:Nat) (l:List Mu):Prop where
 ok:∀ m∈l,(formM s m.r).2 = true
 can:CanM l
 bd:MB B l
 len:l.length≤n
theorem abst_ok {B C n:Nat} {a:List Mu × Bool} {t:Tm} (hq:QOk s.q) (hB:∀ m∈s.lems,Fq m.v B) (hv:t.1 < s.q.g.inp + s.q.g.us.length) (ht:Br t.2 10) (h:DerOk s C n a.1) :
  DerOk s (C + 8 * B + 50) (n + 2) (abst s.q.g.inp s.lems a t).1:=by
 have mg:∀ {l:List Mu},StepOk s (4 * B + 12) l→DerOk s (C + 8 * B + 50) (n + 2) (mergeM a.1 l (rq false (cnum t.2) (cden t.2))):=fun {l} hs=>
  ⟨mergeM_ok (P:=fun r=>(formM s r).2 = true) h.ok hs.ok,mergeM_can (abs_nonneg _) h.can hs.pos,(mergeM_bd h.bd hs.bd).mono (by
   have:=Nat.mul_le_mul_right (4 * B + 12 + (10 + 1) + 2) hs.len
   omega),by have:=mergeM_len l a.1 (rq false (cnum t.2) (cden t.2));have:=h.len;have:=hs.len;omega⟩
 unfold abst
 split
 ·split
  ·have h2:=atLeast_ok (B:=2 * B) hq hv
   exact mg ⟨h2.ok,h2.pos,h2.bd.mono (by omega),h2.len⟩
  ·split
   ·rename_i l hl
    exact mg (atMost_ok hq hB hv hl)
   ·exact ⟨fun m hm=>by simp at hm,trivial,fun m hm=>by simp at hm,by simp⟩
 ·exact ⟨h.ok,h.can,h.bd.mono (by omega),Nat.le_trans h.len (by omega)⟩
theorem absn_ok {B:Nat} (hq:QOk s.q) (hB:∀ m∈s.lems,Fq m.v B):∀ (ts:List Tm) (a:List Mu × Bool) (C n:Nat),(∀ t∈ts,t.1 < s.q.g.inp + s.q.g.us.length∧Br t.2 10)→DerOk s C n a.1 →
  DerOk s (C + ts.length * (8 * B + 50)) (n + 2 * ts.length) (ts.foldl (abst s.q.g.inp s.lems) a).1
 | [],a,C,n,_,h=>⟨h.ok,h.can,h.bd.mono (by omega),Nat.le_trans h.len (by omega)⟩
 | t :: ts,a,C,n,ht,h=>by
  have h1:=abst_ok (t:=t) hq hB (ht t (by simp)).1 (ht t (by simp)).2 h
  have h2:=absn_ok hq hB ts _ _ _ (fun x hx=>ht x (by simp [hx])) h1
  refine ⟨h2.ok,h2.can,h2.bd.mono ?_,Nat.le_trans h2.len ?_⟩
  ·simp only [List.length_cons,Nat.add_mul];omega
  ·simp only [List.length_cons];omega
theorem der_nil:DerOk s 0 0 []:=⟨fun m hm=>by simp at hm,trivial,fun m hm=>by simp at hm,by simp⟩
theorem abs_ok {B b:Nat} {f:Af} (hq:QOk s.q) (hB:∀ m∈s.lems,Fq m.v B) (hf:FOk b (s.q.g.inp + s.q.g.us.length) f) (hb:b≤9) (i:Nat):DerOk s (7 * (8 * B + 50)) 14 (absn s.q.g.inp s.lems (f.ts.take i)).1:=by
 have h:=absn_ok hq hB (f.ts.take i) ([],true) 0 0 (fun t ht=>⟨hf.var t (List.mem_of_mem_take ht),(hf.bd t (List.mem_of_mem_take ht)).br.mono (by omega)⟩) der_nil
 have hl:(f.ts.take i).length≤7:=by rw [List.length_take];have:=hf.len;have:=hq.g.i3;have:=hq.g.u4;omega
 refine ⟨h.ok,h.can,h.bd.mono ?_,Nat.le_trans h.len (by omega)⟩
 have:=Nat.mul_le_mul_right (8 * B + 50) hl
 omega
end
def abL (s:Sc) (f:Af):List Mu:=(absn s.q.g.inp s.lems f.ts).1
def abB (s:Sc) (f:Af):Bool:=(absn s.q.g.inp s.lems f.ts).2
def abQ (s:Sc) (f:Af):Rat:=if abB s f = true then (fSub f (sumM s (abL s f))).c else 0
theorem absn_f {inp:Nat} {lems:List Lm}:∀ (ts:List Tm) (a:List Mu × Bool),(a.2 = false→a.1 = [])→(ts.foldl (abst inp lems) a).2 = false→(ts.foldl (abst inp lems) a).1 = []
 | [],a,h,h2=>h h2
 | t :: ts,a,h,h2=>absn_f ts _ (fun h3=>by
   unfold abst at h3 ⊢
   split at h3
   ·rename_i ha
    rw [if_pos ha]
    split at h3
    ·simp at h3
    ·rename_i hs
     rw [if_neg hs]
     split at h3
     ·simp at h3
     ·rename_i he;simp only [he]
   ·rename_i ha
    rw [if_neg ha];exact h h3) h2
theorem abL_f {s:Sc} {f:Af} (h:abB s f = false):abL s f = []:=absn_f _ _ (fun h=>by simp at h) h
theorem abB_bad {s:Sc} {f:Af} {i:Nat} (h:(absn s.q.g.inp s.lems (f.ts.take i)).2 = false):abB s f = false:=absn_bad h
section
variable {inp:Nat} {lems:List Lm} {out:List Mu} {t:Tm}
theorem abst_pos (h:0 < t.2):abst inp lems (out,true) t = (mergeM out (atLeast inp t.1) (rq false (cnum t.2) (cden t.2)),true):=by
 unfold abst;rw [if_pos rfl,if_pos h]
theorem abst_some (h:¬ 0 < t.2) (hl:(atMost inp lems t.1).isSome = true):abst inp lems (out,true) t = (mergeM out ((atMost inp lems t.1).getD []) (rq false (cnum t.2) (cden t.2)),true):=by
 obtain ⟨l,hl⟩:=Option.isSome_iff_exists.1 hl
 unfold abst;rw [if_pos rfl,if_neg h,hl];rfl
theorem abst_none (h:¬ 0 < t.2) (hl:(atMost inp lems t.1).isSome = false):(abst inp lems (out,true) t).2 = false:=by
 have hl:atMost inp lems t.1 = none:=by simpa using hl
 unfold abst;rw [if_pos rfl,if_neg h,hl]
end
theorem getD_ok {s:Sc} {B v:Nat} (hq:QOk s.q) (hB:∀ m∈s.lems,Fq m.v B) (hv:v < s.q.g.inp + s.q.g.us.length):MB (4 * B + 12) ((atMost s.q.g.inp s.lems v).getD [])∧((atMost s.q.g.inp s.lems v).getD []).length≤2:=by
 cases h:atMost s.q.g.inp s.lems v with
 | none=>exact ⟨fun m hm=>by simp at hm,by simp⟩
 | some l=>have:=atMost_ok hq hB hv h;exact ⟨this.bd,this.len⟩
end Rc
set_option linter.unusedSimpArgs false
set_option linter.unusedVariables false
namespace Go.Proofs.YtmpkandbccallaaGreatDoor
open Go Go.RowKit Rc
set_option maxRecDepth 10000 in
theorem canon_r (l:List Mu) {B:Nat} (hc:CanM l) (hB:MB B l) (hB2:B≤100000000000) (hl:l.length≤100000):Ctr Tryz.prog 61 [V.one (El.row muE l)] (R.one (V.one (Leaf.val (.bool true)))):=by
 refine bd_ Tryz.func61 Tryz.ntmps61 rfl (fun w0 A0=>?_)
 refine zc 12 rfl (lpR_ (fun m Γ H=>∃ (i:Nat),l.length - i = m∧Γ = [(0,some (D.v (V.one (El.row muE l)))),(3,some (D.val (.int .i64 ((i:Nat):Int))))]∧H = []∧i≤l.length) ⟨0,rfl,rfl,rfl,Nat.zero_le _⟩ rfl ?_)
 rintro m Γ H ⟨i,rfl,rfl,rfl,hi0⟩
 refine zc 5 rfl (tq_ rfl (jln rfl) ?_)
 by_cases hi:i < l.length
 ·refine tq_ rfl (ltT rfl) (zl 8 rfl ?_)
  obtain ⟨x,hx⟩:∃ x,l[i]? = some x:=⟨_,List.getElem?_eq_getElem hi⟩
  haveI hxB:=hB x (List.mem_of_getElem? hx)
  obtain ⟨hpos,hcx⟩:=hc.pos x (List.mem_of_getElem? hx)
  refine dr_ 0 [] [] (dz 2 rfl (kq_ rfl (jix i hx rfl) (kq_ rfl (jfr rfl) (kq_ rfl (jlr rfl) (kc_ fn110 rfl (rqvalid x.c (x.c.q) rfl (Fq.use (x:=x.c) (by omega))) (kis_ true rfl (isC_iff.2 hcx) (dz 4 rfl (kq_ rfl (jix i hx rfl) (kq_ rfl (jfr rfl) ?_)))))))))
  refine kq_ rfl (jlr rfl) (kc_ fn37 rfl (rqsign x.c (x.c.q) rfl (Fq.use (x:=x.c) (by omega))) (kq_ rfl (leF rfl (by have:=sg_gt.2 hpos;omega)) (dz 3 rfl ?_)))
  by_cases hi1:0 < i
  ·refine kq_ rfl (gtT rfl) (dz 1 rfl ?_)
   obtain ⟨y,hy⟩:∃ y,l[i - 1]? = some y:=⟨_,List.getElem?_eq_getElem (by omega)⟩
   refine dz 2 rfl (kq_ rfl (jsb (i - 1) rfl) (kq_ rfl (jix (i - 1) hy rfl) (kq_ rfl (jft rfl) (kq_ rfl (jlr rfl) (dz 2 rfl (kq_ rfl (jix i hx rfl) (kq_ rfl (jft rfl) (kq_ rfl (jlr rfl) (kc_ fn118 rfl (less_r y.r x.r) ?_)))))))))
   refine kis_ true rfl (hc.prev hi1 hx hy) (dz 3 rfl (DK_nil (za 7 rfl (tq_ rfl (jad (i + 1) rfl) (zl 2 rfl ?_)))))
   exact nx_ ⟨i + 1,rfl,rfl,rfl,hi⟩ rfl
  ·refine kq_ rfl (gtF rfl) (dz 16 rfl (DK_nil (za 7 rfl (tq_ rfl (jad (i + 1) rfl) (zl 2 rfl ?_)))))
   exact nx_ ⟨i + 1,rfl,rfl,rfl,hi⟩ rfl
 ·refine tq_ rfl (ltF rfl) (zl 13 rfl ?_)
  exact r1_ hq_ rfl rfl
set_option maxRecDepth 10000 in
set_option maxHeartbeats 2000000 in
theorem sum_r (s:Sc) {B:Nat} (hB:∀ m∈s.lems,Fq m.v B) (hB2:B≤10000000) (hl:s.lems.length≤1000000) {b:Nat} (hq:QOk s.q) (hd:∀ d∈s.path,DOk b s.q d) (hb:b≤1000000) (hpl:s.path.length≤1000) (l:List Mu) {C:Nat} (hc:CanM l) (hm:MB C l) (hC:C≤600000000) (hok:∀ m∈l,(formM s m.r).2 = true) (hll:l.length≤50):Ctr Tryz.prog 18 [scV s,V.one (El.row muE l)] (R.tup [afV (sumM s l),V.one (Leaf.val (.int .i64 0))]):=by
 refine bd_ Tryz.func18 Tryz.ntmps18 rfl (fun w0 A0=>?_)
 have hg:=hq.g;have hr:=hq.r;have hlo:=hr.lo;have hhi:=hr.hi
 have h1:=hg.i1;have h2:=hg.i3;have h3:=hg.u4;have h4:=hg.o1;have h5:=hg.o3
 refine zc 11 rfl (tc_ fn61 rfl (canon_r l (by assumption) (by assumption) (by omega) (by omega)) (zl 18 rfl ?_))
 refine lpR_ (fun m Γ H=>∃ (i:Nat) (out:Af),l.length - i = m∧Γ = [(1,some (D.v (V.one (El.row muE l)))),(2,some (D.ptr 0 0)),(4,some (D.ptr 1 0)),(6,some (D.ptr 2 0)),(7,some (D.val (.int .i64 ((i:Nat):Int))))]∧H = [hb_ 42 (scL s),hb_ 29 [El.row tmE ([]),Leaf.val (.bool false),natL ([]),natL ([])],hb_ 29 (afL out)]∧i≤l.length∧out = sumM s (l.take i)) ⟨0,fZ,rfl,rfl,(by unfold afL;rw [fZ_ls];rfl),Nat.zero_le _,rfl⟩ rfl ?_
 rintro m Γ H ⟨i,out,rfl,rfl,rfl,hi0,hout⟩
 refine zc 5 rfl (tq_ rfl (jln rfl) ?_)
 by_cases hi:i < l.length
 ·refine tq_ rfl (ltT rfl) (zl 8 rfl ?_)
  obtain ⟨x,hx⟩:∃ x,l[i]? = some x:=⟨_,List.getElem?_eq_getElem hi⟩
  have hxm:=List.mem_of_getElem? hx
  haveI hxB:=hm x hxm
  have hf:=formM_fl (r:=x.r) hq hd hB
  have hsc:=FL.sc (c:=x.c.q) hf
  have ho:FL (50 * (4 * B + b + C + 42)) (s.q.g.inp + s.q.g.us.length) out:=by
   rw [hout]
   refine (sumM_fl hq hd hB hm.take).mono ?_ (Nat.le_refl _)
   exact Nat.mul_le_mul_right _ (by rw [List.length_take];omega)
  haveI:=hf.fm (by omega);haveI:=hf.cb
  haveI:=hsc.fm (by omega);haveI:=hsc.cb
  haveI:=ho.fm (by omega);haveI:=ho.cb
  refine dr_ 1 [(10,3),(11,3)] [3] (dz 3 rfl (kq_ rfl (jix i hx rfl) (kq_ rfl (jft rfl) (kq_ rfl (jlr rfl) (kc_ fn62 rfl (form_r s hB (by omega) (by omega) hq hd (by omega) (by omega) x.r) (dz 3 rfl (kis_ true rfl (hok x hxm) (dz 3 rfl (DK_nil ?_)))))))))
  refine za 11 rfl (dr_ 0 [(9,2)] [2] (kp_ [] rfl (Jq_load_agg rfl rfl rfl (by decide) ty29 (by decide) (Nat.le_of_ble_eq_true rfl) rfl) (dz 3 rfl (kq_ rfl (jix i hx rfl) (kq_ rfl (jfr rfl) (kq_ rfl (jlr rfl) (keq_ (D.agg (qL x.c.q)) rfl (dq_can (hc.pos x hxm).2) (kc_ fn64 rfl (rscale_w (formM s x.r).1 x.c.q (by omega) (by omega)) ?_))))))))
  refine kc_ fn63 rfl (radd7_w out (fSc (formM s x.r).1 x.c.q) (by omega) (by omega) (by omega)) (dz 1 rfl (DK_nil (za 4 rfl (tq_ rfl (jad (i + 1) rfl) (zl 2 rfl (At_free 3 (trim_ 3 rfl ?_)))))))
  exact nx_ ⟨i + 1,_,rfl,rfl,rfl,hi,by rw [hout];exact (sumM_take hx).symm⟩ rfl
 ·refine tq_ rfl (ltF rfl) (zl 9 rfl ?_)
  have hie:i = l.length:=by omega
  rw [hie,List.take_length] at hout
  refine zc 6 rfl ?_
  exact r2_ hq_ rfl (by rw [← hout] <;> rfl)
end Go.Proofs.YtmpkandbccallaaGreatDoor
