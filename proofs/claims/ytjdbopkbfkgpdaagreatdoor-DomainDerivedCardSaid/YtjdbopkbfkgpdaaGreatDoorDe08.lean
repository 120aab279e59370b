/- Parts of the proof, 8: the texts WlI, Form, WlJ, WlK, WlL, Abv, WlM, WlN, Bnd, DyM, DyQ, DyR, Law5, as far as they are used. -/
import Derived.Test.YtjdbopkbfkgpdaaGreatDoorDe07
set_option linter.unusedSimpArgs false
set_option linter.unusedVariables false
namespace Go.Proofs.YtjdbopkbfkgpdaaGreatDoor
open Go Go.RowKit Rc
set_option maxRecDepth 10000 in
theorem merge_r (a b:List Mu) (c:Rat) {B C K:Nat} (hA:MB B a) (hB:MB C b) [Br c K] (hBC:B + b.length * (C + K + 2) + C + K≤200000000000) (hl:a.length≤10000) (hlb:b.length≤10000):Ctr Tryz.prog 119 [V.one (El.row muE a),V.one (El.row muE b),V.agg (qL (c))] (R.one (V.one (El.row muE (mergeM a b c)))):=by
 refine bd_ Tryz.func119 Tryz.ntmps119 rfl (fun w0 A0=>?_)
 refine zc 13 rfl (lpR_ (fun m Γ H=>∃ (i:Nat) (out:List Mu),b.length - i = m∧Γ = [(0,some (D.v (V.one (El.row muE out)))),(1,some (D.v (V.one (El.row muE b)))),(5,some (D.ptr 0 0)),(7,some (D.val (.int .i64 ((i:Nat):Int))))]∧H = [hb_ 34 (qL c)]∧i≤b.length∧out = mergeM a (b.take i) c) ⟨0,a,rfl,rfl,rfl,Nat.zero_le _,rfl⟩ rfl ?_)
 rintro m Γ H ⟨i,out,rfl,rfl,rfl,hi0,hout⟩
 refine zc 5 rfl (tq_ rfl (jln rfl) ?_)
 by_cases hi:i < b.length
 ·refine tq_ rfl (ltT rfl) (zl 7 rfl ?_)
  obtain ⟨x,hx⟩:∃ x,b[i]? = some x:=⟨_,List.getElem?_eq_getElem hi⟩
  haveI hxb:=hB x (List.mem_of_getElem? hx)
  have hol:out.length≤20000:=by rw [hout];refine Nat.le_trans (mergeM_len _ _ _) ?_;rw [List.length_take];omega
  have hMB:MB (B + b.length * (C + K + 2)) out:=by
   rw [hout]
   refine (mergeM_bd (c:=c) hA (fun m hm=>hB m (List.mem_of_mem_take hm))).mono ?_
   have:=Nat.mul_le_mul_right (C + K + 2) (show (b.take i).length≤b.length by rw [List.length_take];omega)
   omega
  refine dr_ 0 [] [] (dz 3 rfl (kq_ rfl (jix i hx rfl) (kq_ rfl (jft rfl) (kq_ rfl (jlr rfl) (dz 2 rfl (kq_ rfl (jix i hx rfl) (kq_ rfl (jfr rfl) (kq_ rfl (jlr rfl) (dz 1 rfl ?_)))))))))
  refine kc_ fn58 rfl (rqmul x.c (x.c.q) rfl (Fq.use (x:=x.c) (by omega)) (qOf (c)) (c) (qOf_q _) (Br.use (by omega))) (kc_ fn74 rfl (plus_r out x.r ((x.c.q) * (c)) (by assumption) (by omega) (by omega)) (dz 1 rfl (DK_nil (za 4 rfl (tq_ rfl (jad (i + 1) rfl) (zl 2 rfl ?_))))))
  exact nx_ ⟨i + 1,_,rfl,rfl,rfl,hi,by rw [hout,mergeM_take hx]⟩ rfl
 ·refine tq_ rfl (ltF rfl) (zl 14 rfl ?_)
  exact r1_ hq_ rfl (by rw [hout,show i = b.length by omega,List.take_length])
set_option maxRecDepth 10000 in
theorem rqdiv (x:Qr) (r:Rat) (hr:x.q = r) (hfx:Fit 1000000000000 x) (y:Qr) (s:Rat) (hs:y.q = s) (hfy:Fit 1000000000000 y) (hs0:s≠0):Ctr Tryz.prog 152 [qV x,qV y] (R.tup [qV (qOf (r / s)),V.one (Leaf.val (.int .i64 0))]):=by
 refine bd_ Tryz.func152 Tryz.ntmps152 rfl (fun w0 A0=>?_)
 haveI ixn:Bn (val x.n) 1000000000000:=Bn.val x.hn hfx.n
 haveI ixd:Bn (val x.d) 1000000000000:=Bn.val x.hd hfx.d
 haveI iyn:Bn (val y.n) 1000000000000:=Bn.val y.hn hfy.n
 haveI iyd:Bn (val y.d) 1000000000000:=Bn.val y.hd hfy.d
 have hyn:val y.n≠0:=fun e=>hs0 (by rw [← hs];unfold Qr.q;rw [rq_eq_zero];exact e)
 refine zc 12 rfl (tc_ fn63 rfl (rqsign y (s) hs (hfy.mono (by omega))) (tq_ rfl (eqF rfl (sg_ne hs0)) (zl 6 rfl (dr_ 0 [(18,2)] [2] (dz 4 rfl (kq_ rfl (Jq_neq_bool rfl rfl rfl un4 (d:=_) (rfl)) (dz 4 rfl (kc_ fn102 rfl ((rqone_w y.d y.hd (hfy.mono (by omega)).d (val y.d) rfl)) ?_))))))))
 refine kc_ fn101 rfl (rmul_w x.n (limbs (dn (val y.d))) x.hn (small_limbs _) (hfx.mono (by omega)).n (Bn.use (by omega)) (val x.n) (dn (val y.d)) rfl (val_limbs _)) (dz 2 rfl (kc_ fn102 rfl ((rqone_w x.d x.hd (hfx.mono (by omega)).d (val x.d) rfl)) (dz 2 rfl ?_)))
 refine kc_ fn101 rfl (rmul_w (limbs (dn (val x.d))) y.n (small_limbs _) y.hn (Bn.use (by omega)) (hfy.mono (by omega)).n (dn (val x.d)) (val y.n) (val_limbs _) rfl) ?_
 refine kc_ fn104 rfl (rqquot (x.neg != y.neg) (limbs ((val x.n) * (dn (val y.d)))) (limbs ((dn (val x.d)) * (val y.n))) (small_limbs _) (small_limbs _) (Bn.use (by omega)) (Bn.use (by omega)) ((val x.n) * (dn (val y.d))) ((dn (val x.d)) * (val y.n)) (val_limbs _) (val_limbs _) (Nat.mul_ne_zero (dn_ne _) hyn)) (dz 2 rfl (DK_nil (za 1 rfl ?_)))
 exact r2_ hq_ rfl (by subst hr;subst hs;rw [rq_quo _ _ _ _ _ _ hyn] <;> rfl)
set_option maxRecDepth 10000 in
theorem atleast_r (s:Sc) (hi3:s.q.g.inp≤1000) (v:Nat) (hv:v≤1000):Ctr Tryz.prog 118 [scV s,V.one (Leaf.val (.int .i64 ((v:Int))))] (R.one (V.one (El.row muE (atLeast s.q.g.inp v)))):=by
 refine bd_ Tryz.func118 Tryz.ntmps118 rfl (fun w0 A0=>?_)
 refine zc 14 rfl ?_
 by_cases h1:v < s.q.g.inp
 ·refine tq_ rfl (ltT rfl) (zl 7 rfl (tc_ fn33 rfl (rqof 1 (by decide) (by decide)) (zl 1 rfl (te_ rfl (Je_buildSlice rfl un62 ty107 tz107 rfl (by decide) (by decide) rfl (by decide) rfl) (zl 3 rfl ?_)))))
  exact r1_ hq_ rfl (by unfold atLeast;rw [if_pos h1] <;> rfl)
 ·refine tq_ rfl (ltF rfl) (zl 6 rfl (dr_ 0 [] [] (dz 5 rfl (kq_ rfl (jsb (v - s.q.g.inp) rfl) (dz 1 rfl (kc_ fn33 rfl (rqof 1 (by decide) (by decide)) (dz 1 rfl (ke_ rfl (fun _=>Je_buildSlice rfl un62 ty107 tz107 rfl (by decide) (by decide) rfl (by decide) rfl) (dz 1 rfl ?_)))))))))
  refine DK_nil (za 1 rfl ?_)
  exact r1_ hq_ rfl (by unfold atLeast;rw [if_neg h1] <;> rfl)
set_option maxRecDepth 10000 in
set_option maxHeartbeats 2000000 in
theorem atmost_r (s:Sc) {B:Nat} (hB:∀ m∈s.lems,Fq m.v B) (hB2:B≤100000000000) (hl:s.lems.length≤1000000) (hi3:s.q.g.inp≤1000) (v:Nat) (hv:v≤1000):Ctr Tryz.prog 117 [scV s,V.one (Leaf.val (.int .i64 ((v:Int))))] (R.tup [V.one (El.row muE ((atMost s.q.g.inp s.lems v).getD [])),V.one (Leaf.val (.bool (atMost s.q.g.inp s.lems v).isSome))]):=by
 refine bd_ Tryz.func117 Tryz.ntmps117 rfl (fun w0 A0=>?_)
 refine zc 9 rfl (tc_ fn33 rfl (rqof 1 (by decide) (by decide)) (zl 12 rfl ?_))
 by_cases hv1:v < s.q.g.inp
 ·refine tq_ rfl (ltT rfl) (zl 9 rfl (te_ rfl (Je_buildSlice rfl un62 ty107 tz107 rfl (by decide) (by decide) rfl (by decide) rfl) (zl 4 rfl ?_)))
  exact r2_ hq_ rfl (by unfold atMost;rw [if_pos hv1] <;> rfl)
 ·refine tq_ rfl (ltF rfl) (zl 12 rfl (tq_ rfl (jsb (v - s.q.g.inp) rfl) (zl 7 rfl (tc_ fn27 rfl (best_r s (by assumption) (by omega) (by omega) ((v - s.q.g.inp:Nat):Int)) (zl 11 rfl ?_)))))
  by_cases hb1:(best s.lems ((v - s.q.g.inp:Nat):Int)).1 = 0
  ·refine tq_ rfl (eqT rfl) (zl 8 rfl ?_)
   have hb:(best s.lems ((v - s.q.g.inp:Nat):Int)).1 = 0 ∨ (best s.lems ((v - s.q.g.inp:Nat):Int)).2 = 0:=.inl hb1
   refine zc 5 rfl ?_
   exact r2_ hq_ rfl (by unfold atMost;rw [if_neg hv1,if_pos hb] <;> rfl)
  ·refine tq_ rfl (eqF rfl) (zl 2 rfl ?_)
   by_cases hb2:(best s.lems ((v - s.q.g.inp:Nat):Int)).2 = 0
   ·refine tq_ rfl (eqT rfl) (zl 5 rfl ?_)
    have hb:(best s.lems ((v - s.q.g.inp:Nat):Int)).1 = 0 ∨ (best s.lems ((v - s.q.g.inp:Nat):Int)).2 = 0:=.inr hb2
    refine zc 5 rfl ?_
    exact r2_ hq_ rfl (by unfold atMost;rw [if_neg hv1,if_pos hb] <;> rfl)
   ·refine tq_ rfl (eqF rfl) (zl 7 rfl ?_)
    have hb:¬ ((best s.lems ((v - s.q.g.inp:Nat):Int)).1 = 0 ∨ (best s.lems ((v - s.q.g.inp:Nat):Int)).2 = 0):=fun h=>h.elim hb1 hb2
    obtain ⟨y,hy,_,_,hly,hy0,hyl⟩:=best_lo hb1
    obtain ⟨z,hz,_,_,hlz,hz0,hzl⟩:=best_hi hb2
    haveI hyB:=hB y (List.mem_of_getElem? hy)
    haveI hzB:=hB z (List.mem_of_getElem? hz)
    refine dr_ 2 [(14,2),(15,3),(16,2),(17,3)] [2,3] (dz 3 rfl (kq_ rfl (jsb (((best s.lems ((v - s.q.g.inp:Nat):Int)).1) - 1) rfl) (kq_ rfl (jix ((best s.lems ((v - s.q.g.inp:Nat):Int)).1 - 1) hy rfl) (kq_ rfl (jft rfl) (kq_ rfl (jlr rfl) (dz 3 rfl (kq_ rfl (jsb (((best s.lems ((v - s.q.g.inp:Nat):Int)).2) - 1) rfl) ?_)))))))
    refine kq_ rfl (jix ((best s.lems ((v - s.q.g.inp:Nat):Int)).2 - 1) hz rfl) (kq_ rfl (jft rfl) (kq_ rfl (jlr rfl) (dz 4 rfl (DK_nil (za 6 rfl (tc_ fn63 rfl (rqsign z.v (z.v.q) rfl (Fq.use (x:=z.v) (by omega))) ?_))))))
    by_cases hu0:lv s.lems (best s.lems ((v - s.q.g.inp:Nat):Int)).2≤0
    ·refine tq_ rfl (leT rfl (by rw [← hlz];exact sg_le.2 hu0)) (zl 11 rfl (te_ rfl (Je_buildSlice rfl un62 ty107 tz107 rfl (by decide) (by decide) rfl (by decide) rfl) (zl 4 rfl ?_)))
     exact r2_ hq_ rfl (by unfold atMost;rw [if_neg hv1,if_neg hb,if_pos hu0] <;> rfl)
    ·refine tq_ rfl (leF rfl (by rw [← hlz];exact fun e=>hu0 (sg_le.1 e))) (zl 7 rfl (tc_ fn63 rfl (rqsign y.v (y.v.q) rfl (Fq.use (x:=y.v) (by omega))) ?_))
     by_cases hl0:0≤lv s.lems (best s.lems ((v - s.q.g.inp:Nat):Int)).1
     ·refine tq_ rfl (geT rfl (by rw [← hly];exact sg_ge.2 hl0)) (zl 16 rfl (te_ rfl (Je_buildSlice rfl un62 ty107 tz107 rfl (by decide) (by decide) rfl (by decide) rfl) (zl 4 rfl ?_)))
      exact r2_ hq_ rfl (by unfold atMost;rw [if_neg hv1,if_neg hb,if_neg hu0,if_pos hl0] <;> rfl)
     ·refine tq_ rfl (geF rfl (by rw [← hly];exact fun e=>hl0 (sg_ge.1 e))) (zl 8 rfl ?_)
      rw [hlz] at hu0
      rw [hly] at hl0
      have hne:z.v.q - y.v.q≠0:=by grind
      refine dr_ 1 [(8,4),(9,4)] [4] (dz 3 rfl (kc_ fn59 rfl (rqsub z.v (z.v.q) rfl (Fq.use (x:=z.v) (by omega)) y.v (y.v.q) rfl (Fq.use (x:=y.v) (by omega))) (kc_ fn152 rfl (rqdiv (qOf (((1:Int):Rat))) (((1:Int):Rat)) (qOf_q _) (Br.use (by omega)) (qOf ((z.v.q) - (y.v.q))) ((z.v.q) - (y.v.q)) (qOf_q _) (Br.use (by omega)) (by assumption)) (dz 6 rfl (DK_nil (za 2 rfl ?_))))))
      refine dr_ 0 [] [] (dz 5 rfl (kc_ fn58 rfl (rqmul (qOf ((((1:Int):Rat)) / ((z.v.q) - (y.v.q)))) ((((1:Int):Rat)) / ((z.v.q) - (y.v.q))) (qOf_q _) (Br.use (by omega)) z.v (z.v.q) rfl (Fq.use (x:=z.v) (by omega))) (dz 7 rfl (ke_ rfl (fun _=>Je_buildSlice rfl un62 ty107 tz107 rfl (by decide) (by decide) rfl (by decide) rfl) (dz 2 rfl (DK_nil (za 1 rfl ?_)))))))
      exact r2_ hq_ rfl (by unfold atMost;rw [if_neg hv1,if_neg hb,if_neg (by rw [hlz];exact hu0),if_neg (by rw [hly];exact hl0),hlz,hly] <;> rfl)
end Go.Proofs.YtjdbopkbfkgpdaaGreatDoor
set_option linter.unusedSimpArgs false
set_option linter.unusedVariables false
namespace Rc
open Go Go.RowKit
structure FL (B n:Nat) (f:Af):Prop where
 can:CanT f.ts
 bd:∀ t∈f.ts,Br t.2 B
 cb:Br f.c B
 var:∀ t∈f.ts,t.1 < n
theorem FL.mono {B C n m:Nat} {f:Af} (h:FL B n f) (h1:B≤C) (h2:n≤m):FL C m f:=
 ⟨h.can,fun t ht=>(h.bd t ht).mono h1,h.cb.mono h1,fun t ht=>Nat.lt_of_lt_of_le (h.var t ht) h2⟩
theorem FOk.fl {b n:Nat} {f:Af} (h:FOk b n f):FL (b + 1) n f:=⟨h.can,fun t ht=>(h.bd t ht).br,h.br,h.var⟩
theorem FL.fm {B n:Nat} {f:Af} (h:FL B n f) (hn:n≤1000000):Fm f.ts B n:=
 ⟨h.can,h.bd,by have:=canT_len (a:=0) h.can (fun t ht=>⟨Nat.zero_le _,h.var t ht⟩);omega,fun t ht=>Nat.lt_of_lt_of_le (h.var t ht) hn⟩
def fV (v:Nat):Af:=⟨[(v,((1:Int):Rat))],0⟩
def fN (c:Rat):Af:=⟨[],c⟩
def fAdd (f g:Af):Af:=⟨sumT f.ts g.ts,f.c + g.c⟩
def fSc (f:Af) (c:Rat):Af:=⟨scT f.ts c,f.c * c⟩
def fSub (f g:Af):Af:=⟨sumT f.ts (scT g.ts ((-1:Int):Rat)),f.c + g.c * ((-1:Int):Rat)⟩
def fZ:Af:=⟨[],0⟩
theorem FL.v {v n:Nat} (h:v < n):FL 2 n (fV v):=
 ⟨⟨by decide,fun t ht=>by simp at ht,trivial⟩,fun t ht=>by simp [fV] at ht;subst ht;exact Br.one,Br.zero.mono (by omega),fun t ht=>by simp [fV] at ht;subst ht;exact h⟩
theorem FL.n {c:Rat} {B n:Nat} (h:Br c B):FL B n (fN c):=⟨trivial,fun t ht=>by simp [fN] at ht,h,fun t ht=>by simp [fN] at ht⟩
theorem FL.z {n:Nat}:FL 0 n fZ:=⟨trivial,fun t ht=>by simp [fZ] at ht,Br.zero,fun t ht=>by simp [fZ] at ht⟩
theorem FL.add {f g:Af} {B C n:Nat} (hf:FL B n f) (hg:FL C n g):FL (B + C + 1) n (fAdd f g):=by
 haveI:=hf.cb;haveI:=hg.cb
 exact ⟨sumT_can hf.can,sumT_bd hf.can hg.can hf.bd hg.bd,Br.add,sumT_var hf.var hg.var⟩
theorem FL.sc {f:Af} {c:Rat} {B C n:Nat} (hf:FL B n f) [hc:Br c C]:FL (B + C + 1) n (fSc f c):=by
 haveI:=hf.cb
 refine ⟨by show CanT (scT f.ts c);rw [scT_eq];exact scR_can hf.can,fun t ht=>?_,Br.mul,fun t ht=>?_⟩
 ·have ht:t∈scT f.ts c:=ht
  rw [scT_eq] at ht
  obtain ⟨u,h1,h2,h3,_⟩:=scR_mem ht
  rw [h3]
  haveI:=hf.bd u h1
  exact Br.mul
 ·have ht:t∈scT f.ts c:=ht
  rw [scT_eq] at ht
  obtain ⟨u,h1,h2,_⟩:=scR_mem ht
  rw [← h2];exact hf.var u h1
theorem FL.sub {f g:Af} {B C n:Nat} (hf:FL B n f) (hg:FL C n g):FL (B + C + 4) n (fSub f g):=by
 have:=hf.add (FL.sc (c:=((-1:Int):Rat)) hg)
 exact this.mono (by omega) (Nat.le_refl _)
def DOk (b:Nat) (q:Qu) (d:Dc):Prop:=(((d.kind = 1 ∨ d.kind = 2)∧d.idx < q.g.us.length∧d.pt = 0) ∨ ((d.kind = 3 ∨ d.kind = 4)∧d.idx < q.g.inp))∧Hb d.pt b
def decM (path:List Dc) (k:Nat) (j:Int):Bool:=path.any (fun d=>((d.kind:Int) == (k:Int)) && ((d.idx:Int) == j))
def decN (path:List Dc) (k:Nat) (j:Int) (n:Nat):Bool:=(path.take n).any (fun d=>((d.kind:Int) == (k:Int)) && ((d.idx:Int) == j))
theorem decN_succ {path:List Dc} {k n:Nat} {j:Int} {d:Dc} (h:path[n]? = some d):decN path k j (n + 1) = (decN path k j n || (((d.kind:Int) == (k:Int)) && ((d.idx:Int) == j))):=by
 unfold decN;rw [take_snoc h,List.any_append];simp
theorem decM_end {path:List Dc} {k:Nat} {j:Int}:decN path k j path.length = decM path k j:=by unfold decN decM;rw [List.take_length]
theorem decM_t {path:List Dc} {k n:Nat} {j:Int} {d:Dc} (h:path[n]? = some d) (h1:((d.kind:Int) == (k:Int)) = true) (h2:((d.idx:Int) == j) = true):decM path k j = true:=by
 unfold decM;rw [List.any_eq_true];exact ⟨d,List.mem_of_getElem? h,by rw [h1,h2];rfl⟩
def lem (l:List Lm) (n unit:Int) (up:Bool):Rat × Bool:=
 if n < 1 then (0,false) else match l[(n - 1).toNat]? with
 | none=>(0,false)
 | some m=>if m.unit = unit∧m.up = up then (m.v.q,true) else (0,false)
theorem lem_lt {l:List Lm} {n unit:Int} {up:Bool} (h:n < 1):lem l n unit up = (0,false):=if_pos h
theorem lem_gt {l:List Lm} {n unit:Int} {up:Bool} (h:(l.length:Int) < n):lem l n unit up = (0,false):=by
 unfold lem;rw [if_neg (by omega),List.getElem?_eq_none (by omega)]
theorem lem_no {l:List Lm} {n unit:Int} {up:Bool} {m:Lm} (h:¬ n < 1) (hm:l[(n - 1).toNat]? = some m) (hn:¬ (m.unit = unit∧m.up = up)):lem l n unit up = (0,false):=by
 unfold lem;rw [if_neg h,hm];simp only [];rw [if_neg hn]
theorem lem_yes {l:List Lm} {n unit:Int} {up:Bool} {m:Lm} (h:¬ n < 1) (hm:l[(n - 1).toNat]? = some m) (hn:m.unit = unit∧m.up = up):lem l n unit up = (m.v.q,true):=by
 unfold lem;rw [if_neg h,hm];simp only [];rw [if_pos hn]
theorem lem_br {l:List Lm} {n unit:Int} {up:Bool} {B:Nat} (hB:∀ m∈l,Fq m.v B):Br (lem l n unit up).1 B:=by
 unfold lem
 split
 ·exact Br.zero.mono (Nat.zero_le _)
 ·split
  ·exact Br.zero.mono (Nat.zero_le _)
  ·rename_i m hm
   split
   ·haveI:=hB m (List.mem_of_getElem? hm);exact Fq.br
   ·exact Br.zero.mono (Nat.zero_le _)
section
variable (s:Sc) (r:Rw)
@[reducible] def lowQ:Rat:=(lem s.lems r.lo r.idx false).1
@[reducible] def lowB:Bool:=(lem s.lems r.lo r.idx false).2
@[reducible] def topQ:Rat:=(lem s.lems r.hi r.idx true).1
@[reducible] def topB:Bool:=(lem s.lems r.hi r.idx true).2
def onB:Bool:=(r.hi == 0) && (((r.lo == 0) && decM s.path 1 r.idx) || (lowB s r && decide (0≤sg (lowQ s r))))
def offB:Bool:=(r.lo == 0) && (((r.hi == 0) && decM s.path 2 r.idx) || (topB s r && decide (sg (topQ s r)≤0)))
def unitF (p:Af):Af × Bool:=
 if r.kind = 5 then (fV (s.q.g.inp + r.idx.toNat),(r.lo == 0) && (r.hi == 0))
 else if r.kind = 6 then (fSub (fV (s.q.g.inp + r.idx.toNat)) p,(r.lo == 0) && (r.hi == 0))
 else if r.kind = 7 then (p,onB s r)
 else if r.kind = 8 then (fSub p (fV (s.q.g.inp + r.idx.toNat)),onB s r)
 else if r.kind = 9 then (fSc p ((-1:Int):Rat),offB s r)
 else if r.kind = 10 then (fSc (fV (s.q.g.inp + r.idx.toNat)) ((-1:Int):Rat),offB s r)
 else if r.kind = 11 then (fSub p (fN (lowQ s r)),lowB s r && (r.hi == 0))
 else if r.kind = 12 then (fSub (fN (topQ s r)) p,topB s r && (r.lo == 0))
 else if r.kind = 13 then (fSub (fSc (fSub p (fN (lowQ s r))) (topQ s r)) (fSc (fV (s.q.g.inp + r.idx.toNat)) (topQ s r - lowQ s r)),lowB s r && topB s r && decide (sg (lowQ s r) < 0) && decide (0 < sg (topQ s r)))
 else (fZ,false)
def orZ (x:Af × Bool):Af × Bool:=if x.2 = true then x else (fZ,false)
def unitM:Af × Bool:=if r.idx < 0 then (fZ,false) else match s.q.g.us[r.idx.toNat]? with
 | none=>(fZ,false)
 | some p=>orZ (unitF s r p)
def pathF (d:Dc):Af:=if d.kind = 3 then fSub (fV d.idx) (fN d.pt) else fSc (fSub (fV d.idx) (fN d.pt)) ((-1:Int):Rat)
def formM:Af × Bool:=
 if 5≤r.kind then unitM s r
 else if r.lo≠0 ∨ r.hi≠0 ∨ r.idx < 0 then (fZ,false)
 else if r.kind = 1 then (match s.q.r.lo[r.idx.toNat]? with | some c=>(fSub (fV r.idx.toNat) (fN c),true) | none=>(fZ,false))
 else if r.kind = 2 then (match s.q.r.hi[r.idx.toNat]? with | some c=>(fSub (fN c) (fV r.idx.toNat),true) | none=>(fZ,false))
 else if r.kind = 3 then (match s.q.r.rows[r.idx.toNat]? with | some f=>(f,true) | none=>(fZ,false))
 else if r.kind = 4 then (match s.path[r.idx.toNat]? with | some d=>if 3≤d.kind then (pathF d,true) else (fZ,false) | none=>(fZ,false))
 else (fZ,false)
end
theorem unitM_t {s:Sc} {r:Rw} {p f:Af} (h1:¬ r.idx < 0) (hp:s.q.g.us[r.idx.toNat]? = some p) (h:unitF s r p = (f,true)):unitM s r = (f,true):=by
 unfold unitM;rw [if_neg h1,hp];simp only [h,orZ,if_true]
theorem unitM_f {s:Sc} {r:Rw} {p:Af} (h1:¬ r.idx < 0) (hp:s.q.g.us[r.idx.toNat]? = some p) (h:(unitF s r p).2 = false):unitM s r = (fZ,false):=by
 unfold unitM;rw [if_neg h1,hp];simp only [orZ];rw [if_neg (by rw [h];decide)]
theorem fZ_ret (b:Bool) (ls:List Leaf) (h:ls = [tmE.row [],Leaf.val (.bool false),nilL,nilL]):R.tup [V.agg ls,V.one (Leaf.val (.bool b))] = R.tup [afV fZ,V.one (Leaf.val (.bool b))]:=by
 subst h;show _ = R.tup [afV ⟨[],0⟩,_];rw [af0]
theorem qOf0:qOf 0 = qZero:=by
 show Qr.mk (cneg 0) (limbs (cnum 0)) (limbs (cden 0)) _ _ = Qr.mk false [] [] _ _
 simp only [Qr.mk.injEq,cnum_zero,cden_zero,limbs_zero,and_true]
 decide
theorem unitF_fl {s:Sc} {r:Rw} {p:Af} {B n:Nat} (hB:∀ m∈s.lems,Fq m.v B) (hp:FL 4 n p) (hv:s.q.g.inp + r.idx.toNat < n):FL (4 * B + 40) n (unitF s r p).1:=by
 haveI hl:Br (lowQ s r) B:=lem_br hB
 haveI ht:Br (topQ s r) B:=lem_br hB
 have h1:=FL.v hv
 have m:∀ {C:Nat} {f:Af},FL C n f→C≤4 * B + 40→FL (4 * B + 40) n f:=fun h hc=>h.mono hc (Nat.le_refl _)
 unfold unitF
 split;· exact m h1 (by omega)
 split;· exact m (h1.sub hp) (by omega)
 split;· exact m hp (by omega)
 split;· exact m (hp.sub h1) (by omega)
 split;· exact m (FL.sc (c:=((-1:Int):Rat)) hp) (by omega)
 split;· exact m (FL.sc (c:=((-1:Int):Rat)) h1) (by omega)
 split;· exact m (hp.sub (FL.n hl)) (by omega)
 split;· exact m ((FL.n ht).sub hp) (by omega)
 split;· exact m ((FL.sc (c:=topQ s r) (hp.sub (FL.n hl))).sub (FL.sc (c:=topQ s r - lowQ s r) h1)) (by omega)
 exact m FL.z (by omega)
theorem unitM_fl {s:Sc} {r:Rw} {B:Nat} (hq:QOk s.q) (hB:∀ m∈s.lems,Fq m.v B):FL (4 * B + 40) (s.q.g.inp + s.q.g.us.length) (unitM s r).1:=by
 unfold unitM
 split
 ·exact FL.z.mono (by omega) (Nat.le_refl _)
 ·split
  ·exact FL.z.mono (by omega) (Nat.le_refl _)
  ·rename_i p hp
   have hj:=(List.getElem?_eq_some_iff.1 hp).1
   unfold orZ
   split
   ·exact unitF_fl hB ((hq.g.us _ p hp).fl.mono (by omega) (by omega)) (by omega)
   ·exact FL.z.mono (by omega) (Nat.le_refl _)
theorem formM_fl {s:Sc} {r:Rw} {B b:Nat} (hq:QOk s.q) (hd:∀ d∈s.path,DOk b s.q d) (hB:∀ m∈s.lems,Fq m.v B):FL (4 * B + b + 40) (s.q.g.inp + s.q.g.us.length) (formM s r).1:=by
 have z:FL (4 * B + b + 40) (s.q.g.inp + s.q.g.us.length) fZ:=FL.z.mono (by omega) (Nat.le_refl _)
 have m:∀ {C:Nat} {f:Af},FL C (s.q.g.inp + s.q.g.us.length) f→C≤4 * B + b + 40→FL (4 * B + b + 40) (s.q.g.inp + s.q.g.us.length) f:=fun h hc=>h.mono hc (Nat.le_refl _)
 unfold formM
 split
 ·exact m (unitM_fl hq hB) (by omega)
 split
 ·exact z
 split
 ·split
  ·rename_i c hc
   have hj:=(List.getElem?_eq_some_iff.1 hc).1
   have hl:=hq.r.lo;have hh:=hq.r.hi
   obtain ⟨y,hy⟩:∃ y,s.q.r.hi[r.idx.toNat]? = some y:=⟨_,List.getElem?_eq_getElem (by omega)⟩
   exact m ((FL.v (by omega)).sub (FL.n (hq.r.bd _ _ _ hc hy).1.br)) (by omega)
  ·exact z
 split
 ·split
  ·rename_i c hc
   have hj:=(List.getElem?_eq_some_iff.1 hc).1
   have hl:=hq.r.lo;have hh:=hq.r.hi
   obtain ⟨y,hy⟩:∃ y,s.q.r.lo[r.idx.toNat]? = some y:=⟨_,List.getElem?_eq_getElem (by omega)⟩
   exact m ((FL.n (hq.r.bd _ _ _ hy hc).2.1.br).sub (FL.v (by omega))) (by omega)
  ·exact z
 split
 ·split
  ·rename_i f hf
   exact (hq.r.rows f (List.mem_of_getElem? hf)).fl.mono (by omega) (by omega)
  ·exact z
 split
 ·split
  ·rename_i d hdd
   have hok:=hd d (List.mem_of_getElem? hdd)
   split
   ·rename_i h3
    have hv:d.idx < s.q.g.inp + s.q.g.us.length:=by rcases hok.1 with ⟨h,_⟩ | ⟨_,h⟩ <;> omega
    unfold pathF
    split
    ·exact m ((FL.v hv).sub (FL.n hok.2.br)) (by omega)
    ·exact m (FL.sc (c:=((-1:Int):Rat)) ((FL.v hv).sub (FL.n hok.2.br))) (by omega)
   ·exact z
  ·exact z
 exact z
def sumM (s:Sc) (l:List Mu):Af:=l.foldl (fun a m=>fAdd a (fSc (formM s m.r).1 m.c.q)) fZ
theorem sumM_snoc (s:Sc) (l:List Mu) (m:Mu):sumM s (l ++ [m]) = fAdd (sumM s l) (fSc (formM s m.r).1 m.c.q):=by unfold sumM;rw [List.foldl_append];rfl
theorem sumM_take {s:Sc} {l:List Mu} {i:Nat} {m:Mu} (h:l[i]? = some m):sumM s (l.take (i + 1)) = fAdd (sumM s (l.take i)) (fSc (formM s m.r).1 m.c.q):=by rw [take_snoc h,sumM_snoc]
theorem foldl_fl {s:Sc} {B b C:Nat} (hq:QOk s.q) (hd:∀ d∈s.path,DOk b s.q d) (hB:∀ m∈s.lems,Fq m.v B):∀ (l:List Mu) (a:Af) (K:Nat),FL K (s.q.g.inp + s.q.g.us.length) a→MB C l →
  FL (K + l.length * (4 * B + b + C + 42)) (s.q.g.inp + s.q.g.us.length) (l.foldl (fun a m=>fAdd a (fSc (formM s m.r).1 m.c.q)) a)
 | [],a,K,h,_=>h.mono (by omega) (Nat.le_refl _)
 | m :: l,a,K,h,hm=>by
  haveI:=hm m (by simp)
  have h1:=h.add (FL.sc (c:=m.c.q) (formM_fl (r:=m.r) hq hd hB))
  have h2:=foldl_fl hq hd hB l _ _ h1 (fun x hx=>hm x (by simp [hx]))
  refine h2.mono ?_ (Nat.le_refl _)
  simp only [List.length_cons,Nat.add_mul]
  omega
theorem sumM_fl {s:Sc} {l:List Mu} {B b C:Nat} (hq:QOk s.q) (hd:∀ d∈s.path,DOk b s.q d) (hB:∀ m∈s.lems,Fq m.v B) (hm:MB C l):FL (l.length * (4 * B + b + C + 42)) (s.q.g.inp + s.q.g.us.length) (sumM s l):=
 (foldl_fl hq hd hB l fZ 0 FL.z hm).mono (by omega) (Nat.le_refl _)
theorem MB.take {C n:Nat} {l:List Mu} (h:MB C l):MB C (l.take n):=fun m hm=>h m (List.mem_of_mem_take hm)
def abst (inp:Nat) (lems:List Lm) (a:List Mu × Bool) (t:Tm):List Mu × Bool:=
 if a.2 = true then
  if 0 < t.2 then (mergeM a.1 (atLeast inp t.1) (rq false (cnum t.2) (cden t.2)),true)
  else match atMost inp lems t.1 with
   | some m=>(mergeM a.1 m (rq false (cnum t.2) (cden t.2)),true)
   | none=>([],false)
 else a
def absn (inp:Nat) (lems:List Lm) (ts:List Tm):List Mu × Bool:=ts.foldl (abst inp lems) ([],true)
theorem absn_snoc (inp:Nat) (lems:List Lm) (ts:List Tm) (t:Tm):absn inp lems (ts ++ [t]) = abst inp lems (absn inp lems ts) t:=by unfold absn;rw [List.foldl_append];rfl
theorem absn_take {inp:Nat} {lems:List Lm} {ts:List Tm} {i:Nat} {t:Tm} (h:ts[i]? = some t):absn inp lems (ts.take (i + 1)) = abst inp lems (absn inp lems (ts.take i)) t:=by rw [take_snoc h,absn_snoc]
theorem absn_no {inp:Nat} {lems:List Lm}:∀ (ts:List Tm) (a:List Mu × Bool),a.2 = false→(ts.foldl (abst inp lems) a).2 = false
 | [],a,h=>h
 | t :: ts,a,h=>absn_no ts _ (by unfold abst;rw [if_neg (by rw [h];decide)];exact h)
theorem absn_bad {inp:Nat} {lems:List Lm} {ts:List Tm} {i:Nat} (h:(absn inp lems (ts.take i)).2 = false):(absn inp lems ts).2 = false:=by
 have e:absn inp lems ts = (ts.drop i).foldl (abst inp lems) (absn inp lems (ts.take i)):=by
  unfold absn;rw [← List.foldl_append,List.take_append_drop]
 rw [e];exact absn_no _ _ h
end Rc
set_option linter.unusedSimpArgs false
set_option linter.unusedVariables false
namespace Go.Proofs.YtjdbopkbfkgpdaaGreatDoor
open Go Go.RowKit Rc
set_option maxRecDepth 10000 in
set_option maxHeartbeats 2000000 in
theorem lemma_r (s:Sc) {B:Nat} (hB:∀ m∈s.lems,Fq m.v B) (hB2:B≤100000000000) (hl:s.lems.length≤1000000) (n u:Int) (up:Bool):Ctr Tryz.prog 151 [scV s,V.one (Leaf.val (.int .i64 (n))),V.one (Leaf.val (.int .i64 (u))),V.one (Leaf.val (.bool up))] (R.tup [qV (qOf (lem s.lems n u up).1),V.one (Leaf.val (.bool (lem s.lems n u up).2))]):=by
 refine bd_ Tryz.func151 Tryz.ntmps151 rfl (fun w0 A0=>?_)
 refine zc 11 rfl ?_
 by_cases h1:n < 1
 ·refine tq_ rfl (ltT rfl) (zl 24 rfl (zl 15 rfl ?_))
  exact r2_ hq_ rfl (by rw [lem_lt h1];show _ = R.tup [qV (qOf 0),V.one (Leaf.val (.bool false))];rw [← qV_zero] <;> rfl)
 ·refine tq_ rfl (ltF rfl) (zl 4 rfl (tq_ rfl (jln rfl) ?_))
  by_cases h2:(s.lems.length:Int) < n
  ·refine tq_ rfl (gtT rfl) (zl 24 rfl (za 9 rfl ?_))
   exact r2_ hq_ rfl (by rw [lem_gt h2];show _ = R.tup [qV (qOf 0),V.one (Leaf.val (.bool false))];rw [← qV_zero] <;> rfl)
  ·refine tq_ rfl (gtF rfl) (zl 2 rfl ?_)
   obtain ⟨x,hx⟩:∃ x,s.lems[(n - 1).toNat]? = some x:=⟨_,List.getElem?_eq_getElem (by omega)⟩
   haveI hxB:=hB x (List.mem_of_getElem? hx)
   refine zl 3 rfl (tq_ rfl (Jq_sub rfl rfl rfl (r:=(n - 1)) (w64 (by omega) (by omega) (by omega))) (tq_ rfl (jix ((n - 1).toNat) hx rfl (by omega)) (tq_ rfl (jfr rfl) (tq_ rfl (jli rfl) (zl 1 rfl ?_)))))
   by_cases h3:x.unit≠u
   ·refine tq_ rfl (neT rfl) (zl 22 rfl ?_)
    exact r2_ hq_ rfl (by rw [lem_no h1 hx (fun e=>h3 e.1)];show _ = R.tup [qV (qOf 0),V.one (Leaf.val (.bool false))];rw [← qV_zero] <;> rfl)
   ·refine tq_ rfl (neF rfl) (zl 5 rfl (tq_ rfl (Jq_sub rfl rfl rfl (r:=(n - 1)) (w64 (by omega) (by omega) (by omega))) (tq_ rfl (jix ((n - 1).toNat) hx rfl (by omega)) (tq_ rfl (jfr rfl) (tq_ rfl (jli rfl) (zl 1 rfl ?_))))))
    by_cases h4:x.up≠up
    ·refine tq_ rfl (Jq_neq_bool rfl rfl rfl un4 (d:=true) (bne_iff_ne.2 h4)) (zl 11 rfl ?_)
     exact r2_ hq_ rfl (by rw [lem_no h1 hx (fun e=>h4 e.2)];show _ = R.tup [qV (qOf 0),V.one (Leaf.val (.bool false))];rw [← qV_zero] <;> rfl)
    ·refine tq_ rfl (Jq_neq_bool rfl rfl rfl un4 (d:=false) (by rw [Classical.not_not.1 h4];simp)) (zl 11 rfl (tq_ rfl (Jq_sub rfl rfl rfl (r:=(n - 1)) (w64 (by omega) (by omega) (by omega))) (tq_ rfl (jix ((n - 1).toNat) hx rfl (by omega)) (tq_ rfl (jft rfl) (tq_ rfl (jlr rfl) (tc_ fn65 rfl (rqcanon x.v (x.v.q) rfl (Fq.use (x:=x.v) (by omega))) (zl 4 rfl ?_)))))))
     exact r2_ hq_ rfl (by rw [lem_yes h1 hx ⟨Classical.not_not.1 h3,Classical.not_not.1 h4⟩] <;> rfl)
set_option maxRecDepth 10000 in
theorem fits_r (q:Qu) (d:Dc) {b:Nat} (hd:DOk b q d) (hb:b≤1000000):Ctr Tryz.prog 69 [quV q,dcV d] (R.one (V.one (Leaf.val (.bool true)))):=by
 refine bd_ Tryz.func69 Tryz.ntmps69 rfl (fun w0 A0=>?_)
 obtain ⟨hk,hbt⟩:=hd
 haveI:=hbt.br
 have hkk:d.kind = 1 ∨ d.kind = 2 ∨ d.kind = 3 ∨ d.kind = 4:=by rcases hk with ⟨h,_⟩ | ⟨h,_⟩ <;> omega
 refine zc 18 rfl ?_
 by_cases h1:d.kind = 1
 ·refine tq_ rfl (eqT rfl) (zl 8 rfl ?_)
  have hp0:d.idx < q.g.us.length∧d.pt = 0:=by rcases hk with ⟨_,h⟩ | ⟨h,_⟩ <;> first | exact h | omega
  refine zc 3 rfl (tq_ rfl (geT rfl) (zl 6 rfl (tq_ rfl (jln rfl) (tq_ rfl (ltT rfl) (zl 5 rfl (tc_ fn24 rfl (rqsame (qOf (d.pt)) qZero) (is_ true rfl (by rw [hp0.2,qOf0];rfl) (zl 4 rfl ?_))))))))
  exact r1_ hq_ rfl rfl
 ·refine tq_ rfl (eqF rfl) (zl 5 rfl ?_)
  by_cases h2:d.kind = 2
  ·refine tq_ rfl (eqT rfl) (zl 5 rfl ?_)
   have hp0:d.idx < q.g.us.length∧d.pt = 0:=by rcases hk with ⟨_,h⟩ | ⟨h,_⟩ <;> first | exact h | omega
   refine zc 3 rfl (tq_ rfl (geT rfl) (zl 6 rfl (tq_ rfl (jln rfl) (tq_ rfl (ltT rfl) (zl 5 rfl (tc_ fn24 rfl (rqsame (qOf (d.pt)) qZero) (is_ true rfl (by rw [hp0.2,qOf0];rfl) (zl 4 rfl ?_))))))))
   exact r1_ hq_ rfl rfl
  ·refine tq_ rfl (eqF rfl) (zl 7 rfl ?_)
   by_cases h3:d.kind = 3
   ·refine tq_ rfl (eqT rfl) (zl 8 rfl ?_)
    have hp0:d.idx < q.g.inp:=by rcases hk with ⟨h,_⟩ | ⟨_,h⟩ <;> first | exact h | omega
    refine zc 3 rfl (tq_ rfl (geT rfl) (zl 6 rfl (tq_ rfl (ltT rfl) (zl 4 rfl (tc_ fn70 rfl (rqvalid (qOf (d.pt)) (d.pt) (qOf_q _) (Br.use (by omega))) (is_ true rfl (isC_of _) (zl 4 rfl ?_)))))))
    exact r1_ hq_ rfl rfl
   ·refine tq_ rfl (eqF rfl) (zl 5 rfl (tq_ rfl (eqT rfl) (zl 5 rfl ?_)))
    have hp0:d.idx < q.g.inp:=by rcases hk with ⟨h,_⟩ | ⟨_,h⟩ <;> first | exact h | omega
    refine zc 3 rfl (tq_ rfl (geT rfl) (zl 6 rfl (tq_ rfl (ltT rfl) (zl 4 rfl (tc_ fn70 rfl (rqvalid (qOf (d.pt)) (d.pt) (qOf_q _) (Br.use (by omega))) (is_ true rfl (isC_of _) (zl 4 rfl ?_)))))))
    exact r1_ hq_ rfl rfl
set_option maxRecDepth 10000 in
theorem decided_r (s:Sc) {b:Nat} (hq:QOk s.q) (hd:∀ d∈s.path,DOk b s.q d) (hb:b≤1000000) (hpl:s.path.length≤1000) (k:Nat) (j:Int):Ctr Tryz.prog 78 [scV s,V.one (Leaf.val (.int .i64 ((k:Int)))),V.one (Leaf.val (.int .i64 (j)))] (R.one (V.one (Leaf.val (.bool (decM s.path k j))))):=by
 refine bd_ Tryz.func78 Tryz.ntmps78 rfl (fun w0 A0=>?_)
 refine zc 13 rfl (lpR_ (fun m Γ H=>∃ (i:Nat),s.path.length - i = m∧Γ = [(1,some (D.val (.int .i64 ((k:Nat):Int)))),(2,some (D.val (.int .i64 j))),(3,some (D.ptr 0 0)),(7,some (D.val (.int .i64 ((i:Nat):Int))))]∧H = [hb_ 42 (scL s)]∧i≤s.path.length∧decN s.path k j i = false) ⟨0,rfl,rfl,rfl,Nat.zero_le _,rfl⟩ rfl ?_)
 rintro m Γ H ⟨i,rfl,rfl,rfl,hi0,hno⟩
 refine zc 6 rfl (tq_ rfl (jln rfl) ?_)
 by_cases hi:i < s.path.length
 ·refine tq_ rfl (ltT rfl) (zl 8 rfl ?_)
  obtain ⟨x,hx⟩:∃ x,s.path[i]? = some x:=⟨_,List.getElem?_eq_getElem hi⟩
  have hxd:=hd x (List.mem_of_getElem? hx)
  refine dr_ 0 [] [] (dz 3 rfl (kq_ rfl (jix i hx rfl) (kq_ rfl (jfr rfl) (kq_ rfl (jli rfl) (dz 3 rfl ?_)))))
  refine ktw_ rfl (fun hk1=>?_) (fun hk1=>?_)
  ·refine dz 19 rfl (DK_nil (za 7 rfl (tq_ rfl (jad (i + 1) rfl) (zl 2 rfl ?_))))
   exact nx_ ⟨i + 1,rfl,rfl,rfl,hi,by rw [decN_succ hx,hno,hk1];rfl⟩ rfl
  ·refine dz 3 rfl (kq_ rfl (jix i hx rfl) (kq_ rfl (jfr rfl) (kq_ rfl (jli rfl) (dz 4 rfl ?_))))
   refine ktw_ rfl (fun hk2=>?_) (fun hk2=>?_)
   ·refine dz 9 rfl (DK_nil (za 7 rfl (tq_ rfl (jad (i + 1) rfl) (zl 2 rfl ?_))))
    exact nx_ ⟨i + 1,rfl,rfl,rfl,hi,by rw [decN_succ hx,hno,hk1,hk2];rfl⟩ rfl
   ·refine dz 5 rfl (kq_ rfl (jix i hx rfl) (kq_ rfl (jlr rfl) (kc_ fn69 rfl (fits_r s.q x (by assumption) (by omega)) (dz 1 rfl (DK_nil (za 7 rfl ?_))))))
    exact r1_ hq_ rfl (by rw [decM_t hx hk1 hk2])
 ·refine tq_ rfl (ltF rfl) (zl 13 rfl ?_)
  exact r1_ hq_ rfl (by rw [← decM_end,← show i = s.path.length by omega,hno])
end Go.Proofs.YtjdbopkbfkgpdaaGreatDoor
set_option linter.unusedSimpArgs false
set_option linter.unusedVariables false
namespace Go.Proofs.YtjdbopkbfkgpdaaGreatDoor
open Go Go.RowKit Rc
set_option maxRecDepth 10000 in
set_option maxHeartbeats 2000000 in
theorem unit_r (s:Sc) {B:Nat} (hB:∀ m∈s.lems,Fq m.v B) (hB2:B≤1000000000) (hl:s.lems.length≤1000000) {b:Nat} (hq:QOk s.q) (hd:∀ d∈s.path,DOk b s.q d) (hb:b≤1000000) (hpl:s.path.length≤1000) (r:Rw):Ctr Tryz.prog 113 [scV s,rwV r] (R.tup [afV (unitM s r).1,V.one (Leaf.val (.bool (unitM s r).2))]):=by
 refine bd_ Tryz.func113 Tryz.ntmps113 rfl (fun w0 A0=>?_)
 have hg:=hq.g;have hr:=hq.r;have hlo:=hr.lo;have hhi:=hr.hi
 have h1:=hg.i1;have h2:=hg.i3;have h3:=hg.u4;have h4:=hg.o1;have h5:=hg.o3
 refine zc 19 rfl ?_
 refine nz_ [so 2 (D.ptr 0 0),so 3 (D.ptr 1 0),so 4 (D.ptr 2 0),so 6 (D.ptr 3 0)] [hb_ 42 (scL s),hb_ 105 [Leaf.val (.int .i64 r.kind),Leaf.val (.int .i64 r.idx),Leaf.val (.int .i64 r.lo),Leaf.val (.int .i64 r.hi)],hb_ 36 [El.row tmE ([]),Leaf.val (.bool false),natL ([]),natL ([])],hb_ 26 [Leaf.val (.int .i64 ((s.q.g.inp:Nat):Int)),El.row afE s.q.g.us,El.row afE s.q.g.os]] rfl rfl ?_
 refine zc 3 rfl ?_
 by_cases h1:r.idx < 0
 ·refine tq_ rfl (ltT rfl) (zl 12 rfl (nf_ [0,1,3] [so 4 _] [none,none,_,none] rfl rfl rfl (zc 6 rfl ?_)))
  exact r2_ hq_ rfl (by unfold unitM;rw [if_pos h1];exact fZ_ret _ _ rfl)
 ·refine tq_ rfl (ltF rfl) (zl 5 rfl (tq_ rfl (jln rfl) ?_))
  by_cases h2:(s.q.g.us.length:Int)≤r.idx
  ·refine tq_ rfl (geT rfl) (zl 5 rfl (nf_ [0,1,3] [so 4 _] [none,none,_,none] rfl rfl rfl (zc 6 rfl ?_)))
   exact r2_ hq_ rfl (by unfold unitM;rw [if_neg h1,List.getElem?_eq_none (by omega)];exact fZ_ret _ _ rfl)
  ·refine tq_ rfl (geF rfl) (zl 7 rfl ?_)
   obtain ⟨p,hp0⟩:∃ p,s.q.g.us[r.idx.toNat]? = some p:=⟨_,List.getElem?_eq_getElem (by omega)⟩
   have hp:FL 4 (s.q.g.inp + s.q.g.us.length) p:=(hq.g.us _ p hp0).fl.mono (by omega) (by omega)
   have hv:FL 2 (s.q.g.inp + s.q.g.us.length) (fV (s.q.g.inp + r.idx.toNat)):=FL.v (by omega)
   haveI hlq:Br (lowQ s r) B:=lem_br hB
   haveI htq:Br (topQ s r) B:=lem_br hB
   have hnl:FL B (s.q.g.inp + s.q.g.us.length) (fN (lowQ s r)):=FL.n hlq
   have hnt:FL B (s.q.g.inp + s.q.g.us.length) (fN (topQ s r)):=FL.n htq
   have g3:=hp.sub hnl
   have g5:=FL.sc (c:=topQ s r) g3
   have g6:=FL.sc (c:=topQ s r - lowQ s r) hv
   haveI:=hp.fm (by omega);haveI:=hp.cb
   haveI:=hv.fm (by omega);haveI:=hv.cb
   haveI:=hnl.fm (by omega);haveI:=hnl.cb
   haveI:=hnt.fm (by omega);haveI:=hnt.cb
   haveI:=g3.fm (by omega);haveI:=g3.cb
   haveI:=g5.fm (by omega);haveI:=g5.cb
   haveI:=g6.fm (by omega);haveI:=g6.cb
   refine dr_ 2 [(12,4),(13,5),(14,4),(15,5)] [4,5] (dz 4 rfl (kq_ rfl (jad (s.q.g.inp + r.idx.toNat) rfl) (kc_ fn112 rfl (rvar (s.q.g.inp + r.idx.toNat) (by omega)) (dz 4 rfl (kq_ rfl (jix r.idx.toNat hp0 rfl (by omega)) (kq_ rfl (jlr rfl) (dz 4 rfl (DK_nil (za 2 rfl ?_)))))))))
   refine nf_ [3] [so 2 _,so 3 _,so 4 _,so 7 (D.ptr 4 0),so 8 (D.ptr 5 0)] [_,_,_,none,hb_ 36 (afL (fV (s.q.g.inp + r.idx.toNat))),hb_ 36 (afL p)] rfl rfl rfl (zc 6 rfl (tc_ fn151 rfl (lemma_r s hB (by omega) hl r.lo r.idx false) (zl 9 rfl ?_)))
   refine nz_ [so 2 _,so 3 _,so 4 _,so 7 _,so 8 _,so 9 (D.ptr 6 0),so 10 (D.bool (lowB s r))] [_,_,_,none,_,_,hb_ 34 (qL (lowQ s r))] rfl rfl (zc 6 rfl (tc_ fn151 rfl (lemma_r s hB (by omega) hl r.hi r.idx true) (zl 9 rfl ?_)))
   refine nz_ [so 2 _,so 3 _,so 4 _,so 7 _,so 8 _,so 9 _,so 10 _,so 11 (D.ptr 7 0),so 12 (D.bool (topB s r))] [_,_,_,none,_,_,_,hb_ 34 (qL (topQ s r))] rfl rfl (zc 1 rfl (tc_ fn33 rfl (rqof (-1) (by decide) (by decide)) (zl 4 rfl ?_)))
   refine mt_ [so 2 (D.ptr 0 0),so 3 (D.ptr 1 0),so 4 (D.ptr 2 0),so 7 (D.ptr 4 0),so 8 (D.ptr 5 0),so 9 (D.ptr 6 0),so 10 (D.bool (lowB s r)),so 11 (D.ptr 7 0),so 12 (D.bool (topB s r)),so 13 (D.ptr 8 0),so 14 (D.bool (onB s r))] [hb_ 42 (scL s),hb_ 105 [Leaf.val (.int .i64 r.kind),Leaf.val (.int .i64 r.idx),Leaf.val (.int .i64 r.lo),Leaf.val (.int .i64 r.hi)],hb_ 36 [El.row tmE ([]),Leaf.val (.bool false),natL ([]),natL ([])],none,hb_ 36 (afL (fV (s.q.g.inp + r.idx.toNat))),hb_ 36 (afL p),hb_ 34 (qL (lowQ s r)),hb_ 34 (qL (topQ s r)),hb_ 34 (qL (((-1):Int):Rat))] ?_ ?_
   ·refine zc 5 rfl ?_
    refine two_ rfl (fun hb68=>?_) (fun hb68=>?_)
    ·refine zl 18 rfl (is_ (onB s r) rfl (by simp [onB, *]) (zl 2 rfl ?_))
     exact mx_ rfl
    ·refine zl 4 rfl ?_
     refine two_ rfl (fun hb72=>?_) (fun hb72=>?_)
     ·refine zl 8 rfl ?_
      refine two_ rfl (fun hb80=>?_) (fun hb80=>?_)
      ·refine zl 6 rfl (is_ (onB s r) rfl (by simp [onB, *]) (zl 2 rfl ?_))
       exact mx_ rfl
      ·refine zl 1 rfl (tc_ fn63 rfl (rqsign (qOf ((lowQ s r))) ((lowQ s r)) (qOf_q _) (Br.use (by omega))) (zl 4 rfl (is_ (onB s r) rfl (by simp [onB, *]) (zl 2 rfl ?_))))
       exact mx_ rfl
     ·refine zl 3 rfl (tc_ fn78 rfl (decided_r s hq hd (by omega) hpl 1 r.idx) (zl 2 rfl ?_))
      refine two_ rfl (fun hb78=>?_) (fun hb78=>?_)
      ·refine zl 2 rfl ?_
       refine two_ rfl (fun hb80=>?_) (fun hb80=>?_)
       ·refine zl 6 rfl (is_ (onB s r) rfl (by simp [onB, *]) (zl 2 rfl ?_))
        exact mx_ rfl
       ·refine zl 1 rfl (tc_ fn63 rfl (rqsign (qOf ((lowQ s r))) ((lowQ s r)) (qOf_q _) (Br.use (by omega))) (zl 4 rfl (is_ (onB s r) rfl (by simp [onB, *]) (zl 2 rfl ?_))))
        exact mx_ rfl
      ·refine zl 8 rfl (is_ (onB s r) rfl (by simp [onB, *]) (zl 2 rfl ?_))
       exact mx_ rfl
   ·refine mt_ [so 3 (D.ptr 1 0),so 4 (D.ptr 2 0),so 7 (D.ptr 4 0),so 8 (D.ptr 5 0),so 9 (D.ptr 6 0),so 10 (D.bool (lowB s r)),so 11 (D.ptr 7 0),so 12 (D.bool (topB s r)),so 13 (D.ptr 8 0),so 14 (D.bool (onB s r)),so 15 (D.bool (offB s r))] [hb_ 42 (scL s),hb_ 105 [Leaf.val (.int .i64 r.kind),Leaf.val (.int .i64 r.idx),Leaf.val (.int .i64 r.lo),Leaf.val (.int .i64 r.hi)],hb_ 36 [El.row tmE ([]),Leaf.val (.bool false),natL ([]),natL ([])],none,hb_ 36 (afL (fV (s.q.g.inp + r.idx.toNat))),hb_ 36 (afL p),hb_ 34 (qL (lowQ s r)),hb_ 34 (qL (topQ s r)),hb_ 34 (qL (((-1):Int):Rat))] ?_ ?_
    ·refine zc 5 rfl ?_
     refine two_ rfl (fun hb90=>?_) (fun hb90=>?_)
     ·refine zl 18 rfl (is_ (offB s r) rfl (by simp [offB, *]) (zl 2 rfl ?_))
      exact mx_ rfl
     ·refine zl 4 rfl ?_
      refine two_ rfl (fun hb94=>?_) (fun hb94=>?_)
      ·refine zl 8 rfl ?_
       refine two_ rfl (fun hb102=>?_) (fun hb102=>?_)
       ·refine zl 6 rfl (is_ (offB s r) rfl (by simp [offB, *]) (zl 2 rfl ?_))
        exact mx_ rfl
       ·refine zl 1 rfl (tc_ fn63 rfl (rqsign (qOf ((topQ s r))) ((topQ s r)) (qOf_q _) (Br.use (by omega))) (zl 4 rfl (is_ (offB s r) rfl (by simp [offB, *]) (zl 2 rfl ?_))))
        exact mx_ rfl
      ·refine zl 3 rfl (tc_ fn78 rfl (decided_r s hq hd (by omega) hpl 2 r.idx) (zl 2 rfl ?_))
       refine two_ rfl (fun hb100=>?_) (fun hb100=>?_)
       ·refine zl 2 rfl ?_
        refine two_ rfl (fun hb102=>?_) (fun hb102=>?_)
        ·refine zl 6 rfl (is_ (offB s r) rfl (by simp [offB, *]) (zl 2 rfl ?_))
         exact mx_ rfl
        ·refine zl 1 rfl (tc_ fn63 rfl (rqsign (qOf ((topQ s r))) ((topQ s r)) (qOf_q _) (Br.use (by omega))) (zl 4 rfl (is_ (offB s r) rfl (by simp [offB, *]) (zl 2 rfl ?_))))
         exact mx_ rfl
       ·refine zl 8 rfl (is_ (offB s r) rfl (by simp [offB, *]) (zl 2 rfl ?_))
        exact mx_ rfl
    ·refine zc 18 rfl ?_
     by_cases hk5:r.kind = 5
     ·refine tq_ rfl (eqT rfl) (zl 4 rfl (nf_ [0,5,6,7,8] [so 3 _,so 4 _,so 7 _,so 16 (D.ptr 9 0)] [none,_,_,none,_,none,none,none,none,hb_ 36 [El.row tmE ([]),Leaf.val (.bool false),natL ([]),natL ([])]] rfl rfl rfl (dr_ 0 [(9,9)] [9] (dz 5 rfl ?_))))
      refine ktw_ rfl (fun hb118=>?_) (fun hb118=>?_)
      ·refine dz 6 rfl (DK_nil (za 4 rfl (nf_ [1,4] [so 4 _,so 16 _,so 17 (D.bool false)] [none,none,_,none,none,none,none,none,none,hb_ 36 (afL (fV (s.q.g.inp + r.idx.toNat)))] rfl rfl rfl (zc 13 rfl ?_))))
       exact r2_ hq_ rfl (by rw [unitM_f h1 hp0 (by unfold unitF;rw [if_pos hk5];(try simp at hc212);simp [*])];exact fZ_ret _ _ rfl)
      ·refine dz 6 rfl (DK_nil (za 4 rfl (nf_ [1,4] [so 4 _,so 16 _,so 17 (D.bool (r.hi == 0))] [none,none,_,none,none,none,none,none,none,hb_ 36 (afL (fV (s.q.g.inp + r.idx.toNat)))] rfl rfl rfl (zc 5 rfl ?_))))
       refine Tc_cond rfl (fun hc212=>?_) (fun hc212=>?_)
       ·refine zc 7 rfl ?_
        exact r2_ hq_ rfl (by rw [unitM_f h1 hp0 (by unfold unitF;rw [if_pos hk5];(try simp at hc212);simp [*])];exact fZ_ret _ _ rfl)
       ·refine zc 9 rfl ?_
        exact r2_ hq_ rfl (by rw [unitM_t h1 hp0 (show unitF s r p = ((fV (s.q.g.inp + r.idx.toNat)),true) from by unfold unitF;rw [if_pos hk5];(try simp at hc212);simp [*])] <;> rfl)
     ·refine tq_ rfl (eqF rfl) (zl 5 rfl ?_)
      refine nf_ [0] [so 3 _,so 4 _,so 7 _,so 8 _,so 9 _,so 10 _,so 11 _,so 12 _,so 13 (D.ptr 8 0),so 14 (D.bool (onB s r)),so 15 (D.bool (offB s r)),so 16 (D.ptr 9 0),so 17 (D.bool false),so 111 (D.val (.int .i64 r.kind))] [none,_,_,none,_,_,_,_,hb_ 34 (qL (((-1):Int):Rat)),hb_ 36 [El.row tmE ([]),Leaf.val (.bool false),natL ([]),natL ([])]] rfl rfl rfl ?_
      refine zc 1 rfl ?_
      by_cases hk6:r.kind = 6
      ·refine tq_ rfl (eqT rfl) (zl 4 rfl (dr_ 0 [(11,9)] [9] (dz 2 rfl (kc_ fn73 rfl (rsub7 (fV (s.q.g.inp + r.idx.toNat)) p (by omega) (by omega) (by omega)) (dz 4 rfl ?_)))))
       refine ktw_ rfl (fun hb131=>?_) (fun hb131=>?_)
       ·refine dz 6 rfl (DK_nil (za 4 rfl (nf_ [1,4,5,6,7,8] [so 4 _,so 16 _,so 17 _] [none,none,_,none,none,none,none,none,none,hb_ 36 (afL (fSub (fV (s.q.g.inp + r.idx.toNat)) p))] rfl rfl rfl (zc 13 rfl ?_))))
        exact r2_ hq_ rfl (by rw [unitM_f h1 hp0 (by unfold unitF;rw [if_neg hk5,if_pos hk6];(try simp at hc212);simp [*])];exact fZ_ret _ _ rfl)
       ·refine dz 6 rfl (DK_nil (za 4 rfl (nf_ [1,4,5,6,7,8] [so 4 _,so 16 _,so 17 (D.bool (r.hi == 0))] [none,none,_,none,none,none,none,none,none,hb_ 36 (afL (fSub (fV (s.q.g.inp + r.idx.toNat)) p))] rfl rfl rfl (zc 5 rfl ?_))))
        refine Tc_cond rfl (fun hc212=>?_) (fun hc212=>?_)
        ·refine zc 7 rfl ?_
         exact r2_ hq_ rfl (by rw [unitM_f h1 hp0 (by unfold unitF;rw [if_neg hk5,if_pos hk6];(try simp at hc212);simp [*])];exact fZ_ret _ _ rfl)
        ·refine zc 9 rfl ?_
         exact r2_ hq_ rfl (by rw [unitM_t h1 hp0 (show unitF s r p = (fSub (fV (s.q.g.inp + r.idx.toNat)) p,true) from by unfold unitF;rw [if_neg hk5,if_pos hk6];(try simp at hc212);simp [*])] <;> rfl)
      ·refine tq_ rfl (eqF rfl) (zl 5 rfl (nz_ [so 3 _,so 4 _,so 7 _,so 8 _,so 9 _,so 10 _,so 11 _,so 12 _,so 13 _,so 14 _,so 15 _,so 16 _,so 17 _,so 111 _] [none,_,_,none,_,_,_,_,_,_] rfl rfl (zc 1 rfl ?_)))
       by_cases hk7:r.kind = 7
       ·refine tq_ rfl (eqT rfl) (zl 19 rfl ?_)
        refine Tc_cond rfl (fun hc212=>?_) (fun hc212=>?_)
        ·refine zc 1 rfl (nf_ [1,4,5,6,7,8,9] [so 4 _] [none,none,_,none,none,none,none,none,none,none] rfl rfl rfl (zc 6 rfl ?_))
         exact r2_ hq_ rfl (by rw [unitM_f h1 hp0 (by unfold unitF;rw [if_neg hk5,if_neg hk6,if_pos hk7];(try simp at hc212);simp [*])];exact fZ_ret _ _ rfl)
        ·refine zc 9 rfl ?_
         exact r2_ hq_ rfl (by rw [unitM_t h1 hp0 (show unitF s r p = (p,true) from by unfold unitF;rw [if_neg hk5,if_neg hk6,if_pos hk7];(try simp at hc212);simp [*])] <;> rfl)
       ·refine tq_ rfl (eqF rfl) (zl 5 rfl (nz_ [so 3 _,so 4 _,so 7 _,so 8 _,so 9 _,so 10 _,so 11 _,so 12 _,so 13 _,so 14 _,so 15 _,so 16 _,so 17 _,so 111 _] [none,_,_,none,_,_,_,_,_,_] rfl rfl (zc 1 rfl ?_)))
        by_cases hk8:r.kind = 8
        ·refine tq_ rfl (eqT rfl) (zl 7 rfl (tc_ fn73 rfl (rsub7 p (fV (s.q.g.inp + r.idx.toNat)) (by omega) (by omega) (by omega)) (zl 8 rfl (nf_ [1,4,5,6,7,8] [so 4 _,so 16 _,so 17 (D.bool (onB s r))] [none,none,_,none,none,none,none,none,none,hb_ 36 (afL (fSub p (fV (s.q.g.inp + r.idx.toNat))))] rfl rfl rfl (zc 5 rfl ?_)))))
         refine Tc_cond rfl (fun hc212=>?_) (fun hc212=>?_)
         ·refine zc 7 rfl ?_
          exact r2_ hq_ rfl (by rw [unitM_f h1 hp0 (by unfold unitF;rw [if_neg hk5,if_neg hk6,if_neg hk7,if_pos hk8];(try simp at hc212);simp [*])];exact fZ_ret _ _ rfl)
         ·refine zc 9 rfl ?_
          exact r2_ hq_ rfl (by rw [unitM_t h1 hp0 (show unitF s r p = (fSub p (fV (s.q.g.inp + r.idx.toNat)),true) from by unfold unitF;rw [if_neg hk5,if_neg hk6,if_neg hk7,if_pos hk8];(try simp at hc212);simp [*])] <;> rfl)
        ·refine tq_ rfl (eqF rfl) (zl 5 rfl (nz_ [so 3 _,so 4 _,so 7 _,so 8 _,so 9 _,so 10 _,so 11 _,so 12 _,so 13 _,so 15 _,so 16 _,so 17 _,so 111 _] [none,_,_,none,_,_,_,_,_,_] rfl rfl (zc 1 rfl ?_)))
         by_cases hk9:r.kind = 9
         ·refine tq_ rfl (eqT rfl) (zl 7 rfl (tc_ fn48 rfl (rscale_w p (((-1):Int):Rat) (by omega) (by omega)) (zl 8 rfl (nf_ [1,4,5,6,7,8] [so 4 _,so 16 _,so 17 (D.bool (offB s r))] [none,none,_,none,none,none,none,none,none,hb_ 36 (afL (fSc p (((-1):Int):Rat)))] rfl rfl rfl (zc 5 rfl ?_)))))
          refine Tc_cond rfl (fun hc212=>?_) (fun hc212=>?_)
          ·refine zc 7 rfl ?_
           exact r2_ hq_ rfl (by rw [unitM_f h1 hp0 (by unfold unitF;rw [if_neg hk5,if_neg hk6,if_neg hk7,if_neg hk8,if_pos hk9];(try simp at hc212);simp [*])];exact fZ_ret _ _ rfl)
          ·refine zc 9 rfl ?_
           exact r2_ hq_ rfl (by rw [unitM_t h1 hp0 (show unitF s r p = (fSc p ((-1:Int):Rat),true) from by unfold unitF;rw [if_neg hk5,if_neg hk6,if_neg hk7,if_neg hk8,if_pos hk9];(try simp at hc212);simp [*])] <;> rfl)
         ·refine tq_ rfl (eqF rfl) (zl 5 rfl (nz_ [so 3 _,so 4 _,so 7 _,so 8 _,so 9 _,so 10 _,so 11 _,so 12 _,so 13 _,so 15 _,so 16 _,so 17 _,so 111 _] [none,_,_,none,_,_,_,_,_,_] rfl rfl (zc 1 rfl ?_)))
          by_cases hk10:r.kind = 10
          ·refine tq_ rfl (eqT rfl) (zl 7 rfl (tc_ fn48 rfl (rscale_w (fV (s.q.g.inp + r.idx.toNat)) (((-1):Int):Rat) (by omega) (by omega)) (zl 8 rfl (nf_ [1,4,5,6,7,8] [so 4 _,so 16 _,so 17 (D.bool (offB s r))] [none,none,_,none,none,none,none,none,none,hb_ 36 (afL (fSc (fV (s.q.g.inp + r.idx.toNat)) (((-1):Int):Rat)))] rfl rfl rfl (zc 5 rfl ?_)))))
           refine Tc_cond rfl (fun hc212=>?_) (fun hc212=>?_)
           ·refine zc 7 rfl ?_
            exact r2_ hq_ rfl (by rw [unitM_f h1 hp0 (by unfold unitF;rw [if_neg hk5,if_neg hk6,if_neg hk7,if_neg hk8,if_neg hk9,if_pos hk10];(try simp at hc212);simp [*])];exact fZ_ret _ _ rfl)
           ·refine zc 9 rfl ?_
            exact r2_ hq_ rfl (by rw [unitM_t h1 hp0 (show unitF s r p = (fSc (fV (s.q.g.inp + r.idx.toNat)) ((-1:Int):Rat),true) from by unfold unitF;rw [if_neg hk5,if_neg hk6,if_neg hk7,if_neg hk8,if_neg hk9,if_pos hk10];(try simp at hc212);simp [*])] <;> rfl)
          ·refine tq_ rfl (eqF rfl) (zl 5 rfl (nf_ [8] [so 3 _,so 4 _,so 7 _,so 8 _,so 9 _,so 10 _,so 11 _,so 12 _,so 16 _,so 17 _,so 111 _] [none,_,_,none,_,_,_,_,none,_] rfl rfl rfl (zc 1 rfl ?_)))
           by_cases hk11:r.kind = 11
           ·refine tq_ rfl (eqT rfl) (zl 4 rfl (dr_ 0 [(10,9)] [9] (dz 2 rfl (kc_ fn98 rfl (rnumber (lowQ s r)) (kc_ fn73 rfl (rsub7 p (fN (lowQ s r)) (by omega) (by omega) (by omega)) (dz 2 rfl ?_))))))
            refine ktw_ rfl (fun hb165=>?_) (fun hb165=>?_)
            ·refine dz 6 rfl (DK_nil (za 4 rfl (nf_ [1,4,5,6,7] [so 4 _,so 16 _,so 17 _] [none,none,_,none,none,none,none,none,none,hb_ 36 (afL (fSub p (fN (lowQ s r))))] rfl rfl rfl (zc 13 rfl ?_))))
             exact r2_ hq_ rfl (by rw [unitM_f h1 hp0 (by unfold unitF;rw [if_neg hk5,if_neg hk6,if_neg hk7,if_neg hk8,if_neg hk9,if_neg hk10,if_pos hk11];(try simp at hc212);simp [*])];exact fZ_ret _ _ rfl)
            ·refine dz 6 rfl (DK_nil (za 4 rfl (nf_ [1,4,5,6,7] [so 4 _,so 16 _,so 17 (D.bool (r.hi == 0))] [none,none,_,none,none,none,none,none,none,hb_ 36 (afL (fSub p (fN (lowQ s r))))] rfl rfl rfl (zc 5 rfl ?_))))
             refine Tc_cond rfl (fun hc212=>?_) (fun hc212=>?_)
             ·refine zc 7 rfl ?_
              exact r2_ hq_ rfl (by rw [unitM_f h1 hp0 (by unfold unitF;rw [if_neg hk5,if_neg hk6,if_neg hk7,if_neg hk8,if_neg hk9,if_neg hk10,if_pos hk11];(try simp at hc212);simp [*])];exact fZ_ret _ _ rfl)
             ·refine zc 9 rfl ?_
              exact r2_ hq_ rfl (by rw [unitM_t h1 hp0 (show unitF s r p = (fSub p (fN (lowQ s r)),true) from by unfold unitF;rw [if_neg hk5,if_neg hk6,if_neg hk7,if_neg hk8,if_neg hk9,if_neg hk10,if_pos hk11];(try simp at hc212);simp [*])] <;> rfl)
           ·refine tq_ rfl (eqF rfl) (zl 5 rfl (nz_ [so 3 _,so 4 _,so 7 _,so 8 _,so 9 _,so 10 _,so 11 _,so 12 _,so 16 _,so 17 _,so 111 _] [none,_,_,none,_,_,_,_,none,_] rfl rfl (zc 1 rfl ?_)))
            by_cases hk12:r.kind = 12
            ·refine tq_ rfl (eqT rfl) (zl 4 rfl (dr_ 0 [(10,9)] [9] (dz 1 rfl (kc_ fn98 rfl (rnumber (topQ s r)) (dz 1 rfl (kc_ fn73 rfl (rsub7 (fN (topQ s r)) p (by omega) (by omega) (by omega)) (dz 2 rfl ?_)))))))
             refine ktw_ rfl (fun hb177=>?_) (fun hb177=>?_)
             ·refine dz 6 rfl (DK_nil (za 4 rfl (nf_ [1,4,5,6,7] [so 4 _,so 16 _,so 17 _] [none,none,_,none,none,none,none,none,none,hb_ 36 (afL (fSub (fN (topQ s r)) p))] rfl rfl rfl (zc 13 rfl ?_))))
              exact r2_ hq_ rfl (by rw [unitM_f h1 hp0 (by unfold unitF;rw [if_neg hk5,if_neg hk6,if_neg hk7,if_neg hk8,if_neg hk9,if_neg hk10,if_neg hk11,if_pos hk12];(try simp at hc212);simp [*])];exact fZ_ret _ _ rfl)
             ·refine dz 6 rfl (DK_nil (za 4 rfl (nf_ [1,4,5,6,7] [so 4 _,so 16 _,so 17 (D.bool (r.lo == 0))] [none,none,_,none,none,none,none,none,none,hb_ 36 (afL (fSub (fN (topQ s r)) p))] rfl rfl rfl (zc 5 rfl ?_))))
              refine Tc_cond rfl (fun hc212=>?_) (fun hc212=>?_)
              ·refine zc 7 rfl ?_
               exact r2_ hq_ rfl (by rw [unitM_f h1 hp0 (by unfold unitF;rw [if_neg hk5,if_neg hk6,if_neg hk7,if_neg hk8,if_neg hk9,if_neg hk10,if_neg hk11,if_pos hk12];(try simp at hc212);simp [*])];exact fZ_ret _ _ rfl)
              ·refine zc 9 rfl ?_
               exact r2_ hq_ rfl (by rw [unitM_t h1 hp0 (show unitF s r p = (fSub (fN (topQ s r)) p,true) from by unfold unitF;rw [if_neg hk5,if_neg hk6,if_neg hk7,if_neg hk8,if_neg hk9,if_neg hk10,if_neg hk11,if_pos hk12];(try simp at hc212);simp [*])] <;> rfl)
            ·refine tq_ rfl (eqF rfl) (zl 5 rfl (nf_ [1] [so 4 _,so 7 _,so 8 _,so 9 _,so 10 _,so 11 _,so 12 _,so 16 _,so 17 _,so 111 _] [none,none,_,none,_,_,_,_,none,_] rfl rfl rfl (zc 1 rfl ?_)))
             by_cases hk13:r.kind = 13
             ·refine tq_ rfl (eqT rfl) (zl 5 rfl (dr_ 1 [(6,10),(7,10)] [10] (dz 2 rfl (kc_ fn98 rfl (rnumber (lowQ s r)) (kc_ fn73 rfl (rsub7 p (fN (lowQ s r)) (by omega) (by omega) (by omega)) (dz 1 rfl (kc_ fn48 rfl (rscale_w (fSub p (fN (lowQ s r))) (topQ s r) (by omega) (by omega)) (dz 2 rfl (DK_nil ?_)))))))))
              refine za 1 rfl (nf_ [5] [so 4 _,so 7 _,so 9 _,so 10 _,so 11 _,so 12 _,so 16 _,so 18 (D.ptr 10 0)] [none,none,_,none,_,none,_,_,none,_,hb_ 36 (afL (fSc (fSub p (fN (lowQ s r))) (topQ s r)))] rfl rfl rfl (dr_ 0 [(21,9)] [9] (dz 4 rfl ?_)))
              refine kc_ fn59 rfl (rqsub (qOf ((topQ s r))) ((topQ s r)) (qOf_q _) (Br.use (by omega)) (qOf ((lowQ s r))) ((lowQ s r)) (qOf_q _) (Br.use (by omega))) (kc_ fn48 rfl (rscale_w (fV (s.q.g.inp + r.idx.toNat)) (((topQ s r)) - ((lowQ s r))) (by omega) (by omega)) ?_)
              refine kc_ fn73 rfl (rsub7 (fSc (fSub p (fN (lowQ s r))) (topQ s r)) (fSc (fV (s.q.g.inp + r.idx.toNat)) (((topQ s r)) - ((lowQ s r)))) (by omega) (by omega) (by omega)) (dz 2 rfl ?_)
              refine ktw_ rfl (fun hb198=>?_) (fun hb198=>?_)
              ·refine dz 14 rfl (DK_nil (za 4 rfl (nf_ [4,6,7,10] [so 4 _,so 16 _,so 17 (D.bool false)] [none,none,_,none,none,none,none,none,none,hb_ 36 (afL (fSub (fSc (fSub p (fN (lowQ s r))) (topQ s r)) (fSc (fV (s.q.g.inp + r.idx.toNat)) (((topQ s r)) - ((lowQ s r)))))),none] rfl rfl rfl (zc 13 rfl ?_))))
               exact r2_ hq_ rfl (by rw [unitM_f h1 hp0 (by unfold unitF;rw [if_neg hk5,if_neg hk6,if_neg hk7,if_neg hk8,if_neg hk9,if_neg hk10,if_neg hk11,if_neg hk12,if_pos hk13];(try simp at hc212);simp [*])];exact fZ_ret _ _ rfl)
              ·refine dz 3 rfl ?_
               refine ktw_ rfl (fun hb201=>?_) (fun hb201=>?_)
               ·refine dz 11 rfl (DK_nil (za 4 rfl (nf_ [4,6,7,10] [so 4 _,so 16 _,so 17 (D.bool false)] [none,none,_,none,none,none,none,none,none,hb_ 36 (afL (fSub (fSc (fSub p (fN (lowQ s r))) (topQ s r)) (fSc (fV (s.q.g.inp + r.idx.toNat)) (((topQ s r)) - ((lowQ s r)))))),none] rfl rfl rfl (zc 13 rfl ?_))))
                exact r2_ hq_ rfl (by rw [unitM_f h1 hp0 (by unfold unitF;rw [if_neg hk5,if_neg hk6,if_neg hk7,if_neg hk8,if_neg hk9,if_neg hk10,if_neg hk11,if_neg hk12,if_pos hk13];(try simp at hc212);simp [*])];exact fZ_ret _ _ rfl)
               ·refine dz 1 rfl (kc_ fn63 rfl (rqsign (qOf ((lowQ s r))) ((lowQ s r)) (qOf_q _) (Br.use (by omega))) (dz 3 rfl ?_))
                refine ktw_ rfl (fun hb206=>?_) (fun hb206=>?_)
                ·refine dz 6 rfl (DK_nil (za 4 rfl (nf_ [4,6,7,10] [so 4 _,so 16 _,so 17 (D.bool false)] [none,none,_,none,none,none,none,none,none,hb_ 36 (afL (fSub (fSc (fSub p (fN (lowQ s r))) (topQ s r)) (fSc (fV (s.q.g.inp + r.idx.toNat)) (((topQ s r)) - ((lowQ s r)))))),none] rfl rfl rfl (zc 13 rfl ?_))))
                 exact r2_ hq_ rfl (by rw [unitM_f h1 hp0 (by unfold unitF;rw [if_neg hk5,if_neg hk6,if_neg hk7,if_neg hk8,if_neg hk9,if_neg hk10,if_neg hk11,if_neg hk12,if_pos hk13];(try simp at hc212);simp [*])];exact fZ_ret _ _ rfl)
                ·refine dz 1 rfl (kc_ fn63 rfl (rqsign (qOf ((topQ s r))) ((topQ s r)) (qOf_q _) (Br.use (by omega))) (dz 4 rfl (DK_nil (za 4 rfl ?_))))
                 refine nf_ [4,6,7,10] [so 4 _,so 16 _,so 17 (D.bool (decide (0 < (sg ((topQ s r))))))] [none,none,_,none,none,none,none,none,none,hb_ 36 (afL (fSub (fSc (fSub p (fN (lowQ s r))) (topQ s r)) (fSc (fV (s.q.g.inp + r.idx.toNat)) (((topQ s r)) - ((lowQ s r)))))),none] rfl rfl rfl (zc 5 rfl ?_)
                 refine Tc_cond rfl (fun hc212=>?_) (fun hc212=>?_)
                 ·refine zc 7 rfl ?_
                  exact r2_ hq_ rfl (by rw [unitM_f h1 hp0 (by unfold unitF;rw [if_neg hk5,if_neg hk6,if_neg hk7,if_neg hk8,if_neg hk9,if_neg hk10,if_neg hk11,if_neg hk12,if_pos hk13];(try simp at hc212);simp [*])];exact fZ_ret _ _ rfl)
                 ·refine zc 9 rfl ?_
                  exact r2_ hq_ rfl (by rw [unitM_t h1 hp0 (show unitF s r p = (fSub (fSc (fSub p (fN (lowQ s r))) (topQ s r)) (fSc (fV (s.q.g.inp + r.idx.toNat)) (topQ s r - lowQ s r)),true) from by unfold unitF;rw [if_neg hk5,if_neg hk6,if_neg hk7,if_neg hk8,if_neg hk9,if_neg hk10,if_neg hk11,if_neg hk12,if_pos hk13];(try simp at hc212);simp [*])] <;> rfl)
             ·refine tq_ rfl (eqF rfl) (zl 9 rfl (nf_ [4,5,6,7] [so 4 _,so 16 _,so 17 _] [none,none,_,none,none,none,none,none,none,_] rfl rfl rfl (zc 13 rfl ?_)))
              exact r2_ hq_ rfl (by rw [unitM_f h1 hp0 (by unfold unitF;rw [if_neg hk5,if_neg hk6,if_neg hk7,if_neg hk8,if_neg hk9,if_neg hk10,if_neg hk11,if_neg hk12,if_neg hk13])];exact fZ_ret _ _ rfl)
end Go.Proofs.YtjdbopkbfkgpdaaGreatDoor
set_option linter.unusedSimpArgs false
set_option linter.unusedVariables false
namespace Go.Proofs.YtjdbopkbfkgpdaaGreatDoor
open Go Go.RowKit Rc
set_option maxRecDepth 10000 in
set_option maxHeartbeats 2000000 in
theorem form_r (s:Sc) {B:Nat} (hB:∀ m∈s.lems,Fq m.v B) (hB2:B≤1000000000) (hl:s.lems.length≤1000000) {b:Nat} (hq:QOk s.q) (hd:∀ d∈s.path,DOk b s.q d) (hb:b≤1000000) (hpl:s.path.length≤1000) (r:Rw):Ctr Tryz.prog 72 [scV s,rwV r] (R.tup [afV (formM s r).1,V.one (Leaf.val (.bool (formM s r).2))]):=by
 refine bd_ Tryz.func72 Tryz.ntmps72 rfl (fun w0 A0=>?_)
 have hg:=hq.g;have hr:=hq.r;have hlo:=hr.lo;have hhi:=hr.hi
 have h1:=hg.i1;have h2:=hg.i3;have h3:=hg.u4;have h4:=hg.o1;have h5:=hg.o3
 refine zc 13 rfl (tc_ fn14 rfl (qvalid_r s.q hq) (zl 11 rfl ?_))
 by_cases h5:5≤r.kind
 ·refine tq_ rfl (geT rfl) (zl 7 rfl (tc_ fn113 rfl (unit_r s hB (by omega) (by omega) hq hd (by omega) (by omega) r) (zl 6 rfl ?_)))
  exact r2_ hq_ rfl (by unfold formM;rw [if_pos h5] <;> rfl)
 ·refine tq_ rfl (geF rfl) (zl 10 rfl ?_)
  by_cases ha:r.lo≠0
  ·refine tq_ rfl (neT rfl) (zl 14 rfl ?_)
   have h0:r.lo≠0 ∨ r.hi≠0 ∨ r.idx < 0:=.inl ha
   refine zc 6 rfl ?_
   exact r2_ hq_ rfl (by unfold formM;rw [if_neg h5,if_pos h0];exact fZ_ret _ _ rfl)
  ·refine tq_ rfl (neF rfl) (zl 3 rfl ?_)
   by_cases hb_:r.hi≠0
   ·refine tq_ rfl (neT rfl) (zl 10 rfl ?_)
    have h0:r.lo≠0 ∨ r.hi≠0 ∨ r.idx < 0:=.inr (.inl hb_)
    refine zc 6 rfl ?_
    exact r2_ hq_ rfl (by unfold formM;rw [if_neg h5,if_pos h0];exact fZ_ret _ _ rfl)
   ·refine tq_ rfl (neF rfl) (zl 4 rfl ?_)
    by_cases hc_:r.idx < 0
    ·refine tq_ rfl (ltT rfl) (zl 5 rfl ?_)
     have h0:r.lo≠0 ∨ r.hi≠0 ∨ r.idx < 0:=.inr (.inr hc_)
     refine zc 6 rfl ?_
     exact r2_ hq_ rfl (by unfold formM;rw [if_neg h5,if_pos h0];exact fZ_ret _ _ rfl)
    ·refine tq_ rfl (ltF rfl) (zl 7 rfl ?_)
     have h0:¬ (r.lo≠0 ∨ r.hi≠0 ∨ r.idx < 0):=by omega
     refine zc 18 rfl ?_
     by_cases hk1:r.kind = 1
     ·refine tq_ rfl (eqT rfl) (zl 10 rfl (tq_ rfl (jln rfl) ?_))
      by_cases hin:r.idx.toNat < s.q.r.lo.length
      ·refine tq_ rfl (ltT rfl) (zl 4 rfl ?_)
       obtain ⟨c,hc⟩:∃ c,s.q.r.lo[r.idx.toNat]? = some c:=⟨_,List.getElem?_eq_getElem (by omega)⟩
       obtain ⟨c2,hc2⟩:∃ c,s.q.r.hi[r.idx.toNat]? = some c:=⟨_,List.getElem?_eq_getElem (by omega)⟩
       have hcb:=hr.bd _ _ _ hc hc2
       have hv:FL 2 (s.q.g.inp + s.q.g.us.length) (fV r.idx.toNat):=FL.v (by omega)
       have hn:FL 8 (s.q.g.inp + s.q.g.us.length) (fN c):=FL.n (hcb.1.br.mono (by omega))
       haveI:=hv.fm (by omega);haveI:=hv.cb
       haveI:=hn.fm (by omega);haveI:=hn.cb
       refine dr_ 0 [(11,2)] [2] (dz 2 rfl (keq_ (D.val (.int .i64 ((r.idx.toNat:Nat):Int))) rfl (by rw [Int.toNat_of_nonneg (by omega)]) (kc_ fn112 rfl (rvar r.idx.toNat (by omega)) (dz 4 rfl (kq_ rfl (jix r.idx.toNat hc rfl (by omega)) (kq_ rfl (jlr rfl) (kc_ fn98 rfl (rnumber c) (kc_ fn73 rfl (rsub7 (fV r.idx.toNat) (fN c) (by omega) (by omega) (by omega)) (dz 2 rfl ?_)))))))))
       refine DK_nil (za 1 rfl ?_)
       exact r2_ hq_ rfl (by unfold formM;rw [if_neg h5,if_neg h0,if_pos hk1,hc] <;> rfl)
      ·refine tq_ rfl (ltF rfl) (zl 13 rfl ?_)
       exact r2_ hq_ rfl (by unfold formM;rw [if_neg h5,if_neg h0,if_pos hk1,List.getElem?_eq_none (by omega)];exact fZ_ret _ _ rfl)
     ·refine tq_ rfl (eqF rfl) (zl 6 rfl ?_)
      by_cases hk2:r.kind = 2
      ·refine tq_ rfl (eqT rfl) (zl 10 rfl (tq_ rfl (jln rfl) ?_))
       by_cases hin:r.idx.toNat < s.q.r.hi.length
       ·refine tq_ rfl (ltT rfl) (zl 4 rfl ?_)
        obtain ⟨c,hc⟩:∃ c,s.q.r.hi[r.idx.toNat]? = some c:=⟨_,List.getElem?_eq_getElem (by omega)⟩
        obtain ⟨c2,hc2⟩:∃ c,s.q.r.lo[r.idx.toNat]? = some c:=⟨_,List.getElem?_eq_getElem (by omega)⟩
        have hcb:=hr.bd _ _ _ hc2 hc
        have hv:FL 2 (s.q.g.inp + s.q.g.us.length) (fV r.idx.toNat):=FL.v (by omega)
        have hn:FL 8 (s.q.g.inp + s.q.g.us.length) (fN c):=FL.n (hcb.2.1.br.mono (by omega))
        haveI:=hv.fm (by omega);haveI:=hv.cb
        haveI:=hn.fm (by omega);haveI:=hn.cb
        refine dr_ 0 [(11,2)] [2] (dz 4 rfl (kq_ rfl (jix r.idx.toNat hc rfl (by omega)) (kq_ rfl (jlr rfl) (kc_ fn98 rfl (rnumber c) (dz 2 rfl (keq_ (D.val (.int .i64 ((r.idx.toNat:Nat):Int))) rfl (by rw [Int.toNat_of_nonneg (by omega)]) (kc_ fn112 rfl (rvar r.idx.toNat (by omega)) (kc_ fn73 rfl (rsub7 (fN c) (fV r.idx.toNat) (by omega) (by omega) (by omega)) (dz 2 rfl ?_)))))))))
        refine DK_nil (za 1 rfl ?_)
        exact r2_ hq_ rfl (by unfold formM;rw [if_neg h5,if_neg h0,if_neg hk1,if_pos hk2,hc] <;> rfl)
       ·refine tq_ rfl (ltF rfl) (zl 13 rfl ?_)
        exact r2_ hq_ rfl (by unfold formM;rw [if_neg h5,if_neg h0,if_neg hk1,if_pos hk2,List.getElem?_eq_none (by omega)];exact fZ_ret _ _ rfl)
      ·refine tq_ rfl (eqF rfl) (zl 6 rfl ?_)
       by_cases hk3:r.kind = 3
       ·refine tq_ rfl (eqT rfl) (zl 10 rfl (tq_ rfl (jln rfl) ?_))
        by_cases hin:r.idx.toNat < s.q.r.rows.length
        ·refine tq_ rfl (ltT rfl) (zl 4 rfl ?_)
         obtain ⟨f,hf⟩:∃ f,s.q.r.rows[r.idx.toNat]? = some f:=⟨_,List.getElem?_eq_getElem (by omega)⟩
         refine zc 5 rfl (tq_ rfl (jix r.idx.toNat hf rfl (by omega)) (tq_ rfl (jlr rfl) (zl 4 rfl ?_)))
         exact r2_ hq_ rfl (by unfold formM;rw [if_neg h5,if_neg h0,if_neg hk1,if_neg hk2,if_pos hk3,hf] <;> rfl)
        ·refine tq_ rfl (ltF rfl) (zl 13 rfl ?_)
         exact r2_ hq_ rfl (by unfold formM;rw [if_neg h5,if_neg h0,if_neg hk1,if_neg hk2,if_pos hk3,List.getElem?_eq_none (by omega)];exact fZ_ret _ _ rfl)
       ·refine tq_ rfl (eqF rfl) (zl 6 rfl ?_)
        by_cases hk4:r.kind = 4
        ·refine tq_ rfl (eqT rfl) (zl 6 rfl (dr_ 0 [] [] (dz 4 rfl (kq_ rfl (jln rfl) ?_))))
         by_cases hin:s.path.length≤r.idx.toNat
         ·refine kq_ rfl (geT rfl) (dz 12 rfl (DK_nil (za 9 rfl ?_)))
          exact r2_ hq_ rfl (by unfold formM;rw [if_neg h5,if_neg h0,if_neg hk1,if_neg hk2,if_neg hk3,if_pos hk4,List.getElem?_eq_none (by omega)];exact fZ_ret _ _ rfl)
         ·refine kq_ rfl (geF rfl) (dz 1 rfl ?_)
          obtain ⟨d,hdd⟩:∃ d,s.path[r.idx.toNat]? = some d:=⟨_,List.getElem?_eq_getElem (by omega)⟩
          have hdo:=hd d (List.mem_of_getElem? hdd)
          have hdk:d.kind = 1 ∨ d.kind = 2 ∨ d.kind = 3 ∨ d.kind = 4:=by rcases hdo.1 with ⟨h,_⟩ | ⟨h,_⟩ <;> omega
          have hdi:d.idx < (s.q.g.inp + s.q.g.us.length):=by rcases hdo.1 with ⟨_,h,_⟩ | ⟨_,h⟩ <;> omega
          have hv:FL 2 (s.q.g.inp + s.q.g.us.length) (fV d.idx):=FL.v hdi
          have hn:FL (b + 1) (s.q.g.inp + s.q.g.us.length) (fN d.pt):=FL.n hdo.2.br
          have hs:=hv.sub hn
          haveI:=hv.fm (by omega);haveI:=hv.cb
          haveI:=hn.fm (by omega);haveI:=hn.cb
          haveI:=hs.fm (by omega);haveI:=hs.cb
          refine dz 6 rfl (kq_ rfl (jix r.idx.toNat hdd rfl (by omega)) (kq_ rfl (jlr rfl) (kc_ fn69 rfl (fits_r s.q d (by assumption) (by omega)) (dz 2 rfl (DK_nil (za 10 rfl (tq_ rfl (jix r.idx.toNat hdd rfl (by omega)) (tq_ rfl (jlr rfl) (zl 5 rfl ?_)))))))))
          refine dr_ 1 [(7,5),(8,5)] [5] (dz 2 rfl (kc_ fn112 rfl (rvar d.idx (by omega)) (dz 2 rfl (kc_ fn98 rfl (rnumber d.pt) (kc_ fn73 rfl (rsub7 (fV d.idx) (fN d.pt) (by omega) (by omega) (by omega)) (dz 2 rfl (DK_nil (za 6 rfl ?_))))))))
          by_cases hk:d.kind = 3
          ·refine tq_ rfl (eqT rfl) (zl 10 rfl ?_)
           exact r2_ hq_ rfl (by unfold formM;rw [if_neg h5,if_neg h0,if_neg hk1,if_neg hk2,if_neg hk3,if_pos hk4,hdd];show _ = R.tup [afV (if 3≤d.kind then (pathF d,true) else (fZ,false)).1,V.one (Leaf.val (.bool (if 3≤d.kind then (pathF d,true) else (fZ,false)).2))];rw [if_pos (by omega)];show _ = R.tup [afV (pathF d),V.one (Leaf.val (.bool true))];unfold pathF;rw [if_pos hk] <;> rfl)
          ·refine tq_ rfl (eqF rfl) (zl 9 rfl ?_)
           by_cases hk_:d.kind = 4
           ·refine tq_ rfl (eqT rfl) (zl 4 rfl (dr_ 0 [(3,2)] [2] (dz 1 rfl (kc_ fn33 rfl (rqof (-1) (by decide) (by decide)) (kc_ fn48 rfl (rscale_w (fSub (fV d.idx) (fN d.pt)) (((-1):Int):Rat) (by omega) (by omega)) (dz 2 rfl (DK_nil (za 1 rfl ?_))))))))
            exact r2_ hq_ rfl (by unfold formM;rw [if_neg h5,if_neg h0,if_neg hk1,if_neg hk2,if_neg hk3,if_pos hk4,hdd];show _ = R.tup [afV (if 3≤d.kind then (pathF d,true) else (fZ,false)).1,V.one (Leaf.val (.bool (if 3≤d.kind then (pathF d,true) else (fZ,false)).2))];rw [if_pos (by omega)];show _ = R.tup [afV (pathF d),V.one (Leaf.val (.bool true))];unfold pathF;rw [if_neg hk] <;> rfl)
           ·refine tq_ rfl (eqF rfl) (zl 13 rfl ?_)
            exact r2_ hq_ rfl (by unfold formM;rw [if_neg h5,if_neg h0,if_neg hk1,if_neg hk2,if_neg hk3,if_pos hk4,hdd];show _ = R.tup [afV (if 3≤d.kind then (pathF d,true) else (fZ,false)).1,V.one (Leaf.val (.bool (if 3≤d.kind then (pathF d,true) else (fZ,false)).2))];rw [if_neg (by omega)];exact fZ_ret _ _ rfl)
        ·refine tq_ rfl (eqF rfl) (zl 14 rfl ?_)
         exact r2_ hq_ rfl (by unfold formM;rw [if_neg h5,if_neg h0,if_neg hk1,if_neg hk2,if_neg hk3,if_neg hk4];exact fZ_ret _ _ rfl)
end Go.Proofs.YtjdbopkbfkgpdaaGreatDoor
set_option linter.unusedSimpArgs false
set_option linter.unusedVariables false
namespace Rc
open Go Go.RowKit
theorem fZ_ls:[tmE.row fZ.ts,Leaf.val (.bool (cneg fZ.c)),natL (limbs (cnum fZ.c)),natL (limbs (cden fZ.c))] = [nilL,Leaf.val (.bool false),nilL,nilL]:=by
 show [tmE.row [],Leaf.val (.bool (cneg 0)),natL (limbs (cnum 0)),natL (limbs (cden 0))] = _
 rw [cnum_zero,cden_zero,limbs_zero];rfl
theorem dq_can {x:Qr} (h:x = qOf x.q):D.agg [Leaf.val (.bool x.neg),natL x.n,natL x.d] = D.agg (qL x.q):=by
 rw [h,qOf_q];rfl
theorem cneg_nonneg {q:Rat} (h:0≤q):cneg q = false:=by unfold cneg;exact decide_eq_false (Int.not_lt.2 (Rat.num_nonneg.2 h))
theorem abs_ls (q:Rat):D.agg [Leaf.val (.bool false),natL (limbs (cnum q)),natL (limbs (cden q))] = D.agg (qL (rq false (cnum q) (cden q))):=by
 have h0:=abs_nonneg q
 rw [abs_eq] at h0 ⊢
 split
 ·rename_i h
  rw [if_pos h] at h0
  unfold qL
  rw [cnum_neg,cden_neg,cneg_nonneg h0]
 ·rename_i h
  rw [if_neg h] at h0
  unfold qL
  rw [cneg_nonneg h0]
theorem toNat_cast (n:Nat):((n:Nat):Int).toNat = n:=rfl
section
variable {s:Sc}
theorem form_lo {v:Nat} {c:Rat} (h:s.q.r.lo[v]? = some c):formM s ⟨1,(v:Int),0,0⟩ = (fSub (fV v) (fN c),true):=by
 unfold formM
 rw [if_neg (by show ¬ (5:Int)≤1;decide),if_neg (by show ¬ ((0:Int)≠0 ∨ (0:Int)≠0 ∨ ((v:Nat):Int) < 0);omega),if_pos rfl]
 simp only [toNat_cast,h]
theorem form_hi {v:Nat} {c:Rat} (h:s.q.r.hi[v]? = some c):formM s ⟨2,(v:Int),0,0⟩ = (fSub (fN c) (fV v),true):=by
 unfold formM
 rw [if_neg (by show ¬ (5:Int)≤2;decide),if_neg (by show ¬ ((0:Int)≠0 ∨ (0:Int)≠0 ∨ ((v:Nat):Int) < 0);omega),if_neg (by show ¬ (2:Int) = 1;decide),if_pos rfl]
 simp only [toNat_cast,h]
theorem form_unit {k lo hi:Int} {j:Nat} {p f:Af} (hk:5≤k) (hp:s.q.g.us[j]? = some p) (h:unitF s ⟨k,(j:Int),lo,hi⟩ p = (f,true)):formM s ⟨k,(j:Int),lo,hi⟩ = (f,true):=by
 unfold formM
 rw [if_pos hk]
 exact unitM_t (by show ¬ ((j:Nat):Int) < 0;omega) hp h
theorem form_zero {j:Nat} {p:Af} (hp:s.q.g.us[j]? = some p):formM s ⟨5,(j:Int),0,0⟩ = (fV (s.q.g.inp + j),true):=
 form_unit (by decide) hp (by unfold unitF;rw [if_pos rfl];rfl)
theorem lem_at {j n:Nat} {up:Bool} {m:Lm} (hn:0 < n) (hm:s.lems[n - 1]? = some m) (hu:m.unit = (j:Int)) (hup:m.up = up):lem s.lems (n:Int) (j:Int) up = (m.v.q,true):=
 lem_yes (by omega) (by rw [show (((n:Nat):Int) - 1).toNat = n - 1 by omega];exact hm) ⟨hu,hup⟩
theorem form_on {j n:Nat} {p:Af} {m:Lm} (hp:s.q.g.us[j]? = some p) (hn:0 < n) (hm:s.lems[n - 1]? = some m) (hu:m.unit = (j:Int)) (hup:m.up = false) (hv:0≤m.v.q) :
  formM s ⟨8,(j:Int),(n:Int),0⟩ = (fSub p (fV (s.q.g.inp + j)),true):=
 form_unit (by decide) hp (by
  unfold unitF
  rw [if_neg (by simp),if_neg (by simp),if_neg (by simp),if_pos rfl]
  unfold onB lowB lowQ
  simp only [lem_at hn hm hu hup,sg_ge.2 hv]
  simp)
theorem form_off {j n:Nat} {p:Af} {m:Lm} (hp:s.q.g.us[j]? = some p) (hn:0 < n) (hm:s.lems[n - 1]? = some m) (hu:m.unit = (j:Int)) (hup:m.up = true) (hv:m.v.q≤0) :
  formM s ⟨10,(j:Int),0,(n:Int)⟩ = (fSc (fV (s.q.g.inp + j)) ((-1:Int):Rat),true):=
 form_unit (by decide) hp (by
  unfold unitF
  rw [if_neg (by simp),if_neg (by simp),if_neg (by simp),if_neg (by simp),if_neg (by simp),if_pos rfl]
  unfold offB topB topQ
  simp only [lem_at hn hm hu hup,sg_le.2 hv]
  simp)
theorem form_up {j n:Nat} {p:Af} {m:Lm} (hp:s.q.g.us[j]? = some p) (hn:0 < n) (hm:s.lems[n - 1]? = some m) (hu:m.unit = (j:Int)) (hup:m.up = true) :
  formM s ⟨12,(j:Int),0,(n:Int)⟩ = (fSub (fN m.v.q) p,true):=
 form_unit (by decide) hp (by
  unfold unitF
  rw [if_neg (by simp),if_neg (by simp),if_neg (by simp),if_neg (by simp),if_neg (by simp),if_neg (by simp),if_neg (by simp),if_pos rfl]
  unfold topB topQ
  simp only [lem_at hn hm hu hup]
  simp)
theorem form_tri {j n n':Nat} {p:Af} {m m':Lm} (hp:s.q.g.us[j]? = some p) (hn:0 < n) (hm:s.lems[n - 1]? = some m) (hu:m.unit = (j:Int)) (hup:m.up = false)
  (hn':0 < n') (hm':s.lems[n' - 1]? = some m') (hu':m'.unit = (j:Int)) (hup':m'.up = true) (hv:m.v.q < 0) (hv':0 < m'.v.q) :
  formM s ⟨13,(j:Int),(n:Int),(n':Int)⟩ = (fSub (fSc (fSub p (fN m.v.q)) m'.v.q) (fSc (fV (s.q.g.inp + j)) (m'.v.q - m.v.q)),true):=
 form_unit (by decide) hp (by
  unfold unitF
  rw [if_neg (by simp),if_neg (by simp),if_neg (by simp),if_neg (by simp),if_neg (by simp),if_neg (by simp),if_neg (by simp),if_neg (by simp),if_pos rfl]
  unfold lowB lowQ topB topQ
  simp only [lem_at hn hm hu hup,lem_at hn' hm' hu' hup',sg_lt.2 hv,sg_gt.2 hv']
  simp)
structure StepOk (s:Sc) (B:Nat) (l:List Mu):Prop where
 ok:∀ m∈l,(formM s m.r).2 = true
 pos:∀ m∈l,0 < m.c.q
 bd:MB B l
 len:l.length≤2
theorem one_step {r:Rw} {B:Nat} (h:(formM s r).2 = true):StepOk s (2 * B + 12) [⟨r,qOf ((1:Int):Rat)⟩]:=
 ⟨fun m hm=>by simp at hm;subst hm;exact h,fun m hm=>by simp at hm;subst hm;rw [qOf_q];decide,fun m hm=>by rw [List.mem_singleton] at hm;subst hm;exact Fq.of.mono (by omega),by simp⟩
theorem atLeast_ok {v B:Nat} (hq:QOk s.q) (hv:v < s.q.g.inp + s.q.g.us.length):StepOk s (2 * B + 12) (atLeast s.q.g.inp v):=by
 unfold atLeast
 split
 ·rename_i h
  have:=hq.r.lo
  obtain ⟨c,hc⟩:∃ c,s.q.r.lo[v]? = some c:=⟨_,List.getElem?_eq_getElem (by omega)⟩
  exact one_step (by rw [form_lo hc])
 ·obtain ⟨p,hp⟩:∃ p,s.q.g.us[v - s.q.g.inp]? = some p:=⟨_,List.getElem?_eq_getElem (by omega)⟩
  exact one_step (by rw [form_zero hp])
theorem atMost_ok {v B:Nat} {l:List Mu} (hq:QOk s.q) (hB:∀ m∈s.lems,Fq m.v B) (hv:v < s.q.g.inp + s.q.g.us.length) (h:atMost s.q.g.inp s.lems v = some l):StepOk s (4 * B + 12) l:=by
 have one:∀ {r:Rw},(formM s r).2 = true→StepOk s (4 * B + 12) [⟨r,qOf ((1:Int):Rat)⟩]:=fun h=>
  ⟨(one_step (B:=B) h).ok,(one_step (B:=B) h).pos,(one_step (B:=B) h).bd.mono (by omega),by simp⟩
 unfold atMost at h
 split at h
 ·rename_i hi
  cases h
  have:=hq.r.hi
  obtain ⟨c,hc⟩:∃ c,s.q.r.hi[v]? = some c:=⟨_,List.getElem?_eq_getElem (by omega)⟩
  exact one (by rw [form_hi hc])
 ·obtain ⟨p,hp⟩:∃ p,s.q.g.us[v - s.q.g.inp]? = some p:=⟨_,List.getElem?_eq_getElem (by omega)⟩
  split at h
  ·cases h
  ·rename_i hb
   obtain ⟨y,hy,yu,yp,hly,hy0,hyl⟩:=best_lo (fun e=>hb (.inl e))
   obtain ⟨z,hz,zu,zp,hlz,hz0,hzl⟩:=best_hi (fun e=>hb (.inr e))
   haveI:=hB y (List.mem_of_getElem? hy)
   haveI:=hB z (List.mem_of_getElem? hz)
   rw [hlz,hly] at h
   split at h
   ·rename_i hu
    cases h
    exact one (by rw [form_off hp hz0 hz zu zp hu])
   ·rename_i hu
    split at h
    ·rename_i hl
     cases h
     refine ⟨fun m hm=>?_,fun m hm=>?_,fun m hm=>?_,by simp⟩
     ·simp at hm
      rcases hm with rfl | rfl
      ·rw [form_on hp hy0 hy yu yp hl]
      ·rw [form_up hp hz0 hz zu zp]
     ·simp at hm
      rcases hm with rfl | rfl <;> rw [qOf_q] <;> decide
     ·simp only [List.mem_cons,List.not_mem_nil,or_false] at hm
      rcases hm with rfl | rfl <;> exact Fq.of.mono (by omega)
    ·rename_i hl
     cases h
     have h1:0 < z.v.q:=by grind
     have h2:0 < z.v.q - y.v.q:=by grind
     have h3:0 < ((1:Int):Rat) / (z.v.q - y.v.q):=by
      rw [Rat.div_def]
      exact Rat.mul_pos (by decide) (Rat.inv_pos.2 h2)
     refine ⟨fun m hm=>?_,fun m hm=>?_,fun m hm=>?_,by simp⟩
     ·simp at hm
      rcases hm with rfl | rfl
      ·rw [form_up hp hz0 hz zu zp]
      ·rw [form_tri hp hy0 hy yu yp hz0 hz zu zp (by grind) h1]
     ·simp only [List.mem_cons,List.not_mem_nil,or_false] at hm
      rcases hm with rfl | rfl
      ·show 0 < (qOf _).q
       rw [qOf_q];exact Rat.mul_pos h3 h1
      ·show 0 < (qOf _).q
       rw [qOf_q];exact h3
     ·simp only [List.mem_cons,List.not_mem_nil,or_false] at hm
      rcases hm with rfl | rfl <;> exact Fq.of.mono (by omega)
theorem plusM_mem {l:List Mu} {r:Rw} {c:Rat} {x:Mu} (h:x∈plusM l r c):x.r = r ∨ x∈l:=by
 unfold plusM at h
 split at h
 ·exact .inr h
 ·exact insM_mem h
theorem mergeM_ok {c:Rat} {P:Rw→Prop}:∀ {b a:List Mu},(∀ m∈a,P m.r)→(∀ m∈b,P m.r)→∀ m∈mergeM a b c,P m.r
 | [],a,h,_=>h
 | x :: b,a,h,hb=>mergeM_ok (b:=b) (a:=plusM a x.r (x.c.q * c)) (fun m hm=>by
   rcases plusM_mem hm with e | hm
   ·rw [e];exact hb x (by simp)
   ·exact h m hm) (fun m hm=>hb m (by simp [hm]))
structure DerOk (s:Sc) (B n:Nat) (l:List Mu):Prop where
 ok:∀ m∈l,(formM s m.r).2 = true
 can:CanM l
 bd:MB B l
 len:l.length≤n
theorem abst_ok {B C n:Nat} {a:List Mu × Bool} {t:Tm} (hq:QOk s.q) (hB:∀ m∈s.lems,Fq m.v B) (hv:t.1 < s.q.g.inp + s.q.g.us.length) (ht:Br t.2 10) (h:DerOk s C n a.1) :
  DerOk s (C + 8 * B + 50) (n + 2) (abst s.q.g.inp s.lems a t).1:=by
 have mg:∀ {l:List Mu},StepOk s (4 * B + 12) l→DerOk s (C + 8 * B + 50) (n + 2) (mergeM a.1 l (rq false (cnum t.2) (cden t.2))):=fun {l} hs=>
  ⟨mergeM_ok (P:=fun r=>(formM s r).2 = true) h.ok hs.ok,mergeM_can (abs_nonneg _) h.can hs.pos,(mergeM_bd h.bd hs.bd).mono (by
   have:=Nat.mul_le_mul_right (4 * B + 12 + (10 + 1) + 2) hs.len
   omega),by have:=mergeM_len l a.1 (rq false (cnum t.2) (cden t.2));have:=h.len;have:=hs.len;omega⟩
 unfold abst
 split
 ·split
  ·have h2:=atLeast_ok (B:=2 * B) hq hv
   exact mg ⟨h2.ok,h2.pos,h2.bd.mono (by omega),h2.len⟩
  ·split
   ·rename_i l hl
    exact mg (atMost_ok hq hB hv hl)
   ·exact ⟨fun m hm=>by simp at hm,trivial,fun m hm=>by simp at hm,by simp⟩
 ·exact ⟨h.ok,h.can,h.bd.mono (by omega),Nat.le_trans h.len (by omega)⟩
theorem absn_ok {B:Nat} (hq:QOk s.q) (hB:∀ m∈s.lems,Fq m.v B):∀ (ts:List Tm) (a:List Mu × Bool) (C n:Nat),(∀ t∈ts,t.1 < s.q.g.inp + s.q.g.us.length∧Br t.2 10)→DerOk s C n a.1 →
  DerOk s (C + ts.length * (8 * B + 50)) (n + 2 * ts.length) (ts.foldl (abst s.q.g.inp s.lems) a).1
 | [],a,C,n,_,h=>⟨h.ok,h.can,h.bd.mono (by omega),Nat.le_trans h.len (by omega)⟩
 | t :: ts,a,C,n,ht,h=>by
  have h1:=abst_ok (t:=t) hq hB (ht t (by simp)).1 (ht t (by simp)).2 h
  have h2:=absn_ok hq hB ts _ _ _ (fun x hx=>ht x (by simp [hx])) h1
  refine ⟨h2.ok,h2.can,h2.bd.mono ?_,Nat.le_trans h2.len ?_⟩
  ·simp only [List.length_cons,Nat.add_mul];omega
  ·simp only [List.length_cons];omega
theorem der_nil:DerOk s 0 0 []:=⟨fun m hm=>by simp at hm,trivial,fun m hm=>by simp at hm,by simp⟩
theorem abs_ok {B b:Nat} {f:Af} (hq:QOk s.q) (hB:∀ m∈s.lems,Fq m.v B) (hf:FOk b (s.q.g.inp + s.q.g.us.length) f) (hb:b≤9) (i:Nat):DerOk s (7 * (8 * B + 50)) 14 (absn s.q.g.inp s.lems (f.ts.take i)).1:=by
 have h:=absn_ok hq hB (f.ts.take i) ([],true) 0 0 (fun t ht=>⟨hf.var t (List.mem_of_mem_take ht),(hf.bd t (List.mem_of_mem_take ht)).br.mono (by omega)⟩) der_nil
 have hl:(f.ts.take i).length≤7:=by rw [List.length_take];have:=hf.len;have:=hq.g.i3;have:=hq.g.u4;omega
 refine ⟨h.ok,h.can,h.bd.mono ?_,Nat.le_trans h.len (by omega)⟩
 have:=Nat.mul_le_mul_right (8 * B + 50) hl
 omega
end
def abL (s:Sc) (f:Af):List Mu:=(absn s.q.g.inp s.lems f.ts).1
def abB (s:Sc) (f:Af):Bool:=(absn s.q.g.inp s.lems f.ts).2
def abQ (s:Sc) (f:Af):Rat:=if abB s f = true then (fSub f (sumM s (abL s f))).c else 0
theorem absn_f {inp:Nat} {lems:List Lm}:∀ (ts:List Tm) (a:List Mu × Bool),(a.2 = false→a.1 = [])→(ts.foldl (abst inp lems) a).2 = false→(ts.foldl (abst inp lems) a).1 = []
 | [],a,h,h2=>h h2
 | t :: ts,a,h,h2=>absn_f ts _ (fun h3=>by
   unfold abst at h3 ⊢
   split at h3
   ·rename_i ha
    rw [if_pos ha]
    split at h3
    ·simp at h3
    ·rename_i hs
     rw [if_neg hs]
     split at h3
     ·simp at h3
     ·rename_i he;simp only [he]
   ·rename_i ha
    rw [if_neg ha];exact h h3) h2
theorem abL_f {s:Sc} {f:Af} (h:abB s f = false):abL s f = []:=absn_f _ _ (fun h=>by simp at h) h
theorem abB_bad {s:Sc} {f:Af} {i:Nat} (h:(absn s.q.g.inp s.lems (f.ts.take i)).2 = false):abB s f = false:=absn_bad h
section
variable {inp:Nat} {lems:List Lm} {out:List Mu} {t:Tm}
theorem abst_pos (h:0 < t.2):abst inp lems (out,true) t = (mergeM out (atLeast inp t.1) (rq false (cnum t.2) (cden t.2)),true):=by
 unfold abst;rw [if_pos rfl,if_pos h]
theorem abst_some (h:¬ 0 < t.2) (hl:(atMost inp lems t.1).isSome = true):abst inp lems (out,true) t = (mergeM out ((atMost inp lems t.1).getD []) (rq false (cnum t.2) (cden t.2)),true):=by
 obtain ⟨l,hl⟩:=Option.isSome_iff_exists.1 hl
 unfold abst;rw [if_pos rfl,if_neg h,hl];rfl
theorem abst_none (h:¬ 0 < t.2) (hl:(atMost inp lems t.1).isSome = false):(abst inp lems (out,true) t).2 = false:=by
 have hl:atMost inp lems t.1 = none:=by simpa using hl
 unfold abst;rw [if_pos rfl,if_neg h,hl]
end
theorem getD_ok {s:Sc} {B v:Nat} (hq:QOk s.q) (hB:∀ m∈s.lems,Fq m.v B) (hv:v < s.q.g.inp + s.q.g.us.length):MB (4 * B + 12) ((atMost s.q.g.inp s.lems v).getD [])∧((atMost s.q.g.inp s.lems v).getD []).length≤2:=by
 cases h:atMost s.q.g.inp s.lems v with
 | none=>exact ⟨fun m hm=>by simp at hm,by simp⟩
 | some l=>have:=atMost_ok hq hB hv h;exact ⟨this.bd,this.len⟩
end Rc
set_option linter.unusedSimpArgs false
set_option linter.unusedVariables false
namespace Go.Proofs.YtjdbopkbfkgpdaaGreatDoor
open Go Go.RowKit Rc
set_option maxRecDepth 10000 in
theorem canon_r (l:List Mu) {B:Nat} (hc:CanM l) (hB:MB B l) (hB2:B≤100000000000) (hl:l.length≤100000):Ctr Tryz.prog 153 [V.one (El.row muE l)] (R.one (V.one (Leaf.val (.bool true)))):=by
 refine bd_ Tryz.func153 Tryz.ntmps153 rfl (fun w0 A0=>?_)
 refine zc 12 rfl (lpR_ (fun m Γ H=>∃ (i:Nat),l.length - i = m∧Γ = [(0,some (D.v (V.one (El.row muE l)))),(3,some (D.val (.int .i64 ((i:Nat):Int))))]∧H = []∧i≤l.length) ⟨0,rfl,rfl,rfl,Nat.zero_le _⟩ rfl ?_)
 rintro m Γ H ⟨i,rfl,rfl,rfl,hi0⟩
 refine zc 5 rfl (tq_ rfl (jln rfl) ?_)
 by_cases hi:i < l.length
 ·refine tq_ rfl (ltT rfl) (zl 8 rfl ?_)
  obtain ⟨x,hx⟩:∃ x,l[i]? = some x:=⟨_,List.getElem?_eq_getElem hi⟩
  haveI hxB:=hB x (List.mem_of_getElem? hx)
  obtain ⟨hpos,hcx⟩:=hc.pos x (List.mem_of_getElem? hx)
  refine dr_ 0 [] [] (dz 2 rfl (kq_ rfl (jix i hx rfl) (kq_ rfl (jfr rfl) (kq_ rfl (jlr rfl) (kc_ fn70 rfl (rqvalid x.c (x.c.q) rfl (Fq.use (x:=x.c) (by omega))) (kis_ true rfl (isC_iff.2 hcx) (dz 4 rfl (kq_ rfl (jix i hx rfl) (kq_ rfl (jfr rfl) ?_)))))))))
  refine kq_ rfl (jlr rfl) (kc_ fn63 rfl (rqsign x.c (x.c.q) rfl (Fq.use (x:=x.c) (by omega))) (kq_ rfl (leF rfl (by have:=sg_gt.2 hpos;omega)) (dz 3 rfl ?_)))
  by_cases hi1:0 < i
  ·refine kq_ rfl (gtT rfl) (dz 1 rfl ?_)
   obtain ⟨y,hy⟩:∃ y,l[i - 1]? = some y:=⟨_,List.getElem?_eq_getElem (by omega)⟩
   refine dz 2 rfl (kq_ rfl (jsb (i - 1) rfl) (kq_ rfl (jix (i - 1) hy rfl) (kq_ rfl (jft rfl) (kq_ rfl (jlr rfl) (dz 2 rfl (kq_ rfl (jix i hx rfl) (kq_ rfl (jft rfl) (kq_ rfl (jlr rfl) (kc_ fn114 rfl (less_r y.r x.r) ?_)))))))))
   refine kis_ true rfl (hc.prev hi1 hx hy) (dz 3 rfl (DK_nil (za 7 rfl (tq_ rfl (jad (i + 1) rfl) (zl 2 rfl ?_)))))
   exact nx_ ⟨i + 1,rfl,rfl,rfl,hi⟩ rfl
  ·refine kq_ rfl (gtF rfl) (dz 16 rfl (DK_nil (za 7 rfl (tq_ rfl (jad (i + 1) rfl) (zl 2 rfl ?_)))))
   exact nx_ ⟨i + 1,rfl,rfl,rfl,hi⟩ rfl
 ·refine tq_ rfl (ltF rfl) (zl 13 rfl ?_)
  exact r1_ hq_ rfl rfl
set_option maxRecDepth 10000 in
set_option maxHeartbeats 2000000 in
theorem sum_r (s:Sc) {B:Nat} (hB:∀ m∈s.lems,Fq m.v B) (hB2:B≤10000000) (hl:s.lems.length≤1000000) {b:Nat} (hq:QOk s.q) (hd:∀ d∈s.path,DOk b s.q d) (hb:b≤1000000) (hpl:s.path.length≤1000) (l:List Mu) {C:Nat} (hc:CanM l) (hm:MB C l) (hC:C≤600000000) (hok:∀ m∈l,(formM s m.r).2 = true) (hll:l.length≤50):Ctr Tryz.prog 120 [scV s,V.one (El.row muE l)] (R.tup [afV (sumM s l),V.one (Leaf.val (.int .i64 0))]):=by
 refine bd_ Tryz.func120 Tryz.ntmps120 rfl (fun w0 A0=>?_)
 have hg:=hq.g;have hr:=hq.r;have hlo:=hr.lo;have hhi:=hr.hi
 have h1:=hg.i1;have h2:=hg.i3;have h3:=hg.u4;have h4:=hg.o1;have h5:=hg.o3
 refine zc 11 rfl (tc_ fn153 rfl (canon_r l (by assumption) (by assumption) (by omega) (by omega)) (zl 18 rfl ?_))
 refine lpR_ (fun m Γ H=>∃ (i:Nat) (out:Af),l.length - i = m∧Γ = [(1,some (D.v (V.one (El.row muE l)))),(2,some (D.ptr 0 0)),(4,some (D.ptr 1 0)),(6,some (D.ptr 2 0)),(7,some (D.val (.int .i64 ((i:Nat):Int))))]∧H = [hb_ 42 (scL s),hb_ 36 [El.row tmE ([]),Leaf.val (.bool false),natL ([]),natL ([])],hb_ 36 (afL out)]∧i≤l.length∧out = sumM s (l.take i)) ⟨0,fZ,rfl,rfl,(by unfold afL;rw [fZ_ls];rfl),Nat.zero_le _,rfl⟩ rfl ?_
 rintro m Γ H ⟨i,out,rfl,rfl,rfl,hi0,hout⟩
 refine zc 5 rfl (tq_ rfl (jln rfl) ?_)
 by_cases hi:i < l.length
 ·refine tq_ rfl (ltT rfl) (zl 8 rfl ?_)
  obtain ⟨x,hx⟩:∃ x,l[i]? = some x:=⟨_,List.getElem?_eq_getElem hi⟩
  have hxm:=List.mem_of_getElem? hx
  haveI hxB:=hm x hxm
  have hf:=formM_fl (r:=x.r) hq hd hB
  have hsc:=FL.sc (c:=x.c.q) hf
  have ho:FL (50 * (4 * B + b + C + 42)) (s.q.g.inp + s.q.g.us.length) out:=by
   rw [hout]
   refine (sumM_fl hq hd hB hm.take).mono ?_ (Nat.le_refl _)
   exact Nat.mul_le_mul_right _ (by rw [List.length_take];omega)
  haveI:=hf.fm (by omega);haveI:=hf.cb
  haveI:=hsc.fm (by omega);haveI:=hsc.cb
  haveI:=ho.fm (by omega);haveI:=ho.cb
  refine dr_ 1 [(10,3),(11,3)] [3] (dz 3 rfl (kq_ rfl (jix i hx rfl) (kq_ rfl (jft rfl) (kq_ rfl (jlr rfl) (kc_ fn72 rfl (form_r s hB (by omega) (by omega) hq hd (by omega) (by omega) x.r) (dz 3 rfl (kis_ true rfl (hok x hxm) (dz 3 rfl (DK_nil ?_)))))))))
  refine za 11 rfl (dr_ 0 [(9,2)] [2] (kp_ [] rfl (Jq_load_agg rfl rfl rfl (by decide) ty36 (by decide) (Nat.le_of_ble_eq_true rfl) rfl) (dz 3 rfl (kq_ rfl (jix i hx rfl) (kq_ rfl (jfr rfl) (kq_ rfl (jlr rfl) (keq_ (D.agg (qL x.c.q)) rfl (dq_can (hc.pos x hxm).2) (kc_ fn48 rfl (rscale_w (formM s x.r).1 x.c.q (by omega) (by omega)) ?_))))))))
  refine kc_ fn111 rfl (radd7_w out (fSc (formM s x.r).1 x.c.q) (by omega) (by omega) (by omega)) (dz 1 rfl (DK_nil (za 4 rfl (tq_ rfl (jad (i + 1) rfl) (zl 2 rfl (At_free 3 (trim_ 3 rfl ?_)))))))
  exact nx_ ⟨i + 1,_,rfl,rfl,rfl,hi,by rw [hout];exact (sumM_take hx).symm⟩ rfl
 ·refine tq_ rfl (ltF rfl) (zl 9 rfl ?_)
  have hie:i = l.length:=by omega
  rw [hie,List.take_length] at hout
  refine zc 6 rfl ?_
  exact r2_ hq_ rfl (by rw [← hout] <;> rfl)
end Go.Proofs.YtjdbopkbfkgpdaaGreatDoor
set_option linter.unusedSimpArgs false
set_option linter.unusedVariables false
namespace Go.Proofs.YtjdbopkbfkgpdaaGreatDoor
open Go Go.RowKit Rc
theorem merge_w (a b:List Mu) (c:Rat) {B C K:Nat} (hA:MB B a) (hB:MB C b) [Br c K] (h1:B≤10000000000) (h2:C≤1000000000) (h3:K≤1000000000) (hl:a.length≤10000) (hlb:b.length≤2):Ctr Tryz.prog 119 [V.one (El.row muE a),V.one (El.row muE b),V.agg (qL (c))] (R.one (V.one (El.row muE (mergeM a b c)))):=
 merge_r a b c hA hB (by have:=Nat.mul_le_mul_right (C + K + 2) hlb;omega) hl (by omega)
set_option maxRecDepth 10000 in
set_option maxHeartbeats 2000000 in
theorem above_r (s:Sc) {B:Nat} (hB:∀ m∈s.lems,Fq m.v B) (hB2:B≤10000000) (hl:s.lems.length≤1000000) {b:Nat} (hq:QOk s.q) (hd:∀ d∈s.path,DOk b s.q d) (hb:b≤1000000) (hpl:s.path.length≤1000) (f:Af) {bf:Nat} (hf:FOk bf (s.q.g.inp + s.q.g.us.length) f) (hb5:bf≤9):Ctr Tryz.prog 79 [scV s,afV f] (R.tup [qV (qOf (abQ s f)),V.one (El.row muE (abL s f)),V.one (Leaf.val (.bool (abB s f)))]):=by
 refine bd_ Tryz.func79 Tryz.ntmps79 rfl (fun w0 A0=>?_)
 have hg:=hq.g;have hr:=hq.r;have hlo:=hr.lo;have hhi:=hr.hi
 have h1:=hg.i1;have h2:=hg.i3;have h3:=hg.u4;have h4:=hg.o1;have h5:=hg.o3
 have hfl:=hf.len
 refine zc 21 rfl ?_
 refine lpR_ (fun m Γ H=>∃ (i:Nat) (out:List Mu),f.ts.length - i = m∧Γ = [(2,some (D.ptr 0 0)),(3,some (D.ptr 1 0)),(4,some (D.ptr 2 0)),(7,some (D.v (V.one (El.row muE out)))),(8,some (D.val (.int .i64 ((i:Nat):Int))))]∧H = [hb_ 42 (scL s),hb_ 36 (afL f),hb_ 34 [Leaf.val (.bool false),natL ([]),natL ([])]]∧i≤f.ts.length∧absn s.q.g.inp s.lems (f.ts.take i) = (out,true)) ⟨0,[],rfl,rfl,rfl,Nat.zero_le _,rfl⟩ rfl ?_
 rintro m Γ H ⟨i,out,rfl,rfl,rfl,hi0,habs⟩
 refine zc 6 rfl (tq_ rfl (jln rfl) ?_)
 by_cases hi:i < f.ts.length
 ·refine tq_ rfl (ltT rfl) (zl 8 rfl ?_)
  obtain ⟨x,hx⟩:∃ x,f.ts[i]? = some x:=⟨_,List.getElem?_eq_getElem hi⟩
  have hxm:=List.mem_of_getElem? hx
  haveI hxb:=(hf.bd x hxm).br
  have hxv:=hf.var x hxm
  have hder:=abs_ok hq hB hf hb5 i
  rw [habs] at hder
  have hMB:MB (7 * (8 * B + 50)) out:=hder.bd
  have hol:out.length≤14:=hder.len
  have hsl:=atLeast_ok (B:=B) hq hxv
  have hM1:MB (2 * B + 12) (atLeast s.q.g.inp x.1):=hsl.bd
  have hM1l:(atLeast s.q.g.inp x.1).length≤2:=hsl.len
  obtain ⟨hM2,hM2l⟩:=getD_ok (v:=x.1) hq hB hxv
  refine zc 4 rfl (tq_ rfl (jix i hx rfl) (tq_ rfl (jlr rfl) (zl 9 rfl (tc_ fn117 rfl (atmost_r s (by assumption) (by omega) (by omega) (by omega) x.1 (by omega)) (zl 12 rfl (tc_ fn63 rfl (rqsign (qOf (x.2)) (x.2) (qOf_q _) (Br.use (by omega))) ?_))))))
  by_cases hpos:0 < x.2
  ·refine tq_ rfl (gtT rfl (sg_gt.2 hpos)) (zl 7 rfl (tc_ fn118 rfl (atleast_r s (by omega) x.1 (by omega)) (zl 24 rfl (zl 8 rfl (eq_ (D.agg (qL (rq false (cnum x.2) (cden x.2)))) rfl (abs_ls x.2) (tc_ fn119 rfl (merge_w out (atLeast s.q.g.inp x.1) (rq false (cnum x.2) (cden x.2)) (by assumption) (by assumption) (by omega) (by omega) (by omega) (by omega) (by omega)) (zl 6 rfl ?_)))))))
   refine tq_ rfl (jad (i + 1) rfl) (zl 2 rfl (At_free 3 (At_free 4 (trim_ 3 rfl ?_))))
   exact nx_ ⟨i + 1,_,rfl,rfl,rfl,hi,by rw [absn_take hx,habs];exact abst_pos hpos⟩ rfl
  ·refine tq_ rfl (gtF rfl (fun e=>hpos (sg_gt.1 e))) (zl 7 rfl ?_)
   by_cases hm:(atMost s.q.g.inp s.lems x.1).isSome = true
   ·refine zc 2 rfl (is_ true rfl (hm) (zl 24 rfl (eq_ (D.agg (qL (rq false (cnum x.2) (cden x.2)))) rfl (abs_ls x.2) (tc_ fn119 rfl (merge_w out ((atMost s.q.g.inp s.lems x.1).getD []) (rq false (cnum x.2) (cden x.2)) (by assumption) (by assumption) (by omega) (by omega) (by omega) (by omega) (by omega)) (zl 6 rfl (tq_ rfl (jad (i + 1) rfl) (zl 2 rfl (At_free 3 (At_free 4 ?_)))))))))
    refine trim_ 3 rfl ?_
    exact nx_ ⟨i + 1,_,rfl,rfl,rfl,hi,by rw [absn_take hx,habs];exact abst_some hpos hm⟩ rfl
   ·refine zc 2 rfl (is_ false rfl (by simpa using hm) (zl 5 rfl ?_))
    have hbad:abB s f = false:=abB_bad (i:=i + 1) (by rw [absn_take hx,habs];exact abst_none hpos (by simpa using hm))
    refine zc 7 rfl ?_
    exact r3_ hq_ rfl (by unfold abQ;rw [abL_f hbad,hbad,if_neg (by decide)];show _ = R.tup [qV (qOf 0),_,_];rw [← qV_zero] <;> rfl)
 ·refine tq_ rfl (ltF rfl) (zl 9 rfl ?_)
  have hie:i = f.ts.length:=by omega
  rw [hie,List.take_length] at habs
  have hder:=abs_ok hq hB hf hb5 f.ts.length
  rw [List.take_length,habs] at hder
  have hMB:MB (7 * (8 * B + 50)) out:=hder.bd
  have hol:out.length≤14:=hder.len
  have hcan:CanM out:=hder.can
  have hok:∀ m∈out,(formM s m.r).2 = true:=hder.ok
  have hB3:abB s f = true:=by unfold abB;rw [habs]
  have hL:abL s f = out:=by unfold abL;rw [habs]
  have hfm:=hf.fl
  have hsm:FL (14 * (4 * B + b + 7 * (8 * B + 50) + 42)) (s.q.g.inp + s.q.g.us.length) (sumM s out):=(sumM_fl hq hd hB hMB).mono (Nat.mul_le_mul_right _ hol) (Nat.le_refl _)
  haveI:=hfm.fm (by omega);haveI:=hfm.cb
  haveI:=hsm.fm (by omega);haveI:=hsm.cb
  refine zc 3 rfl (tc_ fn120 rfl (sum_r s hB (by omega) (by omega) hq hd (by omega) (by omega) out (by assumption) (by assumption) (by omega) (by assumption) (by omega)) (zl 12 rfl (tc_ fn73 rfl (rsub7 f (sumM s out) (by omega) (by omega) (by omega)) (zl 7 rfl ?_))))
  exact r3_ hq_ rfl (by rw [hL,hB3];unfold abQ;rw [hB3,if_pos rfl,hL] <;> rfl)
end Go.Proofs.YtjdbopkbfkgpdaaGreatDoor
set_option linter.unusedSimpArgs false
set_option linter.unusedVariables false
namespace Rc
open Go Go.RowKit
def W (φ:Rw→Rat):List Mu→Rat
 | []=>0
 | m :: l=>m.c.q * φ m.r + W φ l
theorem W_ins (φ:Rw→Rat) (r:Rw) (c:Rat):∀ l:List Mu,W φ (insM l r c) = W φ l + c * φ r
 | []=>by simp only [insM,W,qOf_q];grind
 | m :: l=>by
  unfold insM
  split
  ·simp only [W,W_ins φ r c l];grind
  ·split
   ·rename_i h;simp only [W,qOf_q,h];grind
   ·simp only [W,qOf_q];grind
theorem W_plus (φ:Rw→Rat) (r:Rw) (c:Rat) (l:List Mu):W φ (plusM l r c) = W φ l + c * φ r:=by
 unfold plusM;split
 ·rename_i h;subst h;grind
 ·exact W_ins φ r c l
theorem W_merge (φ:Rw→Rat) (c:Rat):∀ (b a:List Mu),W φ (mergeM a b c) = W φ a + c * W φ b
 | [],a=>by simp only [mergeM,List.foldl_nil,W];grind
 | m :: b,a=>by
  have e:mergeM a (m :: b) c = mergeM (plusM a m.r (m.c.q * c)) b c:=rfl
  rw [e,W_merge φ c b,W_plus]
  simp only [W];grind
def rowC (s:Sc) (r:Rw):Rat:=(formM s r).1.c
theorem sumC_foldl (s:Sc):∀ (l:List Mu) (a:Af),(l.foldl (fun a m=>fAdd a (fSc (formM s m.r).1 m.c.q)) a).c = a.c + W (rowC s) l
 | [],a=>by simp only [List.foldl_nil,W];grind
 | m :: l,a=>by
  rw [List.foldl_cons,sumC_foldl s l]
  simp only [W,fAdd,fSc,rowC];grind
theorem sumM_c (s:Sc) (l:List Mu):(sumM s l).c = W (rowC s) l:=by
 unfold sumM;rw [sumC_foldl];simp only [fZ];grind
def lb (s:Sc) (v:Nat):Rat:=if v < s.q.g.inp then (s.q.r.lo[v]?).getD 0 else 0
def ub (s:Sc) (v:Nat):Rat:=if v < s.q.g.inp then (s.q.r.hi[v]?).getD 0 else if (best s.lems ((v - s.q.g.inp:Nat):Int)).2 = 0 ∨ lv s.lems (best s.lems ((v - s.q.g.inp:Nat):Int)).2≤0 then 0 else lv s.lems (best s.lems ((v - s.q.g.inp:Nat):Int)).2
theorem m1:((-1:Int):Rat) = -1:=by decide
theorem p1:((1:Int):Rat) = 1:=by decide
section
variable {s:Sc}
theorem W_least (hq:QOk s.q) {v:Nat} (hv:v < s.q.g.inp + s.q.g.us.length):W (rowC s) (atLeast s.q.g.inp v) = - lb s v:=by
 unfold atLeast lb
 split
 ·have:=hq.r.lo
  obtain ⟨c,hc⟩:∃ c,s.q.r.lo[v]? = some c:=⟨_,List.getElem?_eq_getElem (by omega)⟩
  simp only [W,rowC,form_lo hc,hc,qOf_q,fSub,fV,fN,m1,p1,Option.getD_some];grind
 ·obtain ⟨p,hp⟩:∃ p,s.q.g.us[v - s.q.g.inp]? = some p:=⟨_,List.getElem?_eq_getElem (by omega)⟩
  simp only [W,rowC,form_zero hp,qOf_q,fV,p1];grind
theorem W_most (hq:QOk s.q) {v:Nat} {l:List Mu} (hv:v < s.q.g.inp + s.q.g.us.length) (h:atMost s.q.g.inp s.lems v = some l):W (rowC s) l = ub s v:=by
 unfold atMost at h
 unfold ub
 split at h
 ·rename_i hi
  cases h
  rw [if_pos hi]
  have:=hq.r.hi
  obtain ⟨c,hc⟩:∃ c,s.q.r.hi[v]? = some c:=⟨_,List.getElem?_eq_getElem (by omega)⟩
  simp only [W,rowC,form_hi hc,hc,qOf_q,fSub,fV,fN,m1,p1,Option.getD_some];grind
 ·rename_i hi
  rw [if_neg hi]
  obtain ⟨p,hp⟩:∃ p,s.q.g.us[v - s.q.g.inp]? = some p:=⟨_,List.getElem?_eq_getElem (by omega)⟩
  split at h
  ·cases h
  ·rename_i hb
   obtain ⟨y,hy,yu,yp,hly,hy0,hyl⟩:=best_lo (fun e=>hb (.inl e))
   obtain ⟨z,hz,zu,zp,hlz,hz0,hzl⟩:=best_hi (fun e=>hb (.inr e))
   rw [hlz,hly] at h
   rw [hlz]
   split at h
   ·rename_i hu
    cases h
    rw [if_pos (.inr hu)]
    simp only [W,rowC,form_off hp hz0 hz zu zp hu,qOf_q,fSc,fV,m1,p1];grind
   ·rename_i hu
    rw [if_neg (fun e=>e.elim (fun e=>hb (.inr e)) hu)]
    split at h
    ·rename_i hl
     cases h
     simp only [W,rowC,form_on hp hy0 hy yu yp hl,form_up hp hz0 hz zu zp,qOf_q,fSub,fV,fN,m1,p1];grind
    ·rename_i hl
     cases h
     have h1:0 < z.v.q:=by grind
     have h2:z.v.q - y.v.q≠0:=by grind
     simp only [W,rowC,form_up hp hz0 hz zu zp,form_tri hp hy0 hy yu yp hz0 hz zu zp (by grind) h1,qOf_q,fSub,fSc,fV,fN,m1,p1]
     have h3:(z.v.q - y.v.q) * (1 / (z.v.q - y.v.q)) = 1:=by rw [Rat.div_def,Rat.one_mul];exact Rat.mul_inv_cancel _ h2
     generalize 1 / (z.v.q - y.v.q) = k at *
     grind
def bndT (s:Sc) (t:Tm):Rat:=if 0 < t.2 then lb s t.1 else ub s t.1
def bndS (s:Sc):List Tm→Rat
 | []=>0
 | t :: ts=>t.2 * bndT s t + bndS s ts
theorem abst_W (hq:QOk s.q) {a:List Mu × Bool} {t:Tm} (hv:t.1 < s.q.g.inp + s.q.g.us.length) (h:(abst s.q.g.inp s.lems a t).2 = true):W (rowC s) (abst s.q.g.inp s.lems a t).1 = W (rowC s) a.1 - t.2 * bndT s t:=by
 unfold abst at h ⊢
 unfold bndT
 split at h
 ·rename_i ha
  rw [if_pos ha]
  split at h
  ·rename_i hp
   rw [if_pos hp,if_pos hp]
   simp only []
   rw [W_merge,W_least hq hv,abs_eq,if_neg (by grind)];grind
  ·rename_i hp
   rw [if_neg hp,if_neg hp]
   split at h
   ·rename_i l hl
    simp only [hl]
    rw [W_merge,W_most hq hv hl,abs_eq]
    split
    ·grind
    ·have:t.2 = 0:=by grind
     rw [this];grind
   ·simp at h
 ·rename_i ha;exact absurd h ha
theorem absn_W (hq:QOk s.q):∀ (ts:List Tm) (a:List Mu × Bool),(∀ t∈ts,t.1 < s.q.g.inp + s.q.g.us.length)→(ts.foldl (abst s.q.g.inp s.lems) a).2 = true→W (rowC s) (ts.foldl (abst s.q.g.inp s.lems) a).1 = W (rowC s) a.1 - bndS s ts
 | [],a,_,_=>by simp only [List.foldl_nil,bndS];grind
 | t :: ts,a,hv,h=>by
  have h2:(abst s.q.g.inp s.lems a t).2 = true:=by
   cases e:(abst s.q.g.inp s.lems a t).2
   ·have:=absn_no (inp:=s.q.g.inp) (lems:=s.lems) ts _ e
    rw [List.foldl_cons] at h
    rw [this] at h;simp at h
   ·rfl
  rw [List.foldl_cons,absn_W hq ts _ (fun x hx=>hv x (by simp [hx])) h,abst_W hq (hv t (by simp)) h2]
  simp only [bndS];grind
theorem abQ_eq {f:Af} (hq:QOk s.q) (hv:∀ t∈f.ts,t.1 < s.q.g.inp + s.q.g.us.length) (h:abB s f = true):abQ s f = f.c + bndS s f.ts:=by
 have h1:=absn_W hq f.ts ([],true) hv h
 unfold abQ
 rw [if_pos h]
 show f.c + (sumM s (abL s f)).c * ((-1:Int):Rat) = _
 rw [sumM_c,m1]
 have h2:W (rowC s) (abL s f) = 0 - bndS s f.ts:=h1
 rw [h2];grind
end
def KB (j:Nat):Nat:=4300 * 2 ^ j
structure LOk (q:Qu) (m:Lm):Prop where
 u0:0≤m.unit
 u:m.unit.toNat < q.g.us.length
 can:m.v = qOf m.v.q
 hb:Hb m.v.q (KB m.unit.toNat)
structure SOk (s:Sc):Prop where
 q:QOk s.q
 d:∀ d∈s.path,DOk 200 s.q d
 pl:s.path.length≤100
 l:∀ m∈s.lems,LOk s.q m
 ll:s.lems.length≤100
theorem KB_le {j:Nat} (h:j < 4):KB j≤34400:=by
 unfold KB
 have:2 ^ j≤2 ^ 3:=Nat.pow_le_pow_right (by decide) (by omega)
 omega
theorem SOk.B {s:Sc} (h:SOk s):∀ m∈s.lems,Fq m.v 34401:=by
 intro m hm
 have h1:=h.l m hm
 rw [h1.can]
 have h2:=h.q.g.u4
 have h3:=KB_le (j:=m.unit.toNat) (by have:=h1.u;omega)
 haveI:=(h1.hb.mono h3).br
 exact Fq.of
def wgt (inp v:Nat):Nat:=if v < inp then 11 else KB (v - inp) + 4
def wS (inp:Nat):Nat→Nat
 | 0=>0
 | n + 1=>wS inp n + wgt inp n
theorem wS_mono (inp:Nat) {a b:Nat} (h:a≤b):wS inp a≤wS inp b:=by
 induction b with
 | zero=>
      have:a = 0:=by omega
      subst this;exact Nat.le_refl _
 | succ b ih=>
  by_cases e:a = b + 1
  ·subst e;exact Nat.le_refl _
  ·have:=ih (by omega)
   show _≤wS inp b + wgt inp b
   omega
theorem wS_inp (inp:Nat):∀ n,n≤inp→wS inp n = 11 * n
 | 0,_=>rfl
 | n + 1,h=>by
  show wS inp n + wgt inp n = _
  rw [wS_inp inp n (by omega)]
  unfold wgt
  rw [if_pos (by omega)];omega
theorem wS_unit (inp:Nat):∀ j,wS inp (inp + j) + 4300 = 11 * inp + 4 * j + 4300 * 2 ^ j
 | 0=>by
  show wS inp inp + 4300 = _
  rw [wS_inp inp inp (Nat.le_refl _)]
 | j + 1=>by
  have ih:=wS_unit inp j
  show wS inp (inp + j) + wgt inp (inp + j) + 4300 = _
  unfold wgt
  rw [if_neg (by omega),show inp + j - inp = j by omega,Nat.pow_succ]
  unfold KB
  omega
theorem Hb.z {n:Nat}:Hb 0 n:=Hb.zero.mono (Nat.zero_le _)
theorem bndT_hb {s:Sc} (h:SOk s) {t:Tm} (hv:t.1 < s.q.g.inp + s.q.g.us.length):Hb (bndT s t) (wgt s.q.g.inp t.1 - 4):=by
 have hl:=h.q.r.lo
 have hh:=h.q.r.hi
 unfold bndT lb ub wgt
 by_cases hi:t.1 < s.q.g.inp
 ·obtain ⟨x,hx⟩:∃ x,s.q.r.lo[t.1]? = some x:=⟨_,List.getElem?_eq_getElem (by omega)⟩
  obtain ⟨y,hy⟩:∃ y,s.q.r.hi[t.1]? = some y:=⟨_,List.getElem?_eq_getElem (by omega)⟩
  obtain ⟨h1,h2,_⟩:=h.q.r.bd _ _ _ hx hy
  simp only [if_pos hi,hx,hy,Option.getD_some]
  split
  ·exact h1.mono (by omega)
  ·exact h2.mono (by omega)
 ·simp only [if_neg hi]
  split
  ·exact Hb.z
  ·split
   ·exact Hb.z
   ·rename_i hne
    obtain ⟨z,hz,zu,zp,hlz,hz0,hzl⟩:=best_hi (fun e=>hne (.inl e))
    rw [hlz]
    have:=(h.l z (List.mem_of_getElem? hz)).hb
    rw [zu] at this
    exact this.mono (by show KB (t.1 - s.q.g.inp)≤_;omega)
theorem bndS_hb {s:Sc} (h:SOk s) {n:Nat} (hn:n≤s.q.g.inp + s.q.g.us.length):∀ (ts:List Tm) (a:Nat),CanT ts→(∀ t∈ts,Hb t.2 3)→(∀ t∈ts,a≤t.1∧t.1 < n)→Hb (bndS s ts) (wS s.q.g.inp n - wS s.q.g.inp a)
 | [],a,_,_,_=>Hb.z
 | t :: ts,a,hc,hb,hv=>by
  obtain ⟨c1,c2,c3⟩:=hc
  have ht:=hv t (by simp)
  have ih:=bndS_hb h hn ts (t.1 + 1) c3 (fun x hx=>hb x (by simp [hx])) (fun x hx=>⟨c2 x hx,(hv x (by simp [hx])).2⟩)
  haveI h1:=hb t (by simp)
  haveI h2:=bndT_hb h (t:=t) (by omega)
  haveI h3:=ih
  have h4:Hb (t.2 * bndT s t + bndS s ts) (3 + (wgt s.q.g.inp t.1 - 4) + (wS s.q.g.inp n - wS s.q.g.inp (t.1 + 1)) + 1):=Hb.add
  refine h4.mono ?_
  have e1:=wS_mono s.q.g.inp (show t.1 + 1≤n by omega)
  have e2:=wS_mono s.q.g.inp ht.1
  have e3:wS s.q.g.inp (t.1 + 1) = wS s.q.g.inp t.1 + wgt s.q.g.inp t.1:=rfl
  have e4:4≤wgt s.q.g.inp t.1:=by unfold wgt;split <;> omega
  omega
theorem abQ_hb {s:Sc} (h:SOk s) {f:Af} {n:Nat} (hn:n≤s.q.g.inp + s.q.g.us.length) (hf:FOk 3 n f) (hb:abB s f = true):Hb (abQ s f) (wS s.q.g.inp n + 4):=by
 rw [abQ_eq h.q (fun t ht=>by have:=hf.var t ht;omega) hb]
 haveI:=hf.cb
 haveI:=bndS_hb h hn f.ts 0 hf.can hf.bd (fun t ht=>⟨Nat.zero_le _,hf.var t ht⟩)
 have h4:Hb (f.c + bndS s f.ts) (3 + (wS s.q.g.inp n - wS s.q.g.inp 0) + 1):=Hb.add
 exact h4.mono (by have:wS s.q.g.inp 0 = 0:=rfl;omega)
theorem unit_hb {s:Sc} (h:SOk s) {f:Af} {j:Nat} (hj:j < s.q.g.us.length) (hf:FOk 3 (s.q.g.inp + j) f) (hb:abB s f = true):Hb (abQ s f) (KB j - 4200):=by
 refine (abQ_hb h (by omega) hf hb).mono ?_
 have h1:=wS_unit s.q.g.inp j
 have h2:=h.q.g.i3
 have h3:=h.q.g.u4
 unfold KB
 omega
end Rc
set_option linter.unusedVariables false
set_option linter.unusedSimpArgs false
namespace Rc
open Go
def tzF:Nat→Nat→Nat
 | 0,_=>0
 | f + 1,n=>if n % 2 = 0 then tzF f (n / 2) + 1 else 0
def tz (n:Nat):Nat:=tzF (bl n) n
theorem tzF_spec:∀ (f n:Nat),n≠0→n < 2 ^ f→∃ m,n = 2 ^ tzF f n * m∧m % 2 = 1
 | 0,n,h0,h=>by simp at h;omega
 | f + 1,n,h0,h=>by
  unfold tzF
  by_cases h2:n % 2 = 0
  ·rw [if_pos h2]
   obtain ⟨m,h3,h4⟩:=tzF_spec f (n / 2) (by omega) (by rw [Nat.pow_succ] at h;omega)
   refine ⟨m,?_,h4⟩
   rw [Nat.pow_succ,Nat.mul_right_comm,← h3];omega
  ·rw [if_neg h2];exact ⟨n,by simp,by omega⟩
theorem tz_spec {n:Nat} (h:n≠0):∃ m,n = 2 ^ tz n * m∧m % 2 = 1:=tzF_spec _ n h (bl_lt n)
theorem pow_odd_unique {a b m m':Nat} (h:2 ^ a * m = 2 ^ b * m') (hm:m % 2 = 1) (hm':m' % 2 = 1):a = b∧m = m':=by
 have key:∀ (a c m m':Nat),2 ^ a * m = 2 ^ (a + c) * m'→m % 2 = 1→c = 0:=by
  intro a c m m' h hm
  rw [Nat.pow_add,Nat.mul_assoc] at h
  have:=Nat.eq_of_mul_eq_mul_left (Nat.two_pow_pos a) h
  cases c with
  | zero=>rfl
  | succ c=>rw [Nat.pow_succ,Nat.mul_right_comm] at this;omega
 have e:a = b:=by
  rcases Nat.le_total a b with hab | hab
  ·have:=key a (b - a) m m' (by rw [show a + (b - a) = b from by omega];exact h) hm;omega
  ·have:=key b (a - b) m' m (by rw [show b + (a - b) = a from by omega];exact h.symm) hm';omega
 subst e
 exact ⟨rfl,Nat.eq_of_mul_eq_mul_left (Nat.two_pow_pos a) h⟩
theorem tz_of {n k m:Nat} (h:n = 2 ^ k * m) (hm:m % 2 = 1):tz n = k:=by
 have hn:n≠0:=by
  rw [h];exact Nat.ne_of_gt (Nat.mul_pos (Nat.two_pow_pos k) (by omega))
 obtain ⟨m',h1,h2⟩:=tz_spec hn
 exact (pow_odd_unique (h1.symm.trans h) h2 hm).1
theorem tz_mul {n:Nat} (k:Nat) (h:n≠0):tz (2 ^ k * n) = k + tz n:=by
 obtain ⟨m,h1,h2⟩:=tz_spec h
 refine tz_of (m:=m) ?_ h2
 rw [Nat.pow_add,Nat.mul_assoc,← h1]
theorem tz_add {lo k:Nat} (hi:Nat) (h0:lo≠0) (h:lo < 2 ^ k):tz (lo + 2 ^ k * hi) = tz lo:=by
 obtain ⟨m,h1,h2⟩:=tz_spec h0
 have hk:tz lo < k:=by
  refine Nat.lt_of_not_le fun hle=>?_
  have:2 ^ k≤2 ^ tz lo:=Nat.pow_le_pow_right (by decide) hle
  have:2 ^ tz lo * 1≤2 ^ tz lo * m:=Nat.mul_le_mul_left _ (by omega)
  omega
 refine tz_of (m:=m + 2 ^ (k - tz lo) * hi) ?_ ?_
 ·rw [Nat.mul_add,← h1,← Nat.mul_assoc,← Nat.pow_add,show tz lo + (k - tz lo) = k from by omega]
 ·obtain ⟨j,hj⟩:∃ j,k - tz lo = j + 1:=⟨k - tz lo - 1,by omega⟩
  rw [hj,Nat.pow_succ,Nat.mul_right_comm];omega
theorem tz_dvd (n:Nat):2 ^ tz n * (n / 2 ^ tz n) = n:=by
 by_cases h:n = 0
 ·subst h;simp
 ·obtain ⟨m,h1,h2⟩:=tz_spec h
  have:n / 2 ^ tz n = m:=by
   conv=>lhs;arg 1;rw [h1]
   exact Nat.mul_div_cancel_left m (Nat.two_pow_pos _)
  rw [this,← h1]
theorem tz_div_odd {n:Nat} (h:n≠0):n / 2 ^ tz n % 2 = 1:=by
 obtain ⟨m,h1,h2⟩:=tz_spec h
 have:n / 2 ^ tz n = m:=by
  conv=>lhs;arg 1;rw [h1]
  exact Nat.mul_div_cancel_left m (Nat.two_pow_pos _)
 rw [this];exact h2
theorem tz_lt_bl {n:Nat} (h:n≠0):tz n < bl n:=by
 have h1:=tz_dvd n
 have h2:=tz_div_odd h
 have h3:=bl_lt n
 generalize n / 2 ^ tz n = q at h1 h2
 refine Nat.lt_of_not_le fun hle=>?_
 have:2 ^ bl n≤2 ^ tz n:=Nat.pow_le_pow_right (by decide) hle
 have:2 ^ tz n * 1≤2 ^ tz n * q:=Nat.mul_le_mul_left _ (by omega)
 omega
theorem tz_pow (k:Nat):tz (2 ^ k) = k:=tz_of (m:=1) (by simp) rfl
theorem and_neg {x:Nat} (h0:x≠0) (h:x < 4294967296):x &&& (4294967296 - x) = 2 ^ tz x:=by
 obtain ⟨m,h1,h2⟩:=tz_spec h0
 obtain ⟨q,rfl⟩:∃ q,m = 2 * q + 1:=⟨m / 2,by omega⟩
 generalize hk:tz x = k at *
 have hp:=Nat.two_pow_pos k
 have hlt:k < 32:=by
  refine Nat.lt_of_not_le fun hle=>?_
  have:2 ^ 32≤2 ^ k:=Nat.pow_le_pow_right (by decide) hle
  have:2 ^ k * 1≤2 ^ k * (2 * q + 1):=Nat.mul_le_mul_left _ (by omega)
  omega
 have e1:x = 2 ^ (k + 1) * q + 2 ^ k:=by rw [h1,Nat.mul_add,Nat.mul_one,Nat.pow_succ,Nat.mul_assoc]
 have e2:x - 1 = 2 ^ (k + 1) * q + (2 ^ k - 1):=by omega
 have hpk:2 ^ k < 2 ^ (k + 1):=Nat.pow_lt_pow_right (by decide) (by omega)
 apply Nat.eq_of_testBit_eq
 intro i
 rw [Nat.testBit_and,show (4294967296 - x) = 2 ^ 32 - ((x - 1) + 1) from by omega,Nat.testBit_two_pow_sub_succ (by omega),e2,Nat.testBit_two_pow_mul_add _ (by omega),Nat.testBit_two_pow]
 conv=>lhs;arg 1;rw [e1,Nat.testBit_two_pow_mul_add _ hpk]
 by_cases hi:i < k + 1
 ·rw [if_pos hi,if_pos hi,Nat.testBit_two_pow,Nat.testBit_two_pow_sub_one]
  by_cases hik:k = i
  ·subst hik;simp [hlt]
  ·simp [hik]
 ·rw [if_neg hi,if_neg hi]
  have:¬ k = i:=by omega
  simp only [this,decide_false]
  cases Nat.testBit q (i - (k + 1)) <;> simp
theorem tz32_lt {x:Nat} (h0:x≠0) (h:x < 4294967296):tz x < 32:=by
 have h1:=tz_lt_bl h0
 have h2:=bl_le_of_lt (n:=x) (k:=32) h
 omega
def bruijn:List Nat:=[0,1,28,2,29,14,24,3,30,22,20,15,25,17,4,8,31,27,13,23,21,19,16,7,26,12,18,6,11,5,10,9]
theorem bruijn_get {k:Nat} (h:k < 32):bruijn[2 ^ k * 125613361 % 4294967296 / 134217728]? = some k:=by
 have:∀ k:Fin 32,bruijn[2 ^ k.val * 125613361 % 4294967296 / 134217728]? = some k.val:=by decide
 exact this ⟨k,h⟩
theorem bruijn_lt {k:Nat} (h:k < 32):2 ^ k * 125613361 % 4294967296 / 134217728 < 32:=by omega
theorem zeros_at {l:List Nat} (hs:Small l) {k:Nat} (hk:k < l.length) (h:val (l.take k) = 0) (h0:l[k]≠0):tz (val l) = 32 * k + tz l[k]:=by
 have hb:=hs.get k hk
 rw [val_split l k hk,h,Nat.zero_add,pow32,tz_mul _ (by omega)]
 rw [show (4294967296:Nat) = 2 ^ 32 from rfl,tz_add _ h0 hb]
theorem zeros_next {l:List Nat} {k:Nat} (hk:k < l.length) (h:val (l.take k) = 0) (h0:l[k] = 0):val (l.take (k + 1)) = 0:=by
 rw [val_take_succ l k hk,h,h0];simp
theorem zeros_in {l:List Nat} {k:Nat} (hn:val l≠0) (h:val (l.take k) = 0):k < l.length:=by
 refine Nat.lt_of_not_le fun hle=>hn ?_
 rwa [val_take_all l k hle] at h
theorem shl_val {l:List Nat} (hs:Small l) (k:Nat):val (List.replicate (k / 32) 0 ++ padL (l.length + 1) (val l * 2 ^ (k % 32))) = val l * 2 ^ k:=by
 have h1:=val_lt hs
 have h2:2 ^ (k % 32)≤2 ^ 32:=Nat.pow_le_pow_right (by decide) (by omega)
 have h3:val l * 2 ^ (k % 32) < 4294967296 ^ (l.length + 1):=by
  rw [Nat.pow_succ]
  exact Nat.mul_lt_mul_of_lt_of_le h1 h2 (by decide)
 rw [val_append,val_replicate,List.length_replicate,val_padL h3,Nat.zero_add,pow32,Nat.mul_comm,Nat.mul_assoc,← Nat.pow_add,show k % 32 + 32 * (k / 32) = k from by omega]
structure Dy where
 neg:Bool
 mag:Nat
 exp:Int
def Dy.zero:Dy:=⟨false,0,0⟩
def nok (n:Nat) (e:Int):Bool:=n == 0 || (decide (-1048576≤e + tz n) && decide (e + tz n≤1048576))
def nrm (s:Bool) (n:Nat) (e:Int):Dy:=if n = 0 then Dy.zero else if nok n e then ⟨s,n / 2 ^ tz n,e + tz n⟩ else Dy.zero
theorem nrm_zero (s:Bool) (e:Int):nrm s 0 e = Dy.zero:=rfl
theorem nok_zero (e:Int):nok 0 e = true:=rfl
theorem nok_in {n:Nat} {e:Int} (h:n≠0) (h1:-1048576≤e + tz n) (h2:e + tz n≤1048576):nok n e = true:=by
 unfold nok;simp [h1,h2]
theorem nok_out {n:Nat} {e:Int} (h:n≠0) (h1:e + tz n < -1048576 ∨ 1048576 < e + tz n):nok n e = false:=by
 unfold nok;simp [h];omega
theorem nrm_in {s:Bool} {n:Nat} {e:Int} (h:n≠0) (h1:-1048576≤e + tz n) (h2:e + tz n≤1048576):nrm s n e = ⟨s,n / 2 ^ tz n,e + tz n⟩:=by
 unfold nrm;rw [if_neg h,if_pos (nok_in h h1 h2)]
theorem nrm_out {s:Bool} {n:Nat} {e:Int} (h:n≠0) (h1:e + tz n < -1048576 ∨ 1048576 < e + tz n):nrm s n e = Dy.zero:=by
 unfold nrm;rw [if_neg h,nok_out h h1];rfl
theorem nrm_mag_le (s:Bool) (n:Nat) (e:Int):(nrm s n e).mag≤n:=by
 unfold nrm
 split
 ·exact Nat.zero_le _
 ·split
  ·exact Nat.div_le_self _ _
  ·exact Nat.zero_le _
theorem nrm_exp (s:Bool) (n:Nat) (e:Int):-1048576≤(nrm s n e).exp∧(nrm s n e).exp≤1048576:=by
 unfold nrm
 split
 ·decide
 ·rename_i h0
  split
  ·rename_i h
   unfold nok at h
   simp only [Bool.or_eq_true,beq_iff_eq,Bool.and_eq_true,decide_eq_true_eq] at h
   rcases h with h | h
   ·exact absurd h h0
   ·exact h
  ·decide
end Rc
set_option linter.unusedVariables false
set_option linter.unusedSimpArgs false
namespace Rc
open Go Go.RowKit
@[reducible] def dV (d:Dy):V:=V.agg [Leaf.val (.bool d.neg),natL (limbs d.mag),Leaf.val (.int .i64 d.exp)]
theorem dV_zero:dV Dy.zero = V.agg [Leaf.val (.bool false),nilL,Leaf.val (.int .i64 0)]:=by
 show V.agg [Leaf.val (.bool false),natL (limbs 0),Leaf.val (.int .i64 0)] = _
 rw [limbs_zero];rfl
structure Dfit (k:Nat) (d:Dy):Prop where
 n:(limbs d.mag).length≤k
 lo:-1048576≤d.exp
 hi:d.exp≤1048576
class Bd (d:Dy) (k:outParam Nat):Prop where
 fit:Dfit k d
theorem Dfit.mono {d:Dy} {k k':Nat} (h:Dfit k d) (hk:k≤k'):Dfit k' d:=⟨Nat.le_trans h.n hk,h.lo,h.hi⟩
theorem Bd.use {d:Dy} {k k':Nat} [h:Bd d k] (hk:k≤k'):Dfit k' d:=h.fit.mono hk
instance Bn.dmag {d:Dy} {k:Nat} [h:Bd d k]:Bn d.mag k:=⟨h.fit.n⟩
instance Bd.nrm {s:Bool} {n:Nat} {e:Int} {k:Nat} [h:Bn n k]:Bd (nrm s n e) k:=
 ⟨⟨(Bn.mono (nrm_mag_le s n e) h).le,(nrm_exp s n e).1,(nrm_exp s n e).2⟩⟩
instance Bd.zero:Bd Dy.zero 0:=⟨⟨by show (limbs 0).length≤0;rw [limbs_zero];exact Nat.le_refl _,by decide,by decide⟩⟩
instance Bz.num {r:Rat} {k:Nat} [h:Br r k]:Bz r.num k:=⟨h.fit.n⟩
instance Bn.den {r:Rat} {k:Nat} [h:Br r k]:Bn r.den (k + 1):=Bn.of (Nat.lt_of_le_of_lt h.den (Nat.pow_lt_pow_right (by decide) (Nat.lt_succ_self _)))
theorem dn_qOf (r:Rat):dn (val (limbs (cden r))) = r.den:=by rw [val_limbs,dn_cden]
def exD (r:Rat):Dy:=if bl r.den = tz r.den + 1 then nrm (decide (r.num < 0)) r.num.natAbs (-(tz r.den:Int)) else Dy.zero
instance Bd.exD {r:Rat} {k:Nat} [h:Br r k]:Bd (exD r) k:=by
 unfold Rc.exD
 split
 ·haveI:Bn r.num.natAbs k:=Bz.bn (Bz.num (r:=r))
  infer_instance
 ·exact ⟨Bd.zero.fit.mono (Nat.zero_le _)⟩
def dq (d:Dy):Rat:=if 0≤d.exp then rq d.neg (d.mag * 2 ^ d.exp.toNat) 0 else rq d.neg d.mag (2 ^ (-d.exp).toNat)
theorem pow_lt {k j:Nat} (h:k < 32 * j):2 ^ k < 4294967296 ^ j:=by
 rw [pow32]
 exact Nat.pow_lt_pow_right (by decide) h
theorem Bn.shift {n i k:Nat} (j:Nat) (h:Bn n i) (hk:k < 32 * j):Bn (n * 2 ^ k) (i + j):=Bn.of (mul_lt_pow h.lt (pow_lt hk))
theorem Br.dqj {d:Dy} {k:Nat} (j:Nat) (h:Bd d k) (hj:d.exp.natAbs < 32 * j):Br (dq d) (k + j + 1):=by
 have hn:Bn d.mag k:=⟨h.fit.n⟩
 unfold Rc.dq
 split
 ·exact Br.rqn (i:=k + j + 1) (j:=0) (Nat.lt_of_lt_of_le (hn.shift (k:=d.exp.toNat) j (by omega)).lt (Nat.pow_le_pow_right (by decide) (by omega))) (by simp) (by omega)
 ·exact Br.rq (k:=k + j + 1) (Nat.lt_of_lt_of_le hn.lt (Nat.pow_le_pow_right (by decide) (by omega))) (Nat.lt_of_lt_of_le (pow_lt (k:=(-d.exp).toNat) (j:=j) (by omega)) (Nat.pow_le_pow_right (by decide) (by omega)))
instance Br.dq {d:Dy} {k:Nat} [h:Bd d k]:Br (dq d) (k + 32769 + 1):=Br.dqj 32769 h (by have:=h.fit.lo;have:=h.fit.hi;omega)
theorem bl_le_len {n k:Nat} (h:(limbs n).length≤k):bl n≤32 * k:=bl_le_of_lt (by rw [← pow32];exact limbs_length_le.1 h)
theorem tz_le_len {n k:Nat} (h:(limbs n).length≤k):tz n≤32 * k:=by
 by_cases h0:n = 0
 ·subst h0;exact Nat.zero_le _
 ·exact Nat.le_trans (Nat.le_of_lt (tz_lt_bl h0)) (bl_le_len h)
def lg (a b:Nat):Int:=
 if 0≤(bl a:Int) - bl b then (if a < b * 2 ^ ((bl a:Int) - bl b).toNat then (bl a:Int) - bl b - 1 else (bl a:Int) - bl b)
 else (if a * 2 ^ (-((bl a:Int) - bl b)).toNat < b then (bl a:Int) - bl b - 1 else (bl a:Int) - bl b)
theorem lg_or (a b:Nat):lg a b = (bl a:Int) - bl b ∨ lg a b = (bl a:Int) - bl b - 1:=by
 unfold lg;split <;> split <;> simp
theorem lg_bound {a b k j:Nat} (ha:(limbs a).length≤k) (hb:(limbs b).length≤j):-(32 * j:Int) - 1≤lg a b∧lg a b≤32 * k:=by
 have h1:=bl_le_len ha;have h2:=bl_le_len hb
 rcases lg_or a b with h | h <;> omega
def scN (n:Nat) (e:Int):Nat:=if 0≤e then n else n * 2 ^ (-e).toNat
def scD (d:Nat) (e:Int):Nat:=if 0≤e then d * 2 ^ e.toNat else d
def rndQ (a b:Nat) (e:Int) (away:Bool):Nat:=if away && decide (scN a e % scD b e≠0) then scN a e / scD b e + 1 else scN a e / scD b e
def rnd (s:Bool) (a b:Nat) (p:Int) (away:Bool):Dy:=nrm s (rndQ a b (lg a b - p + 1) away) (lg a b - p + 1)
def rndD (r:Rat) (p:Int) (away:Bool):Dy:=if p < 1 ∨ 4096 < p ∨ r.num = 0 then Dy.zero else rnd (decide (r.num < 0)) r.num.natAbs r.den p away
def rndE (p:Int):Int:=if p < 1 ∨ 4096 < p then 1 else 0
theorem scN_pos {n:Nat} {e:Int} (h:0≤e):scN n e = n:=if_pos h
theorem scN_neg {n:Nat} {e:Int} (h:¬ 0≤e):scN n e = n * 2 ^ (-e).toNat:=if_neg h
theorem scD_pos {n:Nat} {e:Int} (h:0≤e):scD n e = n * 2 ^ e.toNat:=if_pos h
theorem scD_neg {n:Nat} {e:Int} (h:¬ 0≤e):scD n e = n:=if_neg h
theorem rndD_of {r:Rat} {p:Int} {away:Bool} (h1:¬ p < 1) (h2:¬ 4096 < p) (h3:¬ r.num = 0):rndD r p away = rnd (decide (r.num < 0)) r.num.natAbs r.den p away:=if_neg (by omega)
theorem rndE_of {p:Int} (h1:¬ p < 1) (h2:¬ 4096 < p):rndE p = 0:=if_neg (by omega)
theorem rndQ_no {a b:Nat} {e:Int}:rndQ a b e false = scN a e / scD b e:=by simp [rndQ]
theorem rndQ_up {a b:Nat} {e:Int} (h:scN a e % scD b e≠0):rndQ a b e true = scN a e / scD b e + 1:=by simp [rndQ,h]
theorem rndQ_ex {a b:Nat} {e:Int} (h:¬ scN a e % scD b e≠0):rndQ a b e true = scN a e / scD b e:=by simp [rndQ,h]
end Rc
set_option linter.unusedVariables false
set_option linter.unusedSimpArgs false
namespace Rc
open Go Go.RowKit
theorem scD_ne {b:Nat} (h:b≠0) (e:Int):scD b e≠0:=by
 unfold scD;split
 ·exact Nat.mul_ne_zero h (Nat.ne_of_gt (Nat.two_pow_pos _))
 ·exact h
theorem sc_iff {x a b N:Nat} {e:Int} (h:0≤e + N):x * scD b e≤scN a e↔x * (b * 2 ^ (e + N).toNat)≤a * 2 ^ N:=by
 by_cases he:0≤e
 ·rw [scN_pos he,scD_pos he,show (e + N).toNat = e.toNat + N from by omega,Nat.pow_add,show x * (b * (2 ^ e.toNat * 2 ^ N)) = x * (b * 2 ^ e.toNat) * 2 ^ N from by simp only [Nat.mul_assoc]]
  exact (Nat.mul_le_mul_right_iff (Nat.two_pow_pos N)).symm
 ·rw [scN_neg he,scD_neg he]
  obtain ⟨m,hm⟩:∃ m,(e + N).toNat = m:=⟨_,rfl⟩
  rw [hm,show N = (-e).toNat + m from by omega,Nat.pow_add,← Nat.mul_assoc a,← Nat.mul_assoc x]
  exact (Nat.mul_le_mul_right_iff (Nat.two_pow_pos m)).symm
theorem lg_eq (a b:Nat):lg a b = if scN a ((bl a:Int) - bl b) < scD b ((bl a:Int) - bl b) then (bl a:Int) - bl b - 1 else (bl a:Int) - bl b:=by
 unfold lg scN scD
 split <;> rfl
theorem lg_spec {a b N:Nat} (ha:a≠0) (hb:b≠0) (hN:bl b + 1≤N) :
  b * 2 ^ (lg a b + N).toNat≤a * 2 ^ N∧a * 2 ^ N < b * 2 ^ (lg a b + 1 + N).toNat:=by
 have h1:=bl_lt a;have h2:=bl_le ha;have h3:=bl_lt b;have h4:=bl_le hb
 have p1:=bl_pos ha;have p2:=bl_pos hb
 obtain ⟨k,hk⟩:∃ k:Int,(bl a:Int) - bl b = k:=⟨_,rfl⟩
 have low:b * 2 ^ (k - 1 + N).toNat≤a * 2 ^ N:=by
  have e1:2 ^ bl b * 2 ^ (k - 1 + N).toNat = 2 ^ (bl a - 1) * 2 ^ N:=by
   rw [← Nat.pow_add,← Nat.pow_add,show bl b + (k - 1 + N).toNat = bl a - 1 + N from by omega]
  have e2:=Nat.mul_le_mul_right (2 ^ (k - 1 + N).toNat) (Nat.le_of_lt h3)
  have e3:=Nat.mul_le_mul_right (2 ^ N) h2
  omega
 have high:a * 2 ^ N < b * 2 ^ (k + 1 + N).toNat:=by
  have e1:2 ^ (bl b - 1) * 2 ^ (k + 1 + N).toNat = 2 ^ bl a * 2 ^ N:=by
   rw [← Nat.pow_add,← Nat.pow_add,show bl b - 1 + (k + 1 + N).toNat = bl a + N from by omega]
  have e2:=Nat.mul_le_mul_right (2 ^ (k + 1 + N).toNat) h4
  have e3:=(Nat.mul_lt_mul_right (Nat.two_pow_pos N)).2 h1
  omega
 have mid:=sc_iff (x:=1) (a:=a) (b:=b) (N:=N) (e:=k) (by omega)
 rw [Nat.one_mul,Nat.one_mul] at mid
 rw [lg_eq,hk]
 split
 ·rename_i h
  refine ⟨low,?_⟩
  rw [show k - 1 + 1 + (N:Int) = k + N from by omega]
  exact Nat.lt_of_not_le fun hle=>absurd (mid.2 hle) (Nat.not_le.2 h)
 ·rename_i h
  exact ⟨mid.1 (Nat.le_of_not_lt h),high⟩
theorem bl_quot {a b:Nat} {e:Int} (ha:a≠0) (hb:b≠0) (he:e≤lg a b):(bl (scN a e / scD b e):Int) = lg a b - e + 1:=by
 obtain ⟨N,hN⟩:∃ N,bl b + 1 + e.natAbs = N:=⟨_,rfl⟩
 obtain ⟨s1,s2⟩:=lg_spec (N:=N) ha hb (by omega)
 obtain ⟨K,hK⟩:∃ K:Nat,(K:Int) = lg a b - e:=⟨(lg a b - e).toNat,by omega⟩
 have hd:=Nat.pos_of_ne_zero (scD_ne hb e)
 have:bl (scN a e / scD b e) = K + 1:=by
  apply bl_unique
  ·rw [Nat.div_lt_iff_lt_mul hd]
   refine Nat.lt_of_not_le fun hle=>?_
   have:=(sc_iff (N:=N) (by omega)).1 hle
   rw [Nat.mul_left_comm,← Nat.pow_add,show K + 1 + (e + N).toNat = (lg a b + 1 + N).toNat from by omega] at this
   omega
  ·intro _
   rw [Nat.le_div_iff_mul_le hd,Nat.add_sub_cancel,sc_iff (N:=N) (by omega),Nat.mul_left_comm,← Nat.pow_add,show K + (e + N).toNat = (lg a b + N).toNat from by omega]
   exact s1
 omega
theorem Bn.scN {a i:Nat} {e:Int} (j:Nat) (h:Bn a i) (hj:e.natAbs < 32 * j):Bn (scN a e) (i + j):=by
 unfold Rc.scN
 split
 ·exact ⟨Nat.le_trans h.le (by omega)⟩
 ·exact h.shift j (by omega)
theorem Bn.rndQ {a b i:Nat} {e:Int} {up:Bool} (j:Nat) (h:Bn a i) (hj:e.natAbs < 32 * j):Bn (rndQ a b e up) (i + j + 1):=by
 have h1:=h.scN j hj
 have h2:Rc.rndQ a b e up≤Rc.scN a e + 1:=by
  have:=Nat.div_le_self (Rc.scN a e) (scD b e)
  unfold Rc.rndQ;split <;> omega
 exact Bn.mono h2 (Bn.of (Nat.lt_of_lt_of_le (Nat.succ_lt_succ h1.lt) (by rw [Nat.pow_succ];have:=Nat.pow_pos (n:=i + j) (show 0 < 4294967296 by decide);omega)))
instance Bn.one:Bn 1 1:=⟨by rw [limbs_one];exact Nat.le_refl _⟩
theorem sg_num (r:Rat):sg r = sgz r.num:=by
 have h:=sg_rq (cneg r) (cnum r) (cden r)
 rw [rq_canon] at h
 rw [h]
 show sgz (sgn (decide (r.num < 0)) r.num.natAbs) = _
 rw [sgn_natAbs]
def wexp (a b:Dy):Int:=if b.mag = 0 then a.exp else if a.mag = 0 then b.exp else min a.exp b.exp
def wint (a:Dy) (w:Int):Int:=sgn a.neg (a.mag * 2 ^ (a.exp - w).toNat)
theorem nrm_no {s:Bool} {n:Nat} {e:Int} (h:nok n e = false):nrm s n e = Dy.zero:=by
 unfold nrm
 split
 ·rfl
 ·rw [h];rfl
def mulD (a b:Dy):Dy:=nrm (a.neg != b.neg) (a.mag * b.mag) (a.exp + b.exp)
def addZ (a b:Dy):Int:=wint a (wexp a b) + wint b (wexp a b)
def addD (a b:Dy):Dy:=nrm (decide (addZ a b < 0)) (addZ a b).natAbs (wexp a b)
def negD (d:Dy):Dy:=⟨!d.neg && decide ((0:Int) < ((limbs d.mag).length:Int)),d.mag,d.exp⟩
instance Bd.negD {d:Dy} {k:Nat} [h:Bd d k]:Bd (negD d) k:=⟨⟨h.fit.n,h.fit.lo,h.fit.hi⟩⟩
instance Bd.mulD {a b:Dy} {i j:Nat} [ha:Bd a i] [hb:Bd b j]:Bd (mulD a b) (i + j):=by unfold Rc.mulD;infer_instance
theorem wexp_b {a b:Dy} {i j:Nat} (ha:Bd a i) (hb:Bd b j):-1048576≤wexp a b∧wexp a b≤1048576:=by
 have h1:=ha.fit.lo;have h2:=ha.fit.hi;have h3:=hb.fit.lo;have h4:=hb.fit.hi
 unfold wexp;split
 ·omega
 ·split <;> omega
theorem Bz.wint {a:Dy} {w:Int} {i:Nat} (j:Nat) (h:Bd a i) (hj:(a.exp - w).natAbs < 32 * j):Bz (wint a w) (i + j):=by
 haveI hn:Bn a.mag i:=⟨h.fit.n⟩
 haveI:Bn (a.mag * 2 ^ (a.exp - w).toNat) (i + j):=hn.shift j (by omega)
 unfold Rc.wint;infer_instance
instance Bz.addZ {a b:Dy} {i j:Nat} [ha:Bd a i] [hb:Bd b j]:Bz (addZ a b) (i + 65537 + (j + 65537) + 1):=by
 have hw:=wexp_b ha hb
 have h1:=ha.fit.lo;have h2:=ha.fit.hi;have h3:=hb.fit.lo;have h4:=hb.fit.hi
 haveI:=Bz.wint (a:=a) (w:=wexp a b) 65537 ha (by omega)
 haveI:=Bz.wint (a:=b) (w:=wexp a b) 65537 hb (by omega)
 unfold Rc.addZ;infer_instance
instance Bd.addD {a b:Dy} {i j:Nat} [ha:Bd a i] [hb:Bd b j]:Bd (addD a b) (i + 65537 + (j + 65537) + 1):=by
 haveI:Bn (Rc.addZ a b).natAbs (i + 65537 + (j + 65537) + 1):=Bz.bn inferInstance
 unfold Rc.addD;infer_instance
instance Bd.rndD {r:Rat} {p:Int} {w:Bool} [h:Br r 1100]:Bd (rndD r p w) 6101:=by
 unfold Rc.rndD
 split
 ·exact ⟨Bd.zero.fit.mono (Nat.zero_le _)⟩
 ·rename_i hc
  have hnl:(limbs (Int.natAbs r.num)).length≤1100:=Bz.use (z:=r.num) (Nat.le_refl _)
  have hdl:(limbs r.den).length≤1101:=Bn.use (n:=r.den) (Nat.le_refl _)
  have hlg:=lg_bound hnl hdl
  haveI:=Bn.rndQ (b:=r.den) (e:=lg r.num.natAbs r.den - p + 1) (up:=w) 5000 ⟨hnl⟩ (by omega)
  unfold rnd;infer_instance
end Rc
set_option linter.unusedVariables false
set_option linter.unusedSimpArgs false
namespace Rc
open Go Go.RowKit
theorem rq_ext {s:Bool} {n d n' d':Nat} (hd:d≠0) (hd':d'≠0) (h:n * d' = n' * d):rq s n d = rq s n' d':=by
 unfold rq dn
 rw [if_neg hd,if_neg hd',Rat.mkRat_eq_iff hd hd']
 have h1:(n:Int) * (d':Int) = (n':Int) * (d:Int):=by rw [← Int.natCast_mul,← Int.natCast_mul,h]
 cases s
 ·exact h1
 ·simp only [sgn_true,Int.neg_mul,h1]
theorem rq_zero_den (s:Bool) (n:Nat):rq s n 0 = rq s n 1:=rfl
theorem dq_shift (s:Bool) (m t:Nat) (e:Int):dq ⟨s,m,e + t⟩ = dq ⟨s,2 ^ t * m,e⟩:=by
 unfold dq
 simp only
 by_cases h1:0≤e
 ·rw [if_pos (by omega),if_pos h1,show (e + (t:Int)).toNat = t + e.toNat from by omega,Nat.pow_add]
  congr 1
  grind
 ·rw [if_neg h1]
  by_cases h2:0≤e + t
  ·rw [if_pos h2,rq_zero_den]
   refine rq_ext (by decide) (Nat.ne_of_gt (Nat.two_pow_pos _)) ?_
   rw [Nat.mul_one,Nat.mul_assoc,← Nat.pow_add,Nat.mul_comm,show (e + (t:Int)).toNat + (-e).toNat = t from by omega]
  ·rw [if_neg h2]
   refine rq_ext (Nat.ne_of_gt (Nat.two_pow_pos _)) (Nat.ne_of_gt (Nat.two_pow_pos _)) ?_
   rw [show (-e).toNat = t + (-(e + (t:Int))).toNat from by omega,Nat.pow_add]
   grind
theorem dq_nrm {s:Bool} {n:Nat} {e:Int} (h:nok n e = true):dq (nrm s n e) = dq ⟨s,n,e⟩:=by
 by_cases h0:n = 0
 ·subst h0
  rw [nrm_zero]
  unfold dq Dy.zero
  simp only
  have z:∀ (b:Bool) (d:Nat),rq b 0 d = 0:=by intro b d;unfold rq;cases b <;> simp [sgn]
  split <;> split <;> simp [z]
 ·have h1:nrm s n e = ⟨s,n / 2 ^ tz n,e + tz n⟩:=by unfold nrm;rw [if_neg h0,if_pos h]
  rw [h1,dq_shift,tz_dvd]
theorem negD_zero:negD Dy.zero = Dy.zero:=by
 show Dy.mk (!false && decide ((0:Int) < ((limbs 0).length:Int))) 0 0 = _
 rw [limbs_zero];rfl
theorem nrm_neg (s:Bool) (n:Nat) (e:Int):nrm (!s) n e = negD (nrm s n e):=by
 by_cases h0:n = 0
 ·subst h0;exact negD_zero.symm
 ·cases hk:nok n e with
  | false=>rw [nrm_no hk,nrm_no hk,negD_zero]
  | true=>
   have h1:∀ s,nrm s n e = ⟨s,n / 2 ^ tz n,e + tz n⟩:=fun s=>by unfold nrm;rw [if_neg h0,if_pos hk]
   rw [h1,h1]
   have h2:=tz_div_odd h0
   generalize n / 2 ^ tz n = m at *
   have h3:=limbs_len_pos.2 (show m≠0 by intro e;subst e;simp at h2)
   unfold negD
   simp only
   rw [decide_eq_true (by omega),Bool.and_true]
theorem rndD_neg (r:Rat) (p:Int):rndD (-r) p (decide (sg (-r) < 0)) = negD (rndD r p (decide (0 < sg r))):=by
 rw [sg_num,sg_num,Rat.neg_num]
 unfold rndD
 by_cases h:p < 1 ∨ 4096 < p ∨ r.num = 0
 ·rw [if_pos h,if_pos (by rw [Rat.neg_num];omega),negD_zero]
 ·rw [if_neg h,if_neg (by rw [Rat.neg_num];omega),Rat.neg_num,Rat.neg_den,Int.natAbs_neg]
  have h1:decide (-r.num < 0) = !decide (r.num < 0):=by
   by_cases h2:r.num < 0
   ·rw [decide_eq_true h2,decide_eq_false (by omega)];rfl
   ·rw [decide_eq_false (by omega:¬ r.num < 0),decide_eq_true (by omega)];rfl
  have h2:decide (sgz (-r.num) < 0) = decide (0 < sgz r.num):=by
   rcases sgz_cases r.num with ⟨a,b⟩ | ⟨a,b⟩ | ⟨a,b⟩ <;> rcases sgz_cases (-r.num) with ⟨c,d⟩ | ⟨c,d⟩ | ⟨c,d⟩ <;> rw [b,d] <;> first | rfl | omega
  rw [h1,h2]
  unfold rnd
  exact nrm_neg _ _ _
def zp (e:Int):Rat:=dq ⟨false,1,e⟩
theorem dq_scale (s:Bool) (m:Nat) (e:Int):dq ⟨s,m,e⟩ = rq s m 0 * zp e:=by
 unfold zp dq
 simp only
 have h:=rq_mul s false m (1 * 2 ^ e.toNat) 0 0
 have h2:=rq_mul s false m 1 0 (2 ^ (-e).toNat)
 by_cases he:0≤e
 ·rw [if_pos he,if_pos he,← h];simp [dn];rfl
 ·rw [if_neg he,if_neg he,← h2];simp [dn]
theorem rq_int (s:Bool) (n:Nat):rq s n 0 = ((sgn s n:Int):Rat):=by
 unfold rq
 rw [show dn 0 = 1 from rfl,Rat.mkRat_one]
theorem zp_zero:zp 0 = 1:=by
 unfold zp dq;simp only;rw [if_pos (by decide),rq_int];rfl
theorem zp_shift (e:Int) (t:Nat):zp (e + t) = rq false (2 ^ t) 0 * zp e:=by
 unfold zp
 rw [dq_shift,dq_scale,Nat.mul_one];rfl
theorem zp_nat (t:Nat):zp t = rq false (2 ^ t) 0:=by
 have h:=zp_shift 0 t
 rwa [Int.zero_add,zp_zero,Rat.mul_one] at h
theorem zp_addn (e:Int) (t:Nat):zp (e + t) = zp t * zp e:=by rw [zp_shift,zp_nat]
theorem zp_inv (t:Nat):zp (-(t:Int)) * zp t = 1:=by
 have h:=zp_addn (-(t:Int)) t
 rw [show -(t:Int) + (t:Int) = 0 from by omega,zp_zero,Rat.mul_comm] at h
 exact h.symm
theorem rq_pos' {n d:Nat} (h:n≠0):0 < rq false n d:=by
 have h1:rq false n d≠0:=fun e=>h (rq_eq_zero.1 e)
 have h2:¬ rq false n d < 0:=fun e=>by
  have:=(rq_neg_iff false n d).1 e
  rw [sgn_false] at this;omega
 exact Rat.lt_of_le_of_ne (Rat.not_lt.1 h2) (fun e=>h1 e.symm)
theorem zp_pos (e:Int):0 < zp e:=by
 unfold zp dq
 simp only
 split
 ·exact rq_pos' (Nat.ne_of_gt (Nat.mul_pos (by decide) (Nat.two_pow_pos _)))
 ·exact rq_pos' (by decide)
theorem nok_few {n k:Nat} {e:Int} (h:(limbs n).length≤k) (h1:-1048576≤e) (h2:e + 32 * k≤1048576):nok n e = true:=by
 by_cases h0:n = 0
 ·subst h0;rfl
 ·have:=tz_le_len h
  exact nok_in h0 (by omega) (by omega)
end Rc
