/- Parts of the proof, 9: the texts WlN, Bnd, DyM, DyQ, DyR, Law5, DyO, Run, WlO, WlP, Mrg, WlQ, WkM, WkN, WkO, WlR, as far as they are used. -/
import Derived.Test.YtmpkandbccallaaGreatDoorBo08
set_option linter.unusedSimpArgs false
set_option linter.unusedVariables false
namespace Go.Proofs.YtmpkandbccallaaGreatDoor
open Go Go.RowKit Rc
theorem merge_w (a b:List Mu) (c:Rat) {B C K:Nat} (hA:MB B a) (hB:MB C b) [Br c K] (h1:B≤10000000000) (h2:C≤1000000000) (h3:K≤1000000000) (hl:a.length≤10000) (hlb:b.length≤2):Ctr Tryz.prog 188 [V.one (El.row muE a),V.one (El.row muE b),V.agg (qL (c))] (R.one (V.one (El.row muE (mergeM a b c)))):=
 merge_r a b c hA hB (by have:=Nat.mul_le_mul_right (C + K + 2) hlb;omega) hl (by omega)
set_option maxRecDepth 10000 in
set_option maxHeartbeats 2000000 in
theorem above_r (s:Sc) {B:Nat} (hB:∀ m∈s.lems,Fq m.v B) (hB2:B≤10000000) (hl:s.lems.length≤1000000) {b:Nat} (hq:QOk s.q) (hd:∀ d∈s.path,DOk b s.q d) (hb:b≤1000000) (hpl:s.path.length≤1000) (f:Af) {bf:Nat} (hf:FOk bf (s.q.g.inp + s.q.g.us.length) f) (hb5:bf≤9):Ctr Tryz.prog 143 [scV s,afV f] (R.tup [qV (qOf (abQ s f)),V.one (El.row muE (abL s f)),V.one (Leaf.val (.bool (abB s f)))]):=by
 refine bd_ Tryz.func143 Tryz.ntmps143 rfl (fun w0 A0=>?_)
 have hg:=hq.g;have hr:=hq.r;have hlo:=hr.lo;have hhi:=hr.hi
 have h1:=hg.i1;have h2:=hg.i3;have h3:=hg.u4;have h4:=hg.o1;have h5:=hg.o3
 have hfl:=hf.len
 refine zc 21 rfl ?_
 refine lpR_ (fun m Γ H=>∃ (i:Nat) (out:List Mu),f.ts.length - i = m∧Γ = [(2,some (D.ptr 0 0)),(3,some (D.ptr 1 0)),(4,some (D.ptr 2 0)),(7,some (D.v (V.one (El.row muE out)))),(8,some (D.val (.int .i64 ((i:Nat):Int))))]∧H = [hb_ 42 (scL s),hb_ 29 (afL f),hb_ 27 [Leaf.val (.bool false),natL ([]),natL ([])]]∧i≤f.ts.length∧absn s.q.g.inp s.lems (f.ts.take i) = (out,true)) ⟨0,[],rfl,rfl,rfl,Nat.zero_le _,rfl⟩ rfl ?_
 rintro m Γ H ⟨i,out,rfl,rfl,rfl,hi0,habs⟩
 refine zc 6 rfl (tq_ rfl (jln rfl) ?_)
 by_cases hi:i < f.ts.length
 ·refine tq_ rfl (ltT rfl) (zl 8 rfl ?_)
  obtain ⟨x,hx⟩:∃ x,f.ts[i]? = some x:=⟨_,List.getElem?_eq_getElem hi⟩
  have hxm:=List.mem_of_getElem? hx
  haveI hxb:=(hf.bd x hxm).br
  have hxv:=hf.var x hxm
  have hder:=abs_ok hq hB hf hb5 i
  rw [habs] at hder
  have hMB:MB (7 * (8 * B + 50)) out:=hder.bd
  have hol:out.length≤14:=hder.len
  have hsl:=atLeast_ok (B:=B) hq hxv
  have hM1:MB (2 * B + 12) (atLeast s.q.g.inp x.1):=hsl.bd
  have hM1l:(atLeast s.q.g.inp x.1).length≤2:=hsl.len
  obtain ⟨hM2,hM2l⟩:=getD_ok (v:=x.1) hq hB hxv
  refine zc 4 rfl (tq_ rfl (jix i hx rfl) (tq_ rfl (jlr rfl) (zl 9 rfl (tc_ fn186 rfl (atmost_r s (by assumption) (by omega) (by omega) (by omega) x.1 (by omega)) (zl 12 rfl (tc_ fn37 rfl (rqsign (qOf (x.2)) (x.2) (qOf_q _) (Br.use (by omega))) ?_))))))
  by_cases hpos:0 < x.2
  ·refine tq_ rfl (gtT rfl (sg_gt.2 hpos)) (zl 7 rfl (tc_ fn187 rfl (atleast_r s (by omega) x.1 (by omega)) (zl 24 rfl (zl 8 rfl (eq_ (D.agg (qL (rq false (cnum x.2) (cden x.2)))) rfl (abs_ls x.2) (tc_ fn188 rfl (merge_w out (atLeast s.q.g.inp x.1) (rq false (cnum x.2) (cden x.2)) (by assumption) (by assumption) (by omega) (by omega) (by omega) (by omega) (by omega)) (zl 6 rfl ?_)))))))
   refine tq_ rfl (jad (i + 1) rfl) (zl 2 rfl (At_free 3 (At_free 4 (trim_ 3 rfl ?_))))
   exact nx_ ⟨i + 1,_,rfl,rfl,rfl,hi,by rw [absn_take hx,habs];exact abst_pos hpos⟩ rfl
  ·refine tq_ rfl (gtF rfl (fun e=>hpos (sg_gt.1 e))) (zl 7 rfl ?_)
   by_cases hm:(atMost s.q.g.inp s.lems x.1).isSome = true
   ·refine zc 2 rfl (is_ true rfl (hm) (zl 24 rfl (eq_ (D.agg (qL (rq false (cnum x.2) (cden x.2)))) rfl (abs_ls x.2) (tc_ fn188 rfl (merge_w out ((atMost s.q.g.inp s.lems x.1).getD []) (rq false (cnum x.2) (cden x.2)) (by assumption) (by assumption) (by omega) (by omega) (by omega) (by omega) (by omega)) (zl 6 rfl (tq_ rfl (jad (i + 1) rfl) (zl 2 rfl (At_free 3 (At_free 4 ?_)))))))))
    refine trim_ 3 rfl ?_
    exact nx_ ⟨i + 1,_,rfl,rfl,rfl,hi,by rw [absn_take hx,habs];exact abst_some hpos hm⟩ rfl
   ·refine zc 2 rfl (is_ false rfl (by simpa using hm) (zl 5 rfl ?_))
    have hbad:abB s f = false:=abB_bad (i:=i + 1) (by rw [absn_take hx,habs];exact abst_none hpos (by simpa using hm))
    refine zc 7 rfl ?_
    exact r3_ hq_ rfl (by unfold abQ;rw [abL_f hbad,hbad,if_neg (by decide)];show _ = R.tup [qV (qOf 0),_,_];rw [← qV_zero] <;> rfl)
 ·refine tq_ rfl (ltF rfl) (zl 9 rfl ?_)
  have hie:i = f.ts.length:=by omega
  rw [hie,List.take_length] at habs
  have hder:=abs_ok hq hB hf hb5 f.ts.length
  rw [List.take_length,habs] at hder
  have hMB:MB (7 * (8 * B + 50)) out:=hder.bd
  have hol:out.length≤14:=hder.len
  have hcan:CanM out:=hder.can
  have hok:∀ m∈out,(formM s m.r).2 = true:=hder.ok
  have hB3:abB s f = true:=by unfold abB;rw [habs]
  have hL:abL s f = out:=by unfold abL;rw [habs]
  have hfm:=hf.fl
  have hsm:FL (14 * (4 * B + b + 7 * (8 * B + 50) + 42)) (s.q.g.inp + s.q.g.us.length) (sumM s out):=(sumM_fl hq hd hB hMB).mono (Nat.mul_le_mul_right _ hol) (Nat.le_refl _)
  haveI:=hfm.fm (by omega);haveI:=hfm.cb
  haveI:=hsm.fm (by omega);haveI:=hsm.cb
  refine zc 3 rfl (tc_ fn18 rfl (sum_r s hB (by omega) (by omega) hq hd (by omega) (by omega) out (by assumption) (by assumption) (by omega) (by assumption) (by omega)) (zl 12 rfl (tc_ fn20 rfl (rsub7 f (sumM s out) (by omega) (by omega) (by omega)) (zl 7 rfl ?_))))
  exact r3_ hq_ rfl (by rw [hL,hB3];unfold abQ;rw [hB3,if_pos rfl,hL] <;> rfl)
end Go.Proofs.YtmpkandbccallaaGreatDoor
set_option linter.unusedSimpArgs false
set_option linter.unusedVariables false
namespace Rc
open Go Go.RowKit
def W (φ:Rw→Rat):List Mu→Rat
 | []=>0
 | m :: l=>m.c.q * φ m.r + W φ l
theorem W_ins (φ:Rw→Rat) (r:Rw) (c:Rat):∀ l:List Mu,W φ (insM l r c) = W φ l + c * φ r
 | []=>by simp only [insM,W,qOf_q];grind
 | m :: l=>by
  unfold insM
  split
  ·simp only [W,W_ins φ r c l];grind
  ·split
   ·rename_i h;simp only [W,qOf_q,h];grind
   ·simp only [W,qOf_q];grind
theorem W_plus (φ:Rw→Rat) (r:Rw) (c:Rat) (l:List Mu):W φ (plusM l r c) = W φ l + c * φ r:=by
 unfold plusM;split
 ·rename_i h;subst h;grind
 ·exact W_ins φ r c l
theorem W_merge (φ:Rw→Rat) (c:Rat):∀ (b a:List Mu),W φ (mergeM a b c) = W φ a + c * W φ b
 | [],a=>by simp only [mergeM,List.foldl_nil,W];grind
 | m :: b,a=>by
  have e:mergeM a (m :: b) c = mergeM (plusM a m.r (m.c.q * c)) b c:=rfl
  rw [e,W_merge φ c b,W_plus]
  simp only [W];grind
theorem W_app (φ:Rw→Rat) (m:Mu):∀ l:List Mu,W φ (l ++ [m]) = W φ l + m.c.q * φ m.r
 | []=>by simp only [List.nil_append,W];grind
 | x :: l=>by simp only [List.cons_append,W,W_app φ m l];grind
def rowC (s:Sc) (r:Rw):Rat:=(formM s r).1.c
theorem sumC_foldl (s:Sc):∀ (l:List Mu) (a:Af),(l.foldl (fun a m=>fAdd a (fSc (formM s m.r).1 m.c.q)) a).c = a.c + W (rowC s) l
 | [],a=>by simp only [List.foldl_nil,W];grind
 | m :: l,a=>by
  rw [List.foldl_cons,sumC_foldl s l]
  simp only [W,fAdd,fSc,rowC];grind
theorem sumM_c (s:Sc) (l:List Mu):(sumM s l).c = W (rowC s) l:=by
 unfold sumM;rw [sumC_foldl];simp only [fZ];grind
def lb (s:Sc) (v:Nat):Rat:=if v < s.q.g.inp then (s.q.r.lo[v]?).getD 0 else 0
def ub (s:Sc) (v:Nat):Rat:=if v < s.q.g.inp then (s.q.r.hi[v]?).getD 0 else if (best s.lems ((v - s.q.g.inp:Nat):Int)).2 = 0 ∨ lv s.lems (best s.lems ((v - s.q.g.inp:Nat):Int)).2≤0 then 0 else lv s.lems (best s.lems ((v - s.q.g.inp:Nat):Int)).2
theorem m1:((-1:Int):Rat) = -1:=by decide
theorem p1:((1:Int):Rat) = 1:=by decide
section
variable {s:Sc}
theorem W_least (hq:QOk s.q) {v:Nat} (hv:v < s.q.g.inp + s.q.g.us.length):W (rowC s) (atLeast s.q.g.inp v) = - lb s v:=by
 unfold atLeast lb
 split
 ·have:=hq.r.lo
  obtain ⟨c,hc⟩:∃ c,s.q.r.lo[v]? = some c:=⟨_,List.getElem?_eq_getElem (by omega)⟩
  simp only [W,rowC,form_lo hc,hc,qOf_q,fSub,fV,fN,m1,p1,Option.getD_some];grind
 ·obtain ⟨p,hp⟩:∃ p,s.q.g.us[v - s.q.g.inp]? = some p:=⟨_,List.getElem?_eq_getElem (by omega)⟩
  simp only [W,rowC,form_zero hp,qOf_q,fV,p1];grind
theorem W_most (hq:QOk s.q) {v:Nat} {l:List Mu} (hv:v < s.q.g.inp + s.q.g.us.length) (h:atMost s.q.g.inp s.lems v = some l):W (rowC s) l = ub s v:=by
 unfold atMost at h
 unfold ub
 split at h
 ·rename_i hi
  cases h
  rw [if_pos hi]
  have:=hq.r.hi
  obtain ⟨c,hc⟩:∃ c,s.q.r.hi[v]? = some c:=⟨_,List.getElem?_eq_getElem (by omega)⟩
  simp only [W,rowC,form_hi hc,hc,qOf_q,fSub,fV,fN,m1,p1,Option.getD_some];grind
 ·rename_i hi
  rw [if_neg hi]
  obtain ⟨p,hp⟩:∃ p,s.q.g.us[v - s.q.g.inp]? = some p:=⟨_,List.getElem?_eq_getElem (by omega)⟩
  split at h
  ·cases h
  ·rename_i hb
   obtain ⟨y,hy,yu,yp,hly,hy0,hyl⟩:=best_lo (fun e=>hb (.inl e))
   obtain ⟨z,hz,zu,zp,hlz,hz0,hzl⟩:=best_hi (fun e=>hb (.inr e))
   rw [hlz,hly] at h
   rw [hlz]
   split at h
   ·rename_i hu
    cases h
    rw [if_pos (.inr hu)]
    simp only [W,rowC,form_off hp hz0 hz zu zp hu,qOf_q,fSc,fV,m1,p1];grind
   ·rename_i hu
    rw [if_neg (fun e=>e.elim (fun e=>hb (.inr e)) hu)]
    split at h
    ·rename_i hl
     cases h
     simp only [W,rowC,form_on hp hy0 hy yu yp hl,form_up hp hz0 hz zu zp,qOf_q,fSub,fV,fN,m1,p1];grind
    ·rename_i hl
     cases h
     have h1:0 < z.v.q:=by grind
     have h2:z.v.q - y.v.q≠0:=by grind
     simp only [W,rowC,form_up hp hz0 hz zu zp,form_tri hp hy0 hy yu yp hz0 hz zu zp (by grind) h1,qOf_q,fSub,fSc,fV,fN,m1,p1]
     have h3:(z.v.q - y.v.q) * (1 / (z.v.q - y.v.q)) = 1:=by rw [Rat.div_def,Rat.one_mul];exact Rat.mul_inv_cancel _ h2
     generalize 1 / (z.v.q - y.v.q) = k at *
     grind
def bndT (s:Sc) (t:Tm):Rat:=if 0 < t.2 then lb s t.1 else ub s t.1
def bndS (s:Sc):List Tm→Rat
 | []=>0
 | t :: ts=>t.2 * bndT s t + bndS s ts
theorem abst_W (hq:QOk s.q) {a:List Mu × Bool} {t:Tm} (hv:t.1 < s.q.g.inp + s.q.g.us.length) (h:(abst s.q.g.inp s.lems a t).2 = true):W (rowC s) (abst s.q.g.inp s.lems a t).1 = W (rowC s) a.1 - t.2 * bndT s t:=by
 unfold abst at h ⊢
 unfold bndT
 split at h
 ·rename_i ha
  rw [if_pos ha]
  split at h
  ·rename_i hp
   rw [if_pos hp,if_pos hp]
   simp only []
   rw [W_merge,W_least hq hv,abs_eq,if_neg (by grind)];grind
  ·rename_i hp
   rw [if_neg hp,if_neg hp]
   split at h
   ·rename_i l hl
    simp only [hl]
    rw [W_merge,W_most hq hv hl,abs_eq]
    split
    ·grind
    ·have:t.2 = 0:=by grind
     rw [this];grind
   ·simp at h
 ·rename_i ha;exact absurd h ha
theorem absn_W (hq:QOk s.q):∀ (ts:List Tm) (a:List Mu × Bool),(∀ t∈ts,t.1 < s.q.g.inp + s.q.g.us.length)→(ts.foldl (abst s.q.g.inp s.lems) a).2 = true→W (rowC s) (ts.foldl (abst s.q.g.inp s.lems) a).1 = W (rowC s) a.1 - bndS s ts
 | [],a,_,_=>by simp only [List.foldl_nil,bndS];grind
 | t :: ts,a,hv,h=>by
  have h2:(abst s.q.g.inp s.lems a t).2 = true:=by
   cases e:(abst s.q.g.inp s.lems a t).2
   ·have:=absn_no (inp:=s.q.g.inp) (lems:=s.lems) ts _ e
    rw [List.foldl_cons] at h
    rw [this] at h;simp at h
   ·rfl
  rw [List.foldl_cons,absn_W hq ts _ (fun x hx=>hv x (by simp [hx])) h,abst_W hq (hv t (by simp)) h2]
  simp only [bndS];grind
theorem abQ_eq {f:Af} (hq:QOk s.q) (hv:∀ t∈f.ts,t.1 < s.q.g.inp + s.q.g.us.length) (h:abB s f = true):abQ s f = f.c + bndS s f.ts:=by
 have h1:=absn_W hq f.ts ([],true) hv h
 unfold abQ
 rw [if_pos h]
 show f.c + (sumM s (abL s f)).c * ((-1:Int):Rat) = _
 rw [sumM_c,m1]
 have h2:W (rowC s) (abL s f) = 0 - bndS s f.ts:=h1
 rw [h2];grind
end
def KB (j:Nat):Nat:=5000 * 2 ^ j
structure LOk (q:Qu) (m:Lm):Prop where
 u0:0≤m.unit
 u:m.unit.toNat < q.g.us.length
 can:m.v = qOf m.v.q
 hb:Hb m.v.q (KB m.unit.toNat)
structure SOk (s:Sc):Prop where
 q:QOk s.q
 d:∀ d∈s.path,DOk 200 s.q d
 pl:s.path.length≤100
 l:∀ m∈s.lems,LOk s.q m
 ll:s.lems.length≤100
theorem KB_le {j:Nat} (h:j < 4):KB j≤40000:=by
 unfold KB
 have:2 ^ j≤2 ^ 3:=Nat.pow_le_pow_right (by decide) (by omega)
 omega
theorem SOk.B {s:Sc} (h:SOk s):∀ m∈s.lems,Fq m.v 40001:=by
 intro m hm
 have h1:=h.l m hm
 rw [h1.can]
 have h2:=h.q.g.u4
 have h3:=KB_le (j:=m.unit.toNat) (by have:=h1.u;omega)
 haveI:=(h1.hb.mono h3).br
 exact Fq.of
def wgt (inp v:Nat):Nat:=if v < inp then 11 else KB (v - inp) + 4
def wS (inp:Nat):Nat→Nat
 | 0=>0
 | n + 1=>wS inp n + wgt inp n
theorem wS_mono (inp:Nat) {a b:Nat} (h:a≤b):wS inp a≤wS inp b:=by
 induction b with
 | zero=>
      have:a = 0:=by omega
      subst this;exact Nat.le_refl _
 | succ b ih=>
  by_cases e:a = b + 1
  ·subst e;exact Nat.le_refl _
  ·have:=ih (by omega)
   show _≤wS inp b + wgt inp b
   omega
theorem wS_inp (inp:Nat):∀ n,n≤inp→wS inp n = 11 * n
 | 0,_=>rfl
 | n + 1,h=>by
  show wS inp n + wgt inp n = _
  rw [wS_inp inp n (by omega)]
  unfold wgt
  rw [if_pos (by omega)];omega
theorem wS_unit (inp:Nat):∀ j,wS inp (inp + j) + 5000 = 11 * inp + 4 * j + 5000 * 2 ^ j
 | 0=>by
  show wS inp inp + 5000 = _
  rw [wS_inp inp inp (Nat.le_refl _)]
 | j + 1=>by
  have ih:=wS_unit inp j
  show wS inp (inp + j) + wgt inp (inp + j) + 5000 = _
  unfold wgt
  rw [if_neg (by omega),show inp + j - inp = j by omega,Nat.pow_succ]
  unfold KB
  omega
theorem Hb.z {n:Nat}:Hb 0 n:=Hb.zero.mono (Nat.zero_le _)
theorem bndT_hb {s:Sc} (h:SOk s) {t:Tm} (hv:t.1 < s.q.g.inp + s.q.g.us.length):Hb (bndT s t) (wgt s.q.g.inp t.1 - 4):=by
 have hl:=h.q.r.lo
 have hh:=h.q.r.hi
 unfold bndT lb ub wgt
 by_cases hi:t.1 < s.q.g.inp
 ·obtain ⟨x,hx⟩:∃ x,s.q.r.lo[t.1]? = some x:=⟨_,List.getElem?_eq_getElem (by omega)⟩
  obtain ⟨y,hy⟩:∃ y,s.q.r.hi[t.1]? = some y:=⟨_,List.getElem?_eq_getElem (by omega)⟩
  obtain ⟨h1,h2,_⟩:=h.q.r.bd _ _ _ hx hy
  simp only [if_pos hi,hx,hy,Option.getD_some]
  split
  ·exact h1.mono (by omega)
  ·exact h2.mono (by omega)
 ·simp only [if_neg hi]
  split
  ·exact Hb.z
  ·split
   ·exact Hb.z
   ·rename_i hne
    obtain ⟨z,hz,zu,zp,hlz,hz0,hzl⟩:=best_hi (fun e=>hne (.inl e))
    rw [hlz]
    have:=(h.l z (List.mem_of_getElem? hz)).hb
    rw [zu] at this
    exact this.mono (by show KB (t.1 - s.q.g.inp)≤_;omega)
theorem bndS_hb {s:Sc} (h:SOk s) {n:Nat} (hn:n≤s.q.g.inp + s.q.g.us.length):∀ (ts:List Tm) (a:Nat),CanT ts→(∀ t∈ts,Hb t.2 3)→(∀ t∈ts,a≤t.1∧t.1 < n)→Hb (bndS s ts) (wS s.q.g.inp n - wS s.q.g.inp a)
 | [],a,_,_,_=>Hb.z
 | t :: ts,a,hc,hb,hv=>by
  obtain ⟨c1,c2,c3⟩:=hc
  have ht:=hv t (by simp)
  have ih:=bndS_hb h hn ts (t.1 + 1) c3 (fun x hx=>hb x (by simp [hx])) (fun x hx=>⟨c2 x hx,(hv x (by simp [hx])).2⟩)
  haveI h1:=hb t (by simp)
  haveI h2:=bndT_hb h (t:=t) (by omega)
  haveI h3:=ih
  have h4:Hb (t.2 * bndT s t + bndS s ts) (3 + (wgt s.q.g.inp t.1 - 4) + (wS s.q.g.inp n - wS s.q.g.inp (t.1 + 1)) + 1):=Hb.add
  refine h4.mono ?_
  have e1:=wS_mono s.q.g.inp (show t.1 + 1≤n by omega)
  have e2:=wS_mono s.q.g.inp ht.1
  have e3:wS s.q.g.inp (t.1 + 1) = wS s.q.g.inp t.1 + wgt s.q.g.inp t.1:=rfl
  have e4:4≤wgt s.q.g.inp t.1:=by unfold wgt;split <;> omega
  omega
theorem abQ_hb {s:Sc} (h:SOk s) {f:Af} {n:Nat} (hn:n≤s.q.g.inp + s.q.g.us.length) (hf:FOk 3 n f) (hb:abB s f = true):Hb (abQ s f) (wS s.q.g.inp n + 4):=by
 rw [abQ_eq h.q (fun t ht=>by have:=hf.var t ht;omega) hb]
 haveI:=hf.cb
 haveI:=bndS_hb h hn f.ts 0 hf.can hf.bd (fun t ht=>⟨Nat.zero_le _,hf.var t ht⟩)
 have h4:Hb (f.c + bndS s f.ts) (3 + (wS s.q.g.inp n - wS s.q.g.inp 0) + 1):=Hb.add
 exact h4.mono (by have:wS s.q.g.inp 0 = 0:=rfl;omega)
theorem unit_hb {s:Sc} (h:SOk s) {f:Af} {j:Nat} (hj:j < s.q.g.us.length) (hf:FOk 3 (s.q.g.inp + j) f) (hb:abB s f = true):Hb (abQ s f) (KB j - 4200):=by
 refine (abQ_hb h (by omega) hf hb).mono ?_
 have h1:=wS_unit s.q.g.inp j
 have h2:=h.q.g.i3
 have h3:=h.q.g.u4
 unfold KB
 omega
end Rc
set_option linter.unusedVariables false
set_option linter.unusedSimpArgs false
namespace Rc
open Go
def tzF:Nat→Nat→Nat
 | 0,_=>0
 | f + 1,n=>if n % 2 = 0 then tzF f (n / 2) + 1 else 0
def tz (n:Nat):Nat:=tzF (bl n) n
theorem tzF_spec:∀ (f n:Nat),n≠0→n < 2 ^ f→∃ m,n = 2 ^ tzF f n * m∧m % 2 = 1
 | 0,n,h0,h=>by simp at h;omega
 | f + 1,n,h0,h=>by
  unfold tzF
  by_cases h2:n % 2 = 0
  ·rw [if_pos h2]
   obtain ⟨m,h3,h4⟩:=tzF_spec f (n / 2) (by omega) (by rw [Nat.pow_succ] at h;omega)
   refine ⟨m,?_,h4⟩
   rw [Nat.pow_succ,Nat.mul_right_comm,← h3];omega
  ·rw [if_neg h2];exact ⟨n,by simp,by omega⟩
theorem tz_spec {n:Nat} (h:n≠0):∃ m,n = 2 ^ tz n * m∧m % 2 = 1:=tzF_spec _ n h (bl_lt n)
theorem pow_odd_unique {a b m m':Nat} (h:2 ^ a * m = 2 ^ b * m') (hm:m % 2 = 1) (hm':m' % 2 = 1):a = b∧m = m':=by
 have key:∀ (a c m m':Nat),2 ^ a * m = 2 ^ (a + c) * m'→m % 2 = 1→c = 0:=by
  intro a c m m' h hm
  rw [Nat.pow_add,Nat.mul_assoc] at h
  have:=Nat.eq_of_mul_eq_mul_left (Nat.two_pow_pos a) h
  cases c with
  | zero=>rfl
  | succ c=>rw [Nat.pow_succ,Nat.mul_right_comm] at this;omega
 have e:a = b:=by
  rcases Nat.le_total a b with hab | hab
  ·have:=key a (b - a) m m' (by rw [show a + (b - a) = b from by omega];exact h) hm;omega
  ·have:=key b (a - b) m' m (by rw [show b + (a - b) = a from by omega];exact h.symm) hm';omega
 subst e
 exact ⟨rfl,Nat.eq_of_mul_eq_mul_left (Nat.two_pow_pos a) h⟩
theorem tz_of {n k m:Nat} (h:n = 2 ^ k * m) (hm:m % 2 = 1):tz n = k:=by
 have hn:n≠0:=by
  rw [h];exact Nat.ne_of_gt (Nat.mul_pos (Nat.two_pow_pos k) (by omega))
 obtain ⟨m',h1,h2⟩:=tz_spec hn
 exact (pow_odd_unique (h1.symm.trans h) h2 hm).1
theorem tz_mul {n:Nat} (k:Nat) (h:n≠0):tz (2 ^ k * n) = k + tz n:=by
 obtain ⟨m,h1,h2⟩:=tz_spec h
 refine tz_of (m:=m) ?_ h2
 rw [Nat.pow_add,Nat.mul_assoc,← h1]
theorem tz_add {lo k:Nat} (hi:Nat) (h0:lo≠0) (h:lo < 2 ^ k):tz (lo + 2 ^ k * hi) = tz lo:=by
 obtain ⟨m,h1,h2⟩:=tz_spec h0
 have hk:tz lo < k:=by
  refine Nat.lt_of_not_le fun hle=>?_
  have:2 ^ k≤2 ^ tz lo:=Nat.pow_le_pow_right (by decide) hle
  have:2 ^ tz lo * 1≤2 ^ tz lo * m:=Nat.mul_le_mul_left _ (by omega)
  omega
 refine tz_of (m:=m + 2 ^ (k - tz lo) * hi) ?_ ?_
 ·rw [Nat.mul_add,← h1,← Nat.mul_assoc,← Nat.pow_add,show tz lo + (k - tz lo) = k from by omega]
 ·obtain ⟨j,hj⟩:∃ j,k - tz lo = j + 1:=⟨k - tz lo - 1,by omega⟩
  rw [hj,Nat.pow_succ,Nat.mul_right_comm];omega
theorem tz_dvd (n:Nat):2 ^ tz n * (n / 2 ^ tz n) = n:=by
 by_cases h:n = 0
 ·subst h;simp
 ·obtain ⟨m,h1,h2⟩:=tz_spec h
  have:n / 2 ^ tz n = m:=by
   conv=>lhs;arg 1;rw [h1]
   exact Nat.mul_div_cancel_left m (Nat.two_pow_pos _)
  rw [this,← h1]
theorem tz_div_odd {n:Nat} (h:n≠0):n / 2 ^ tz n % 2 = 1:=by
 obtain ⟨m,h1,h2⟩:=tz_spec h
 have:n / 2 ^ tz n = m:=by
  conv=>lhs;arg 1;rw [h1]
  exact Nat.mul_div_cancel_left m (Nat.two_pow_pos _)
 rw [this];exact h2
theorem tz_lt_bl {n:Nat} (h:n≠0):tz n < bl n:=by
 have h1:=tz_dvd n
 have h2:=tz_div_odd h
 have h3:=bl_lt n
 generalize n / 2 ^ tz n = q at h1 h2
 refine Nat.lt_of_not_le fun hle=>?_
 have:2 ^ bl n≤2 ^ tz n:=Nat.pow_le_pow_right (by decide) hle
 have:2 ^ tz n * 1≤2 ^ tz n * q:=Nat.mul_le_mul_left _ (by omega)
 omega
theorem and_neg {x:Nat} (h0:x≠0) (h:x < 4294967296):x &&& (4294967296 - x) = 2 ^ tz x:=by
 obtain ⟨m,h1,h2⟩:=tz_spec h0
 obtain ⟨q,rfl⟩:∃ q,m = 2 * q + 1:=⟨m / 2,by omega⟩
 generalize hk:tz x = k at *
 have hp:=Nat.two_pow_pos k
 have hlt:k < 32:=by
  refine Nat.lt_of_not_le fun hle=>?_
  have:2 ^ 32≤2 ^ k:=Nat.pow_le_pow_right (by decide) hle
  have:2 ^ k * 1≤2 ^ k * (2 * q + 1):=Nat.mul_le_mul_left _ (by omega)
  omega
 have e1:x = 2 ^ (k + 1) * q + 2 ^ k:=by rw [h1,Nat.mul_add,Nat.mul_one,Nat.pow_succ,Nat.mul_assoc]
 have e2:x - 1 = 2 ^ (k + 1) * q + (2 ^ k - 1):=by omega
 have hpk:2 ^ k < 2 ^ (k + 1):=Nat.pow_lt_pow_right (by decide) (by omega)
 apply Nat.eq_of_testBit_eq
 intro i
 rw [Nat.testBit_and,show (4294967296 - x) = 2 ^ 32 - ((x - 1) + 1) from by omega,Nat.testBit_two_pow_sub_succ (by omega),e2,Nat.testBit_two_pow_mul_add _ (by omega),Nat.testBit_two_pow]
 conv=>lhs;arg 1;rw [e1,Nat.testBit_two_pow_mul_add _ hpk]
 by_cases hi:i < k + 1
 ·rw [if_pos hi,if_pos hi,Nat.testBit_two_pow,Nat.testBit_two_pow_sub_one]
  by_cases hik:k = i
  ·subst hik;simp [hlt]
  ·simp [hik]
 ·rw [if_neg hi,if_neg hi]
  have:¬ k = i:=by omega
  simp only [this,decide_false]
  cases Nat.testBit q (i - (k + 1)) <;> simp
theorem tz32_lt {x:Nat} (h0:x≠0) (h:x < 4294967296):tz x < 32:=by
 have h1:=tz_lt_bl h0
 have h2:=bl_le_of_lt (n:=x) (k:=32) h
 omega
def bruijn:List Nat:=[0,1,28,2,29,14,24,3,30,22,20,15,25,17,4,8,31,27,13,23,21,19,16,7,26,12,18,6,11,5,10,9]
theorem bruijn_get {k:Nat} (h:k < 32):bruijn[2 ^ k * 125613361 % 4294967296 / 134217728]? = some k:=by
 have:∀ k:Fin 32,bruijn[2 ^ k.val * 125613361 % 4294967296 / 134217728]? = some k.val:=by decide
 exact this ⟨k,h⟩
theorem bruijn_lt {k:Nat} (h:k < 32):2 ^ k * 125613361 % 4294967296 / 134217728 < 32:=by omega
theorem zeros_at {l:List Nat} (hs:Small l) {k:Nat} (hk:k < l.length) (h:val (l.take k) = 0) (h0:l[k]≠0):tz (val l) = 32 * k + tz l[k]:=by
 have hb:=hs.get k hk
 rw [val_split l k hk,h,Nat.zero_add,pow32,tz_mul _ (by omega)]
 rw [show (4294967296:Nat) = 2 ^ 32 from rfl,tz_add _ h0 hb]
theorem zeros_next {l:List Nat} {k:Nat} (hk:k < l.length) (h:val (l.take k) = 0) (h0:l[k] = 0):val (l.take (k + 1)) = 0:=by
 rw [val_take_succ l k hk,h,h0];simp
theorem zeros_in {l:List Nat} {k:Nat} (hn:val l≠0) (h:val (l.take k) = 0):k < l.length:=by
 refine Nat.lt_of_not_le fun hle=>hn ?_
 rwa [val_take_all l k hle] at h
theorem shl_val {l:List Nat} (hs:Small l) (k:Nat):val (List.replicate (k / 32) 0 ++ padL (l.length + 1) (val l * 2 ^ (k % 32))) = val l * 2 ^ k:=by
 have h1:=val_lt hs
 have h2:2 ^ (k % 32)≤2 ^ 32:=Nat.pow_le_pow_right (by decide) (by omega)
 have h3:val l * 2 ^ (k % 32) < 4294967296 ^ (l.length + 1):=by
  rw [Nat.pow_succ]
  exact Nat.mul_lt_mul_of_lt_of_le h1 h2 (by decide)
 rw [val_append,val_replicate,List.length_replicate,val_padL h3,Nat.zero_add,pow32,Nat.mul_comm,Nat.mul_assoc,← Nat.pow_add,show k % 32 + 32 * (k / 32) = k from by omega]
structure Dy where
 neg:Bool
 mag:Nat
 exp:Int
def Dy.zero:Dy:=⟨false,0,0⟩
def nok (n:Nat) (e:Int):Bool:=n == 0 || (decide (-1048576≤e + tz n) && decide (e + tz n≤1048576))
def nrm (s:Bool) (n:Nat) (e:Int):Dy:=if n = 0 then Dy.zero else if nok n e then ⟨s,n / 2 ^ tz n,e + tz n⟩ else Dy.zero
theorem nrm_zero (s:Bool) (e:Int):nrm s 0 e = Dy.zero:=rfl
theorem nok_zero (e:Int):nok 0 e = true:=rfl
theorem nok_in {n:Nat} {e:Int} (h:n≠0) (h1:-1048576≤e + tz n) (h2:e + tz n≤1048576):nok n e = true:=by
 unfold nok;simp [h1,h2]
theorem nok_out {n:Nat} {e:Int} (h:n≠0) (h1:e + tz n < -1048576 ∨ 1048576 < e + tz n):nok n e = false:=by
 unfold nok;simp [h];omega
theorem nrm_in {s:Bool} {n:Nat} {e:Int} (h:n≠0) (h1:-1048576≤e + tz n) (h2:e + tz n≤1048576):nrm s n e = ⟨s,n / 2 ^ tz n,e + tz n⟩:=by
 unfold nrm;rw [if_neg h,if_pos (nok_in h h1 h2)]
theorem nrm_out {s:Bool} {n:Nat} {e:Int} (h:n≠0) (h1:e + tz n < -1048576 ∨ 1048576 < e + tz n):nrm s n e = Dy.zero:=by
 unfold nrm;rw [if_neg h,nok_out h h1];rfl
theorem nrm_mag_le (s:Bool) (n:Nat) (e:Int):(nrm s n e).mag≤n:=by
 unfold nrm
 split
 ·exact Nat.zero_le _
 ·split
  ·exact Nat.div_le_self _ _
  ·exact Nat.zero_le _
theorem nrm_exp (s:Bool) (n:Nat) (e:Int):-1048576≤(nrm s n e).exp∧(nrm s n e).exp≤1048576:=by
 unfold nrm
 split
 ·decide
 ·rename_i h0
  split
  ·rename_i h
   unfold nok at h
   simp only [Bool.or_eq_true,beq_iff_eq,Bool.and_eq_true,decide_eq_true_eq] at h
   rcases h with h | h
   ·exact absurd h h0
   ·exact h
  ·decide
end Rc
set_option linter.unusedVariables false
set_option linter.unusedSimpArgs false
namespace Rc
open Go Go.RowKit
@[reducible] def dV (d:Dy):V:=V.agg [Leaf.val (.bool d.neg),natL (limbs d.mag),Leaf.val (.int .i64 d.exp)]
theorem dV_zero:dV Dy.zero = V.agg [Leaf.val (.bool false),nilL,Leaf.val (.int .i64 0)]:=by
 show V.agg [Leaf.val (.bool false),natL (limbs 0),Leaf.val (.int .i64 0)] = _
 rw [limbs_zero];rfl
structure Dfit (k:Nat) (d:Dy):Prop where
 n:(limbs d.mag).length≤k
 lo:-1048576≤d.exp
 hi:d.exp≤1048576
class Bd (d:Dy) (k:outParam Nat):Prop where
 fit:Dfit k d
theorem Dfit.mono {d:Dy} {k k':Nat} (h:Dfit k d) (hk:k≤k'):Dfit k' d:=⟨Nat.le_trans h.n hk,h.lo,h.hi⟩
theorem Bd.use {d:Dy} {k k':Nat} [h:Bd d k] (hk:k≤k'):Dfit k' d:=h.fit.mono hk
instance Bn.dmag {d:Dy} {k:Nat} [h:Bd d k]:Bn d.mag k:=⟨h.fit.n⟩
instance Bd.nrm {s:Bool} {n:Nat} {e:Int} {k:Nat} [h:Bn n k]:Bd (nrm s n e) k:=
 ⟨⟨(Bn.mono (nrm_mag_le s n e) h).le,(nrm_exp s n e).1,(nrm_exp s n e).2⟩⟩
instance Bd.zero:Bd Dy.zero 0:=⟨⟨by show (limbs 0).length≤0;rw [limbs_zero];exact Nat.le_refl _,by decide,by decide⟩⟩
instance Bz.num {r:Rat} {k:Nat} [h:Br r k]:Bz r.num k:=⟨h.fit.n⟩
instance Bn.den {r:Rat} {k:Nat} [h:Br r k]:Bn r.den (k + 1):=Bn.of (Nat.lt_of_le_of_lt h.den (Nat.pow_lt_pow_right (by decide) (Nat.lt_succ_self _)))
theorem dn_qOf (r:Rat):dn (val (limbs (cden r))) = r.den:=by rw [val_limbs,dn_cden]
def exD (r:Rat):Dy:=if bl r.den = tz r.den + 1 then nrm (decide (r.num < 0)) r.num.natAbs (-(tz r.den:Int)) else Dy.zero
instance Bd.exD {r:Rat} {k:Nat} [h:Br r k]:Bd (exD r) k:=by
 unfold Rc.exD
 split
 ·haveI:Bn r.num.natAbs k:=Bz.bn (Bz.num (r:=r))
  infer_instance
 ·exact ⟨Bd.zero.fit.mono (Nat.zero_le _)⟩
def dq (d:Dy):Rat:=if 0≤d.exp then rq d.neg (d.mag * 2 ^ d.exp.toNat) 0 else rq d.neg d.mag (2 ^ (-d.exp).toNat)
theorem pow_lt {k j:Nat} (h:k < 32 * j):2 ^ k < 4294967296 ^ j:=by
 rw [pow32]
 exact Nat.pow_lt_pow_right (by decide) h
theorem Bn.shift {n i k:Nat} (j:Nat) (h:Bn n i) (hk:k < 32 * j):Bn (n * 2 ^ k) (i + j):=Bn.of (mul_lt_pow h.lt (pow_lt hk))
theorem Br.dqj {d:Dy} {k:Nat} (j:Nat) (h:Bd d k) (hj:d.exp.natAbs < 32 * j):Br (dq d) (k + j + 1):=by
 have hn:Bn d.mag k:=⟨h.fit.n⟩
 unfold Rc.dq
 split
 ·exact Br.rqn (i:=k + j + 1) (j:=0) (Nat.lt_of_lt_of_le (hn.shift (k:=d.exp.toNat) j (by omega)).lt (Nat.pow_le_pow_right (by decide) (by omega))) (by simp) (by omega)
 ·exact Br.rq (k:=k + j + 1) (Nat.lt_of_lt_of_le hn.lt (Nat.pow_le_pow_right (by decide) (by omega))) (Nat.lt_of_lt_of_le (pow_lt (k:=(-d.exp).toNat) (j:=j) (by omega)) (Nat.pow_le_pow_right (by decide) (by omega)))
instance Br.dq {d:Dy} {k:Nat} [h:Bd d k]:Br (dq d) (k + 32769 + 1):=Br.dqj 32769 h (by have:=h.fit.lo;have:=h.fit.hi;omega)
theorem bl_le_len {n k:Nat} (h:(limbs n).length≤k):bl n≤32 * k:=bl_le_of_lt (by rw [← pow32];exact limbs_length_le.1 h)
theorem tz_le_len {n k:Nat} (h:(limbs n).length≤k):tz n≤32 * k:=by
 by_cases h0:n = 0
 ·subst h0;exact Nat.zero_le _
 ·exact Nat.le_trans (Nat.le_of_lt (tz_lt_bl h0)) (bl_le_len h)
def lg (a b:Nat):Int:=
 if 0≤(bl a:Int) - bl b then (if a < b * 2 ^ ((bl a:Int) - bl b).toNat then (bl a:Int) - bl b - 1 else (bl a:Int) - bl b)
 else (if a * 2 ^ (-((bl a:Int) - bl b)).toNat < b then (bl a:Int) - bl b - 1 else (bl a:Int) - bl b)
theorem lg_or (a b:Nat):lg a b = (bl a:Int) - bl b ∨ lg a b = (bl a:Int) - bl b - 1:=by
 unfold lg;split <;> split <;> simp
theorem lg_bound {a b k j:Nat} (ha:(limbs a).length≤k) (hb:(limbs b).length≤j):-(32 * j:Int) - 1≤lg a b∧lg a b≤32 * k:=by
 have h1:=bl_le_len ha;have h2:=bl_le_len hb
 rcases lg_or a b with h | h <;> omega
def scN (n:Nat) (e:Int):Nat:=if 0≤e then n else n * 2 ^ (-e).toNat
def scD (d:Nat) (e:Int):Nat:=if 0≤e then d * 2 ^ e.toNat else d
def rndQ (a b:Nat) (e:Int) (away:Bool):Nat:=if away && decide (scN a e % scD b e≠0) then scN a e / scD b e + 1 else scN a e / scD b e
def rnd (s:Bool) (a b:Nat) (p:Int) (away:Bool):Dy:=nrm s (rndQ a b (lg a b - p + 1) away) (lg a b - p + 1)
def rndD (r:Rat) (p:Int) (away:Bool):Dy:=if p < 1 ∨ 4096 < p ∨ r.num = 0 then Dy.zero else rnd (decide (r.num < 0)) r.num.natAbs r.den p away
def rndE (p:Int):Int:=if p < 1 ∨ 4096 < p then 1 else 0
theorem scN_pos {n:Nat} {e:Int} (h:0≤e):scN n e = n:=if_pos h
theorem scN_neg {n:Nat} {e:Int} (h:¬ 0≤e):scN n e = n * 2 ^ (-e).toNat:=if_neg h
theorem scD_pos {n:Nat} {e:Int} (h:0≤e):scD n e = n * 2 ^ e.toNat:=if_pos h
theorem scD_neg {n:Nat} {e:Int} (h:¬ 0≤e):scD n e = n:=if_neg h
theorem rndD_of {r:Rat} {p:Int} {away:Bool} (h1:¬ p < 1) (h2:¬ 4096 < p) (h3:¬ r.num = 0):rndD r p away = rnd (decide (r.num < 0)) r.num.natAbs r.den p away:=if_neg (by omega)
theorem rndE_of {p:Int} (h1:¬ p < 1) (h2:¬ 4096 < p):rndE p = 0:=if_neg (by omega)
theorem rndQ_no {a b:Nat} {e:Int}:rndQ a b e false = scN a e / scD b e:=by simp [rndQ]
theorem rndQ_up {a b:Nat} {e:Int} (h:scN a e % scD b e≠0):rndQ a b e true = scN a e / scD b e + 1:=by simp [rndQ,h]
theorem rndQ_ex {a b:Nat} {e:Int} (h:¬ scN a e % scD b e≠0):rndQ a b e true = scN a e / scD b e:=by simp [rndQ,h]
end Rc
set_option linter.unusedVariables false
set_option linter.unusedSimpArgs false
namespace Rc
open Go Go.RowKit
theorem scD_ne {b:Nat} (h:b≠0) (e:Int):scD b e≠0:=by
 unfold scD;split
 ·exact Nat.mul_ne_zero h (Nat.ne_of_gt (Nat.two_pow_pos _))
 ·exact h
theorem sc_iff {x a b N:Nat} {e:Int} (h:0≤e + N):x * scD b e≤scN a e↔x * (b * 2 ^ (e + N).toNat)≤a * 2 ^ N:=by
 by_cases he:0≤e
 ·rw [scN_pos he,scD_pos he,show (e + N).toNat = e.toNat + N from by omega,Nat.pow_add,show x * (b * (2 ^ e.toNat * 2 ^ N)) = x * (b * 2 ^ e.toNat) * 2 ^ N from by simp only [Nat.mul_assoc]]
  exact (Nat.mul_le_mul_right_iff (Nat.two_pow_pos N)).symm
 ·rw [scN_neg he,scD_neg he]
  obtain ⟨m,hm⟩:∃ m,(e + N).toNat = m:=⟨_,rfl⟩
  rw [hm,show N = (-e).toNat + m from by omega,Nat.pow_add,← Nat.mul_assoc a,← Nat.mul_assoc x]
  exact (Nat.mul_le_mul_right_iff (Nat.two_pow_pos m)).symm
theorem lg_eq (a b:Nat):lg a b = if scN a ((bl a:Int) - bl b) < scD b ((bl a:Int) - bl b) then (bl a:Int) - bl b - 1 else (bl a:Int) - bl b:=by
 unfold lg scN scD
 split <;> rfl
theorem lg_spec {a b N:Nat} (ha:a≠0) (hb:b≠0) (hN:bl b + 1≤N) :
  b * 2 ^ (lg a b + N).toNat≤a * 2 ^ N∧a * 2 ^ N < b * 2 ^ (lg a b + 1 + N).toNat:=by
 have h1:=bl_lt a;have h2:=bl_le ha;have h3:=bl_lt b;have h4:=bl_le hb
 have p1:=bl_pos ha;have p2:=bl_pos hb
 obtain ⟨k,hk⟩:∃ k:Int,(bl a:Int) - bl b = k:=⟨_,rfl⟩
 have low:b * 2 ^ (k - 1 + N).toNat≤a * 2 ^ N:=by
  have e1:2 ^ bl b * 2 ^ (k - 1 + N).toNat = 2 ^ (bl a - 1) * 2 ^ N:=by
   rw [← Nat.pow_add,← Nat.pow_add,show bl b + (k - 1 + N).toNat = bl a - 1 + N from by omega]
  have e2:=Nat.mul_le_mul_right (2 ^ (k - 1 + N).toNat) (Nat.le_of_lt h3)
  have e3:=Nat.mul_le_mul_right (2 ^ N) h2
  omega
 have high:a * 2 ^ N < b * 2 ^ (k + 1 + N).toNat:=by
  have e1:2 ^ (bl b - 1) * 2 ^ (k + 1 + N).toNat = 2 ^ bl a * 2 ^ N:=by
   rw [← Nat.pow_add,← Nat.pow_add,show bl b - 1 + (k + 1 + N).toNat = bl a + N from by omega]
  have e2:=Nat.mul_le_mul_right (2 ^ (k + 1 + N).toNat) h4
  have e3:=(Nat.mul_lt_mul_right (Nat.two_pow_pos N)).2 h1
  omega
 have mid:=sc_iff (x:=1) (a:=a) (b:=b) (N:=N) (e:=k) (by omega)
 rw [Nat.one_mul,Nat.one_mul] at mid
 rw [lg_eq,hk]
 split
 ·rename_i h
  refine ⟨low,?_⟩
  rw [show k - 1 + 1 + (N:Int) = k + N from by omega]
  exact Nat.lt_of_not_le fun hle=>absurd (mid.2 hle) (Nat.not_le.2 h)
 ·rename_i h
  exact ⟨mid.1 (Nat.le_of_not_lt h),high⟩
theorem bl_quot {a b:Nat} {e:Int} (ha:a≠0) (hb:b≠0) (he:e≤lg a b):(bl (scN a e / scD b e):Int) = lg a b - e + 1:=by
 obtain ⟨N,hN⟩:∃ N,bl b + 1 + e.natAbs = N:=⟨_,rfl⟩
 obtain ⟨s1,s2⟩:=lg_spec (N:=N) ha hb (by omega)
 obtain ⟨K,hK⟩:∃ K:Nat,(K:Int) = lg a b - e:=⟨(lg a b - e).toNat,by omega⟩
 have hd:=Nat.pos_of_ne_zero (scD_ne hb e)
 have:bl (scN a e / scD b e) = K + 1:=by
  apply bl_unique
  ·rw [Nat.div_lt_iff_lt_mul hd]
   refine Nat.lt_of_not_le fun hle=>?_
   have:=(sc_iff (N:=N) (by omega)).1 hle
   rw [Nat.mul_left_comm,← Nat.pow_add,show K + 1 + (e + N).toNat = (lg a b + 1 + N).toNat from by omega] at this
   omega
  ·intro _
   rw [Nat.le_div_iff_mul_le hd,Nat.add_sub_cancel,sc_iff (N:=N) (by omega),Nat.mul_left_comm,← Nat.pow_add,show K + (e + N).toNat = (lg a b + N).toNat from by omega]
   exact s1
 omega
theorem Bn.scN {a i:Nat} {e:Int} (j:Nat) (h:Bn a i) (hj:e.natAbs < 32 * j):Bn (scN a e) (i + j):=by
 unfold Rc.scN
 split
 ·exact ⟨Nat.le_trans h.le (by omega)⟩
 ·exact h.shift j (by omega)
theorem Bn.rndQ {a b i:Nat} {e:Int} {up:Bool} (j:Nat) (h:Bn a i) (hj:e.natAbs < 32 * j):Bn (rndQ a b e up) (i + j + 1):=by
 have h1:=h.scN j hj
 have h2:Rc.rndQ a b e up≤Rc.scN a e + 1:=by
  have:=Nat.div_le_self (Rc.scN a e) (scD b e)
  unfold Rc.rndQ;split <;> omega
 exact Bn.mono h2 (Bn.of (Nat.lt_of_lt_of_le (Nat.succ_lt_succ h1.lt) (by rw [Nat.pow_succ];have:=Nat.pow_pos (n:=i + j) (show 0 < 4294967296 by decide);omega)))
instance Bn.one:Bn 1 1:=⟨by rw [limbs_one];exact Nat.le_refl _⟩
def wexp (a b:Dy):Int:=if b.mag = 0 then a.exp else if a.mag = 0 then b.exp else min a.exp b.exp
def wint (a:Dy) (w:Int):Int:=sgn a.neg (a.mag * 2 ^ (a.exp - w).toNat)
def mulD (a b:Dy):Dy:=nrm (a.neg != b.neg) (a.mag * b.mag) (a.exp + b.exp)
def addZ (a b:Dy):Int:=wint a (wexp a b) + wint b (wexp a b)
def addD (a b:Dy):Dy:=nrm (decide (addZ a b < 0)) (addZ a b).natAbs (wexp a b)
def negD (d:Dy):Dy:=⟨!d.neg && decide ((0:Int) < ((limbs d.mag).length:Int)),d.mag,d.exp⟩
instance Bd.negD {d:Dy} {k:Nat} [h:Bd d k]:Bd (negD d) k:=⟨⟨h.fit.n,h.fit.lo,h.fit.hi⟩⟩
instance Bd.mulD {a b:Dy} {i j:Nat} [ha:Bd a i] [hb:Bd b j]:Bd (mulD a b) (i + j):=by unfold Rc.mulD;infer_instance
theorem wexp_b {a b:Dy} {i j:Nat} (ha:Bd a i) (hb:Bd b j):-1048576≤wexp a b∧wexp a b≤1048576:=by
 have h1:=ha.fit.lo;have h2:=ha.fit.hi;have h3:=hb.fit.lo;have h4:=hb.fit.hi
 unfold wexp;split
 ·omega
 ·split <;> omega
theorem Bz.wint {a:Dy} {w:Int} {i:Nat} (j:Nat) (h:Bd a i) (hj:(a.exp - w).natAbs < 32 * j):Bz (wint a w) (i + j):=by
 haveI hn:Bn a.mag i:=⟨h.fit.n⟩
 haveI:Bn (a.mag * 2 ^ (a.exp - w).toNat) (i + j):=hn.shift j (by omega)
 unfold Rc.wint;infer_instance
instance Bz.addZ {a b:Dy} {i j:Nat} [ha:Bd a i] [hb:Bd b j]:Bz (addZ a b) (i + 65537 + (j + 65537) + 1):=by
 have hw:=wexp_b ha hb
 have h1:=ha.fit.lo;have h2:=ha.fit.hi;have h3:=hb.fit.lo;have h4:=hb.fit.hi
 haveI:=Bz.wint (a:=a) (w:=wexp a b) 65537 ha (by omega)
 haveI:=Bz.wint (a:=b) (w:=wexp a b) 65537 hb (by omega)
 unfold Rc.addZ;infer_instance
instance Bd.addD {a b:Dy} {i j:Nat} [ha:Bd a i] [hb:Bd b j]:Bd (addD a b) (i + 65537 + (j + 65537) + 1):=by
 haveI:Bn (Rc.addZ a b).natAbs (i + 65537 + (j + 65537) + 1):=Bz.bn inferInstance
 unfold Rc.addD;infer_instance
instance Bd.rndD {r:Rat} {p:Int} {w:Bool} [h:Br r 25000]:Bd (rndD r p w) 52001:=by
 unfold Rc.rndD
 split
 ·exact ⟨Bd.zero.fit.mono (Nat.zero_le _)⟩
 ·rename_i hc
  have hnl:(limbs (Int.natAbs r.num)).length≤25000:=Bz.use (z:=r.num) (Nat.le_refl _)
  have hdl:(limbs r.den).length≤25001:=Bn.use (n:=r.den) (Nat.le_refl _)
  have hlg:=lg_bound hnl hdl
  haveI:=Bn.rndQ (b:=r.den) (e:=lg r.num.natAbs r.den - p + 1) (up:=w) 27000 ⟨hnl⟩ (by omega)
  unfold rnd;infer_instance
end Rc
set_option linter.unusedVariables false
set_option linter.unusedSimpArgs false
namespace Rc
open Go Go.RowKit
theorem rq_ext {s:Bool} {n d n' d':Nat} (hd:d≠0) (hd':d'≠0) (h:n * d' = n' * d):rq s n d = rq s n' d':=by
 unfold rq dn
 rw [if_neg hd,if_neg hd',Rat.mkRat_eq_iff hd hd']
 have h1:(n:Int) * (d':Int) = (n':Int) * (d:Int):=by rw [← Int.natCast_mul,← Int.natCast_mul,h]
 cases s
 ·exact h1
 ·simp only [sgn_true,Int.neg_mul,h1]
theorem rq_zero_den (s:Bool) (n:Nat):rq s n 0 = rq s n 1:=rfl
theorem dq_shift (s:Bool) (m t:Nat) (e:Int):dq ⟨s,m,e + t⟩ = dq ⟨s,2 ^ t * m,e⟩:=by
 unfold dq
 simp only
 by_cases h1:0≤e
 ·rw [if_pos (by omega),if_pos h1,show (e + (t:Int)).toNat = t + e.toNat from by omega,Nat.pow_add]
  congr 1
  grind
 ·rw [if_neg h1]
  by_cases h2:0≤e + t
  ·rw [if_pos h2,rq_zero_den]
   refine rq_ext (by decide) (Nat.ne_of_gt (Nat.two_pow_pos _)) ?_
   rw [Nat.mul_one,Nat.mul_assoc,← Nat.pow_add,Nat.mul_comm,show (e + (t:Int)).toNat + (-e).toNat = t from by omega]
  ·rw [if_neg h2]
   refine rq_ext (Nat.ne_of_gt (Nat.two_pow_pos _)) (Nat.ne_of_gt (Nat.two_pow_pos _)) ?_
   rw [show (-e).toNat = t + (-(e + (t:Int))).toNat from by omega,Nat.pow_add]
   grind
theorem dq_nrm {s:Bool} {n:Nat} {e:Int} (h:nok n e = true):dq (nrm s n e) = dq ⟨s,n,e⟩:=by
 by_cases h0:n = 0
 ·subst h0
  rw [nrm_zero]
  unfold dq Dy.zero
  simp only
  have z:∀ (b:Bool) (d:Nat),rq b 0 d = 0:=by intro b d;unfold rq;cases b <;> simp [sgn]
  split <;> split <;> simp [z]
 ·have h1:nrm s n e = ⟨s,n / 2 ^ tz n,e + tz n⟩:=by unfold nrm;rw [if_neg h0,if_pos h]
  rw [h1,dq_shift,tz_dvd]
def zp (e:Int):Rat:=dq ⟨false,1,e⟩
theorem dq_scale (s:Bool) (m:Nat) (e:Int):dq ⟨s,m,e⟩ = rq s m 0 * zp e:=by
 unfold zp dq
 simp only
 have h:=rq_mul s false m (1 * 2 ^ e.toNat) 0 0
 have h2:=rq_mul s false m 1 0 (2 ^ (-e).toNat)
 by_cases he:0≤e
 ·rw [if_pos he,if_pos he,← h];simp [dn];rfl
 ·rw [if_neg he,if_neg he,← h2];simp [dn]
theorem rq_int (s:Bool) (n:Nat):rq s n 0 = ((sgn s n:Int):Rat):=by
 unfold rq
 rw [show dn 0 = 1 from rfl,Rat.mkRat_one]
theorem nok_few {n k:Nat} {e:Int} (h:(limbs n).length≤k) (h1:-1048576≤e) (h2:e + 32 * k≤1048576):nok n e = true:=by
 by_cases h0:n = 0
 ·subst h0;rfl
 ·have:=tz_le_len h
  exact nok_in h0 (by omega) (by omega)
end Rc
set_option linter.unusedVariables false
set_option linter.unusedSimpArgs false
namespace Rc
open Go Go.RowKit
def nzz (m:Nat) (e:Int):Rat:=((m:Int):Rat) * zp e
theorem dq_nz (s:Bool) (m:Nat) (e:Int):dq ⟨s,m,e⟩ = if s then -nzz m e else nzz m e:=by
 rw [dq_scale,rq_int]
 unfold nzz
 cases s
 ·rfl
 ·rw [sgn_true,Rat.intCast_neg,Rat.neg_mul];rfl
theorem dq_zero:dq Dy.zero = 0:=by
 show dq ⟨false,0,0⟩ = 0
 rw [dq_nz];unfold nzz;exact Rat.zero_mul _
@[reducible] def dnD (r:Rat) (p:Int):Dy:=rndD r p (decide (sg r < 0))
@[reducible] def upD (r:Rat) (p:Int):Dy:=rndD r p (decide (0 < sg r))
end Rc
set_option linter.unusedSimpArgs false
set_option linter.unusedVariables false
namespace Rc
open Go Go.RowKit
theorem rndD_hb {r:Rat} {p:Int} {w:Bool} {H:Nat} (h:Hb r H) (hH:H≤790000):Hb (dq (rndD r p w)) (H + 4100):=by
 by_cases hz:p < 1 ∨ 4096 < p ∨ r.num = 0
 ·have:rndD r p w = Dy.zero:=if_pos hz
  rw [this,dq_zero];exact Hb.z
 ·have h1:¬ p < 1:=fun e=>hz (.inl e)
  have h2:¬ 4096 < p:=fun e=>hz (.inr (.inl e))
  have h3:¬ r.num = 0:=fun e=>hz (.inr (.inr e))
  rw [rndD_of h1 h2 h3]
  unfold rnd
  obtain ⟨a,ha⟩:∃ a,r.num.natAbs = a:=⟨_,rfl⟩
  have ha0:a≠0:=by omega
  rw [ha]
  have hla:bl a≤H:=bl_le_of_lt (ha ▸ h.num)
  have hlb:bl r.den≤H + 1:=bl_le_of_lt (by have:=h.den;have:=r.den_pos;rw [Nat.pow_succ];omega)
  have hlg:=lg_or a r.den
  have hq:=bl_quot (a:=a) (b:=r.den) (e:=lg a r.den - p + 1) ha0 r.den_nz (by omega)
  obtain ⟨e,he⟩:∃ e,lg a r.den - p + 1 = e:=⟨_,rfl⟩
  rw [he] at hq ⊢
  have hq1:bl (scN a e / scD r.den e) = p.toNat:=by omega
  have hq2:scN a e / scD r.den e < 2 ^ p.toNat:=hq1 ▸ bl_lt _
  have hq3:rndQ a r.den e w≤2 ^ p.toNat:=by unfold rndQ;split <;> omega
  obtain ⟨q,hqq⟩:∃ q,rndQ a r.den e w = q:=⟨_,rfl⟩
  rw [hqq] at hq3 ⊢
  have hp2:p.toNat≤4096:=by omega
  have hl0:∀ k:Nat,4096 < 32 * k→(limbs q).length≤k:=fun k hk=>by
   refine limbs_length_le.2 (Nat.lt_of_le_of_lt hq3 ?_)
   rw [pow32]
   exact Nat.pow_lt_pow_right (by decide) (by omega)
  have hl:=hl0 200 (by decide)
  rw [dq_nrm (nok_few hl (by omega) (by omega))]
  unfold dq
  split
  ·rename_i h0
   simp only [] at h0
   refine Hb.rq ?_ (Nat.one_le_two_pow)
   refine Nat.lt_of_le_of_lt (Nat.mul_le_mul_right _ hq3) ?_
   rw [← Nat.pow_add]
   exact Nat.pow_lt_pow_right (by decide) (by simp only [];omega)
  ·rename_i h0
   simp only [] at h0
   refine Hb.rq (Nat.lt_of_le_of_lt hq3 (Nat.pow_lt_pow_right (by decide) (by omega))) ?_
   rw [dn_of (Nat.ne_of_gt (Nat.pow_pos (by decide)))]
   exact Nat.pow_le_pow_right (by decide) (by simp only [];omega)
def rndB (x:Rat) (up:Bool) (bits:Int):Rat:=if bits = 0 then x else if up = true then dq (upD x bits) else dq (dnD x bits)
theorem rndB_hb {x:Rat} {up:Bool} {bits:Int} {H:Nat} (h:Hb x H) (hH:H≤790000):Hb (rndB x up bits) (H + 4100):=by
 unfold rndB
 split
 ·exact h.mono (by omega)
 ·split
  ·exact rndD_hb h hH
  ·exact rndD_hb h hH
theorem Hb.limb {r:Rat} {n k:Nat} (h:Hb r n) (hk:n < 32 * k):Br r k:=by
 have h1:2 ^ n < 4294967296 ^ k:=by rw [pow32];exact Nat.pow_lt_pow_right (by decide) hk
 have h3:=h.num
 have h4:=h.den
 exact Br.of (by omega) (by omega)
theorem FOk.neg {b n:Nat} {f:Af} (h:FOk b n f):FOk b n (fSc f ((-1:Int):Rat)):=by
 have hneg:∀ {x:Rat},Hb x b→Hb (x * ((-1:Int):Rat)) b:=fun {x} hx=>by
  have:x * ((-1:Int):Rat) = -x:=by rw [m1];grind
  rw [this];haveI:=hx;exact Hb.neg
 refine ⟨by show CanT (scT f.ts _);rw [scT_eq];exact scR_can h.can,fun t ht=>?_,hneg h.cb,fun t ht=>?_⟩
 ·have ht:t∈scT f.ts ((-1:Int):Rat):=ht
  rw [scT_eq] at ht
  obtain ⟨u,h1,h2,h3,_⟩:=scR_mem ht
  rw [h3];exact hneg (h.bd u h1)
 ·have ht:t∈scT f.ts ((-1:Int):Rat):=ht
  rw [scT_eq] at ht
  obtain ⟨u,h1,h2,_⟩:=scR_mem ht
  rw [← h2];exact h.var u h1
def withL (s:Sc) (l:List Lm):Sc:=⟨s.q,s.path,l⟩
@[reducible] def negF (p:Af):Af:=fSc p ((-1:Int):Rat)
def bdA (s:Sc) (l:List Lm) (j:Nat) (p:Af):List Lm:=if abB (withL s l) p = true then [⟨(j:Int),false,qOf (abQ (withL s l) p),abL (withL s l) p⟩] else []
def bdB (s:Sc) (l:List Lm) (j:Nat) (p:Af):List Lm:=if abB (withL s l) (negF p) = true then [⟨(j:Int),true,qOf (-abQ (withL s l) (negF p)),abL (withL s l) (negF p)⟩] else []
def bdStep (s:Sc) (l:List Lm) (j:Nat):List Lm:=
 match s.q.g.us[j]? with
 | none=>l
 | some p=>l ++ bdA s l j p ++ bdB s l j p
def bdN (s:Sc) (n:Nat):List Lm:=(List.range n).foldl (bdStep s) s.lems
theorem bdN_succ (s:Sc) (n:Nat):bdN s (n + 1) = bdStep s (bdN s n) n:=by unfold bdN;rw [List.range_succ,List.foldl_append];rfl
theorem bdN_get {s:Sc} {n:Nat} {p:Af} (h:s.q.g.us[n]? = some p):bdN s (n + 1) = bdN s n ++ bdA s (bdN s n) n p ++ bdB s (bdN s n) n p:=by
 rw [bdN_succ];unfold bdStep;rw [h]
theorem bdA_t {s:Sc} {l:List Lm} {j:Nat} {p:Af} (h:abB (withL s l) p = true):bdA s l j p = [⟨(j:Int),false,qOf (abQ (withL s l) p),abL (withL s l) p⟩]:=if_pos h
theorem bdA_f {s:Sc} {l:List Lm} {j:Nat} {p:Af} (h:abB (withL s l) p = false):bdA s l j p = []:=if_neg (by rw [h];decide)
theorem bdB_t {s:Sc} {l:List Lm} {j:Nat} {p:Af} (h:abB (withL s l) (negF p) = true):bdB s l j p = [⟨(j:Int),true,qOf (-abQ (withL s l) (negF p)),abL (withL s l) (negF p)⟩]:=if_pos h
theorem bdB_f {s:Sc} {l:List Lm} {j:Nat} {p:Af} (h:abB (withL s l) (negF p) = false):bdB s l j p = []:=if_neg (by rw [h];decide)
def boundedM (s:Sc):Sc:=withL s (bdN s s.q.g.us.length)
theorem new_ok {s:Sc} (h:SOk s) {f:Af} {j:Nat} {up:Bool} {x:Rat} {l:List Mu} (hj:j < s.q.g.us.length) (hx:Hb x (KB j)):LOk s.q ⟨(j:Int),up,qOf x,l⟩:=
 ⟨by simp,by simpa using hj,by rw [qOf_q],by rw [qOf_q];simpa using hx⟩
theorem LOk.withL {s:Sc} {l:List Lm} (h:SOk s) (hl:∀ m∈l,LOk s.q m) (hll:l.length≤100):SOk (Rc.withL s l):=⟨h.q,h.d,h.pl,hl,hll⟩
theorem bdA_ok {s:Sc} (h:SOk s) {l:List Lm} {j:Nat} {p:Af} (hs:SOk (withL s l)) (hp:s.q.g.us[j]? = some p):(∀ m∈bdA s l j p,LOk s.q m)∧(bdA s l j p).length≤1:=by
 have hj:=(List.getElem?_eq_some_iff.1 hp).1
 unfold bdA
 split
 ·rename_i hb
  refine ⟨fun m hm=>?_,by simp⟩
  rw [List.mem_singleton] at hm
  subst hm
  exact new_ok (f:=p) h hj ((unit_hb hs hj (hs.q.g.us _ p hp) hb).mono (by omega))
 ·exact ⟨fun m hm=>by simp at hm,by simp⟩
theorem bdB_ok {s:Sc} (h:SOk s) {l:List Lm} {j:Nat} {p:Af} (hs:SOk (withL s l)) (hp:s.q.g.us[j]? = some p):(∀ m∈bdB s l j p,LOk s.q m)∧(bdB s l j p).length≤1:=by
 have hj:=(List.getElem?_eq_some_iff.1 hp).1
 unfold bdB
 split
 ·rename_i hb
  refine ⟨fun m hm=>?_,by simp⟩
  rw [List.mem_singleton] at hm
  subst hm
  have h1:=unit_hb hs hj (hs.q.g.us _ p hp).neg hb
  haveI:=h1.mono (show KB j - 4200≤KB j by omega)
  exact new_ok (f:=p) h hj Hb.neg
 ·exact ⟨fun m hm=>by simp at hm,by simp⟩
theorem bdN_ok {s:Sc} (h:SOk s) (h80:s.lems.length≤80):∀ n,n≤s.q.g.us.length→(∀ m∈bdN s n,LOk s.q m)∧(bdN s n).length≤s.lems.length + 2 * n
 | 0,_=>⟨h.l,Nat.le_refl _⟩
 | n + 1,hn=>by
  obtain ⟨h1,h2⟩:=bdN_ok h h80 n (by omega)
  have h4:=h.q.g.u4
  have hs:=LOk.withL h h1 (by omega)
  obtain ⟨p,hp⟩:∃ p,s.q.g.us[n]? = some p:=⟨_,List.getElem?_eq_getElem (by omega)⟩
  obtain ⟨a1,a2⟩:=bdA_ok h hs hp
  obtain ⟨b1,b2⟩:=bdB_ok h hs hp
  rw [bdN_get hp]
  refine ⟨fun m hm=>?_,by simp only [List.length_append];omega⟩
  rcases List.mem_append.1 hm with hm | hm
  ·rcases List.mem_append.1 hm with hm | hm
   ·exact h1 m hm
   ·exact a1 m hm
  ·exact b1 m hm
theorem bdN_sok {s:Sc} (h:SOk s) (h80:s.lems.length≤80) {n:Nat} (hn:n≤s.q.g.us.length):SOk (withL s (bdN s n)):=by
 obtain ⟨h1,h2⟩:=bdN_ok h h80 n hn
 have h4:=h.q.g.u4
 exact LOk.withL h h1 (by omega)
theorem boundedM_ok {s:Sc} (h:SOk s) (h80:s.lems.length≤80):SOk (boundedM s)∧(boundedM s).lems.length≤s.lems.length + 8:=by
 have h4:=h.q.g.u4
 obtain ⟨h1,h2⟩:=bdN_ok h h80 s.q.g.us.length (Nat.le_refl _)
 exact ⟨bdN_sok h h80 (Nat.le_refl _),by show (bdN s s.q.g.us.length).length≤_;omega⟩
theorem abQ_br {s:Sc} (h:SOk s) {f:Af} {j:Nat} (hj:j < s.q.g.us.length) (hf:FOk 3 (s.q.g.inp + j) f):Br (abQ s f) 40002:=by
 cases hb:abB s f
 ·unfold abQ;rw [hb,if_neg (by decide)];exact Br.zero.mono (by omega)
 ·have h4:=h.q.g.u4
  have hk:=KB_le (j:=j) (by omega)
  exact ((unit_hb h hj hf hb).mono (show KB j - 4200≤40000 by omega)).br.mono (by omega)
def pstep (l:List Nat) (q:Qu) (s:List Dc × Nat):List Dc × Nat:=
 if nx l s.2 4 = 2 ∨ nx l s.2 4 = 3 then (s.1 ++ [⟨1 + nx l s.2 4,nx l (nk l s.2) q.g.inp,numq l (nk l (nk l s.2))⟩],nk l (nk l (nk l (nk l s.2))))
 else if q.g.us.length = 0 then (s.1,nk l s.2)
 else if (decM s.1 1 ((nx l (nk l s.2) q.g.us.length:Nat):Int) || decM s.1 2 ((nx l (nk l s.2) q.g.us.length:Nat):Int)) = true then (s.1,nk l (nk l s.2))
 else (s.1 ++ [⟨1 + nx l s.2 4,nx l (nk l s.2) q.g.us.length,0⟩],nk l (nk l s.2))
def pathq (l:List Nat) (q:Qu) (k n:Nat):List Dc × Nat:=(List.range n).foldl (fun s _=>pstep l q s) ([],k)
theorem pathq_succ (l:List Nat) (q:Qu) (k n:Nat):pathq l q k (n + 1) = pstep l q (pathq l q k n):=by unfold pathq;rw [List.range_succ,List.foldl_append];rfl
theorem pathq_ok {l:List Nat} {q:Qu} {k:Nat} (hq:QOk q) (hk:k≤l.length):∀ n,(∀ d∈(pathq l q k n).1,DOk 200 q d)∧(pathq l q k n).1.length≤n∧(pathq l q k n).2≤l.length
 | 0=>⟨fun d hd=>by simp [pathq] at hd,by simp [pathq],hk⟩
 | n + 1=>by
  obtain ⟨h1,h2,h3⟩:=pathq_ok hq hk n
  rw [pathq_succ]
  have h4:nx l (pathq l q k n).2 4 < 4:=nx_lt (by decide)
  unfold pstep
  split
  ·rename_i hc
   refine ⟨fun d hd=>?_,by simp;omega,nk_le (nk_le (nk_le (nk_le h3)))⟩
   rcases List.mem_append.1 hd with hd | hd
   ·exact h1 d hd
   ·rw [List.mem_singleton] at hd
    subst hd
    have:=hq.g.i1
    exact ⟨.inr ⟨by show 1 + nx l _ 4 = 3 ∨ 1 + nx l _ 4 = 4;omega,nx_lt (by omega)⟩,(numq_hb _ _).mono (by omega)⟩
  ·rename_i hc
   split
   ·exact ⟨h1,by show (pathq l q k n).1.length≤n + 1;omega,nk_le h3⟩
   ·rename_i hu
    split
    ·exact ⟨h1,by show (pathq l q k n).1.length≤n + 1;omega,nk_le (nk_le h3)⟩
    ·refine ⟨fun d hd=>?_,by simp;omega,nk_le (nk_le h3)⟩
     rcases List.mem_append.1 hd with hd | hd
     ·exact h1 d hd
     ·rw [List.mem_singleton] at hd
      subst hd
      exact ⟨.inl ⟨by show 1 + nx l _ 4 = 1 ∨ 1 + nx l _ 4 = 2;omega,nx_lt (by omega),rfl⟩,Hb.z⟩
def partM (l:List Nat):Sc:=⟨(queryq l 0).1,(pathq l (queryq l 0).1 (nk l (queryq l 0).2) (nx l (queryq l 0).2 4)).1,[]⟩
theorem partM_ok (l:List Nat):SOk (partM l):=by
 have hq:=queryq_ok l 0
 have h4:nx l (queryq l 0).2 4 < 4:=nx_lt (by decide)
 obtain ⟨h1,h2,h3⟩:=pathq_ok (l:=l) hq (nk_le (queryq_le (Nat.zero_le _))) (nx l (queryq l 0).2 4)
 exact ⟨hq,h1,by show (pathq _ _ _ _).1.length≤100;omega,fun m hm=>by simp [partM] at hm,by simp [partM]⟩
theorem dc0 (k i:Nat):D.agg [Leaf.val (.int .i64 (k:Int)),Leaf.val (.int .i64 (i:Int)),Leaf.val (.bool false),nilL,nilL] = D.agg [Leaf.val (.int .i64 (k:Int)),Leaf.val (.int .i64 (i:Int)),Leaf.val (.bool (cneg 0)),natL (limbs (cnum 0)),natL (limbs (cden 0))]:=by
 rw [cnum_zero,cden_zero,limbs_zero];rfl
def sumB (l:List Nat):Nat:=l.foldl (· + ·) 0
theorem sumB_take {l:List Nat} {i x:Nat} (h:l[i]? = some x):sumB (l.take (i + 1)) = sumB (l.take i) + x:=by
 unfold sumB;rw [take_snoc h,List.foldl_append];rfl
theorem sumB_le {l:List Nat} (h:∀ x∈l,x < 256):∀ i,i≤l.length→sumB (l.take i)≤256 * i
 | 0,_=>by simp [sumB]
 | i + 1,hi=>by
  obtain ⟨x,hx⟩:∃ x,l[i]? = some x:=⟨_,List.getElem?_eq_getElem (by omega)⟩
  rw [sumB_take hx]
  have:=sumB_le h i (by omega)
  have:=h x (List.mem_of_getElem? hx)
  omega
def extM (l:List Nat):Sc:=if 0 < sumB l % 3 then boundedM (partM l) else partM l
theorem extM_ok (l:List Nat):SOk (extM l)∧(extM l).lems.length≤8:=by
 have h:=partM_ok l
 unfold extM
 split
 ·have:=boundedM_ok h (Nat.zero_le _)
  exact ⟨this.1,by have h2:=this.2;simpa [partM] using h2⟩
 ·exact ⟨h,Nat.zero_le _⟩
def strong (l:List Lm) (j:Nat) (up:Bool) (x:Rat):Bool:=
 if up = true then decide ((best l (j:Int)).2 = 0) || decide (x < lv l (best l (j:Int)).2) else decide ((best l (j:Int)).1 = 0) || decide (lv l (best l (j:Int)).1 < x)
abbrev Dom:Type:=Sc→Af→Rat × List Mu × Bool
def sideV (d:Dom) (s:Sc) (bits:Int) (up:Bool) (p:Af):Rat:=if up = true then rndB (-(d s (negF p)).1) true bits else rndB (d s p).1 false bits
def sideL (d:Dom) (s:Sc) (up:Bool) (p:Af):List Mu:=if up = true then (d s (negF p)).2.1 else (d s p).2.1
def sideB (d:Dom) (s:Sc) (up:Bool) (p:Af):Bool:=if up = true then (d s (negF p)).2.2 else (d s p).2.2
def sideN (d:Dom) (s:Sc) (bits:Int) (j:Nat) (up:Bool) (p:Af):List Lm:=
 if sideB d s up p && strong s.lems j up (sideV d s bits up p) then [⟨(j:Int),up,qOf (sideV d s bits up p),sideL d s up p⟩] else []
def runA (d:Dom) (s:Sc) (bits:Int) (l:List Lm) (j:Nat) (p:Af):List Lm:=l ++ sideN d (withL s l) bits j false p
def runStep (d:Dom) (s:Sc) (bits:Int) (l:List Lm) (j:Nat):List Lm:=
 match s.q.g.us[j]? with
 | none=>l
 | some p=>runA d s bits l j p ++ sideN d (withL s (runA d s bits l j p)) bits j true p
def runN (d:Dom) (s:Sc) (bits:Int) (n:Nat):List Lm:=(List.range n).foldl (runStep d s bits) s.lems
theorem runN_succ (d:Dom) (s:Sc) (bits:Int) (n:Nat):runN d s bits (n + 1) = runStep d s bits (runN d s bits n) n:=by unfold runN;rw [List.range_succ,List.foldl_append];rfl
theorem runN_get {d:Dom} {s:Sc} {bits:Int} {n:Nat} {p:Af} (h:s.q.g.us[n]? = some p) :
  runN d s bits (n + 1) = runA d s bits (runN d s bits n) n p ++ sideN d (withL s (runA d s bits (runN d s bits n) n p)) bits n true p:=by
 rw [runN_succ];unfold runStep;rw [h]
def runM (d:Dom) (s:Sc) (bits:Int):Sc:=withL s (runN d s bits s.q.g.us.length)
def DomOk (d:Dom):Prop:=∀ (s:Sc),SOk s→∀ (j:Nat) (f:Af),j < s.q.g.us.length→FOk 3 (s.q.g.inp + j) f→(d s f).2.2 = true→Hb (d s f).1 (KB j - 4200)
theorem sideN_ok {d:Dom} (hd:DomOk d) {s:Sc} (h:SOk s) {bits:Int} {j:Nat} {up:Bool} {p:Af} (hp:s.q.g.us[j]? = some p):(∀ m∈sideN d s bits j up p,LOk s.q m)∧(sideN d s bits j up p).length≤1:=by
 have hj:=(List.getElem?_eq_some_iff.1 hp).1
 have hK:5000≤KB j:=by unfold KB;have:=Nat.one_le_two_pow (n:=j);omega
 have hK2:=KB_le (j:=j) (by have:=h.q.g.u4;omega)
 unfold sideN
 split
 ·rename_i hb
  rw [Bool.and_eq_true] at hb
  refine ⟨fun m hm=>?_,by simp⟩
  rw [List.mem_singleton] at hm
  subst hm
  refine new_ok (f:=p) h hj ?_
  have hb1:=hb.1
  unfold sideB at hb1
  unfold sideV
  split
  ·rename_i hu
   rw [if_pos hu] at hb1
   haveI:=hd s h j _ hj (h.q.g.us _ p hp).neg hb1
   exact (rndB_hb (H:=KB j - 4200) Hb.neg (by omega)).mono (by omega)
  ·rename_i hu
   rw [if_neg hu] at hb1
   exact (rndB_hb (hd s h j _ hj (h.q.g.us _ p hp) hb1) (by omega)).mono (by omega)
 ·exact ⟨fun m hm=>by simp at hm,by simp⟩
theorem runA_ok {d:Dom} (hd:DomOk d) {s:Sc} (h:SOk s) {bits:Int} {l:List Lm} {j:Nat} {p:Af} (hs:SOk (withL s l)) (hp:s.q.g.us[j]? = some p) :
  (∀ m∈runA d s bits l j p,LOk s.q m)∧(runA d s bits l j p).length≤l.length + 1:=by
 obtain ⟨a1,a2⟩:=sideN_ok hd (bits:=bits) (up:=false) hs hp
 unfold runA
 refine ⟨fun m hm=>?_,by simp only [List.length_append];omega⟩
 rcases List.mem_append.1 hm with hm | hm
 ·exact hs.l m hm
 ·exact a1 m hm
theorem runN_ok {d:Dom} (hd:DomOk d) {s:Sc} (h:SOk s) (h80:s.lems.length≤80) (bits:Int):∀ n,n≤s.q.g.us.length→(∀ m∈runN d s bits n,LOk s.q m)∧(runN d s bits n).length≤s.lems.length + 2 * n
 | 0,_=>⟨h.l,Nat.le_refl _⟩
 | n + 1,hn=>by
  obtain ⟨h1,h2⟩:=runN_ok hd h h80 bits n (by omega)
  have h4:=h.q.g.u4
  have hs:=LOk.withL h h1 (by omega)
  obtain ⟨p,hp⟩:∃ p,s.q.g.us[n]? = some p:=⟨_,List.getElem?_eq_getElem (by omega)⟩
  obtain ⟨a1,a2⟩:=runA_ok hd h (bits:=bits) hs hp
  have hs2:=LOk.withL h a1 (by omega)
  obtain ⟨b1,b2⟩:=sideN_ok hd (bits:=bits) (up:=true) hs2 hp
  rw [runN_get hp]
  refine ⟨fun m hm=>?_,by simp only [List.length_append];omega⟩
  rcases List.mem_append.1 hm with hm | hm
  ·exact a1 m hm
  ·exact b1 m hm
theorem runN_sok {d:Dom} (hd:DomOk d) {s:Sc} (h:SOk s) (h80:s.lems.length≤80) {bits:Int} {n:Nat} (hn:n≤s.q.g.us.length):SOk (withL s (runN d s bits n)):=by
 obtain ⟨h1,h2⟩:=runN_ok hd h h80 bits n hn
 have h4:=h.q.g.u4
 exact LOk.withL h h1 (by omega)
theorem runM_ok {d:Dom} (hd:DomOk d) {s:Sc} (h:SOk s) (h80:s.lems.length≤80) (bits:Int):SOk (runM d s bits)∧(runM d s bits).lems.length≤s.lems.length + 8:=by
 have h4:=h.q.g.u4
 obtain ⟨h1,h2⟩:=runN_ok hd h h80 bits s.q.g.us.length (Nat.le_refl _)
 exact ⟨runN_sok hd h h80 (Nat.le_refl _),by show (runN d s bits s.q.g.us.length).length≤_;omega⟩
end Rc
set_option linter.unusedSimpArgs false
set_option linter.unusedVariables false
namespace Go.Proofs.YtmpkandbccallaaGreatDoor
open Go Go.RowKit Rc
set_option maxRecDepth 10000 in
set_option maxHeartbeats 2000000 in
theorem bounded_r (s:Sc) (hs:SOk s) (h80:s.lems.length≤80):Ctr Tryz.prog 88 [scV s] (R.one (scV (boundedM s))):=by
 refine bd_ Tryz.func88 Tryz.ntmps88 rfl (fun w0 A0=>?_)
 have hq:=hs.q;have hd:=hs.d;have hpl:=hs.pl;have hB:=hs.B;have hll:=hs.ll
 have hg:=hq.g;have hr:=hq.r;have hlo:=hr.lo;have hhi:=hr.hi
 have g1:=hg.i1;have g2:=hg.i3;have g3:=hg.u4;have g4:=hg.o1;have g5:=hg.o3
 refine zc 7 rfl (dr_ 2 [(4,2),(7,2),(9,3),(10,3)] [2,3] (dz 4 rfl (ki_ 2 rfl (Jd_build0G (i:=2) rfl un40 ty133 rfl) (dz 2 rfl (ki_ 2 rfl (dal (e:=lmE) (l:=[]) rfl rfl) (dz 3 rfl (DK_nil (za 3 rfl ?_))))))))
 refine nz_ [so 1 (D.ptr 0 0),so 2 (D.ptr 1 0),so 3 (D.ptr 3 0)] [hb_ 42 (scL s),hb_ 42 scZ,hgr 133 6 lmE ([] ++ s.lems) 1,hb_ 42 (quL s.q ++ [El.row dcE s.path,Leaf.own 2 1])] rfl rfl (zc 5 rfl ?_)
 refine lpR_ (fun m Γ H=>∃ (i:Nat) (n:Nat) (out:List Lm),s.q.g.us.length - i = m∧Γ = [(1,some (D.ptr 0 0)),(2,some (D.ptr 1 0)),(3,some (D.ptr 3 0)),(4,some (D.val (.int .i64 ((i:Nat):Int))))]∧H = [hb_ 42 (scL s),hb_ 42 scZ,hgr 133 6 lmE out n,hb_ 42 (quL s.q ++ [El.row dcE s.path,Leaf.own 2 n])]∧i≤s.q.g.us.length∧out = bdN s i) ⟨0,1,s.lems,rfl,rfl,rfl,Nat.zero_le _,rfl⟩ rfl ?_
 rintro m Γ H ⟨i,n,out,rfl,rfl,rfl,hi0,hout⟩
 refine zc 8 rfl (tq_ rfl (jln rfl) ?_)
 by_cases hi:i < s.q.g.us.length
 ·refine tq_ rfl (ltT rfl) (zl 8 rfl ?_)
  obtain ⟨p,hp⟩:∃ p,s.q.g.us[i]? = some p:=⟨_,List.getElem?_eq_getElem hi⟩
  have hso:=bdN_sok hs h80 (n:=i) (by omega)
  rw [← hout] at hso
  have hol:=hso.ll
  have hol:out.length≤100:=hol
  have hoB:=hso.B
  have hpf:=hq.g.us i p hp
  have hpf2:FOk 3 (s.q.g.inp + s.q.g.us.length) p:=hpf.mono (Nat.le_refl _) (by omega)
  have hnf2:=hpf2.neg
  have hpl_:=hpf2.fl
  haveI:=hpl_.fm (by omega);haveI:=hpl_.cb
  refine nz_ [so 1 (D.ptr 0 0),so 2 (D.ptr 1 0),so 3 (D.ptr 3 0),so 4 (D.val (.int .i64 ((i:Nat):Int)))] [hb_ 42 (scL s),hb_ 42 scZ,hgr 133 6 lmE out n,hb_ 42 (quL s.q ++ [El.row dcE s.path,Leaf.own 2 n])] rfl rfl (zc 6 rfl (tq_ rfl (jix i hp rfl) (tq_ rfl (jlr rfl) (zl 5 rfl (nz_ [so 1 _,so 2 _,so 3 _,so 4 _,so 5 (D.ptr 4 0)] [_,_,_,_,hb_ 29 (afL p)] rfl rfl ?_)))))
  refine zc 1 rfl (tq_ rfl (jvl 11 rfl rfl) (zl 1 rfl (tc_ fn143 rfl (above_r (withL s out) hoB (by omega) (by show out.length≤_;omega) hso.q hso.d (by omega) (by have:=hso.pl;omega) p hpf2 (by omega)) (zl 11 rfl ?_))))
  refine nz_ [so 1 _,so 2 _,so 3 _,so 4 _,so 5 _,so 6 (D.ptr 5 0),so 7 (D.v (V.one (El.row muE (abL (withL s out) p)))),so 8 (D.bool (abB (withL s out) p))] [_,_,_,_,_,hb_ 27 (qL (abQ (withL s out) p))] rfl rfl (dr_ 1 [(9,6),(10,6)] [6] (kq_ rfl (jvl 11 rfl rfl) (dz 1 rfl (kc_ fn36 rfl (rqof (-1) (by decide) (by decide)) ?_))))
  refine kc_ fn64 rfl (rscale_w p ((-1:Int):Rat) (by omega) (by omega)) (kc_ fn143 rfl (above_r (withL s out) hoB (by omega) (by show out.length≤_;omega) hso.q hso.d (by omega) (by have:=hso.pl;omega) (negF p) hnf2 (by omega)) (dz 8 rfl (DK_nil (za 3 rfl ?_))))
  haveI hAq:Br (abQ (withL s out) (negF p)) 40002:=abQ_br hso (by exact hi) (by exact hpf.neg)
  haveI hPq:Br (abQ (withL s out) p) 40002:=abQ_br hso (by exact hi) (by exact hpf)
  refine nf_ [4] [so 1 _,so 2 _,so 3 _,so 4 _,so 6 _,so 7 _,so 8 _,so 9 (D.ptr 6 0),so 10 (D.v (V.one (El.row muE (abL (withL s out) (negF p))))),so 11 (D.bool (abB (withL s out) (negF p)))] [_,_,_,_,none,_,hb_ 27 (qL (abQ (withL s out) (negF p)))] rfl rfl rfl (zc 4 rfl ?_)
  refine Tc_cond rfl (fun hA=>?_) (fun hA=>?_)
  ·refine zc 7 rfl (te_ rfl (Je_buildSlice rfl un40 ty133 tz133 rfl (by decide) (by decide) rfl (by decide) rfl) (te_ rfl (jap (e:=lmE) (⟨((i:Nat):Int),false,(qOf ((abQ (withL s out) p))),(abL (withL s out) p)⟩) rfl rfl) (zl 5 rfl ?_)))
   refine nf_ [5] [so 1 _,so 2 _,so 3 _,so 4 _,so 9 _,so 10 _,so 11 _] [_,_,hgr 133 6 lmE (out ++ [⟨((i:Nat):Int),false,(qOf ((abQ (withL s out) p))),(abL (withL s out) p)⟩]) (n + 1),hb_ 42 (quL s.q ++ [El.row dcE s.path,Leaf.own 2 (n + 1)]),none,none,_] rfl rfl rfl (zc 4 rfl ?_)
   refine Tc_cond rfl (fun hB_=>?_) (fun hB_=>?_)
   ·refine dr_ 0 [(8,2),(10,3)] [2,3] (dz 1 rfl (kp_ [2] rfl (jld rfl) (dz 2 rfl (kc_ fn126 rfl (rqneg (qOf ((abQ (withL s out) (negF p)))) ((abQ (withL s out) (negF p))) (qOf_q _) (Br.use (by omega))) (dz 2 rfl (ke_ rfl (fun _=>Je_buildSlice rfl un40 ty133 tz133 rfl (by decide) (by decide) rfl (by decide) rfl) ?_))))))
    refine ki_ 2 rfl (dap (e:=lmE) (⟨((i:Nat):Int),true,(qOf (-((abQ (withL s out) (negF p))))),(abL (withL s out) (negF p))⟩) rfl rfl) (dz 2 rfl (DK_nil (za 2 rfl ?_)))
    refine nf_ [6] [so 1 _,so 2 _,so 3 _,so 4 _] [_,_,hgr 133 6 lmE (out ++ [⟨((i:Nat):Int),false,(qOf ((abQ (withL s out) p))),(abL (withL s out) p)⟩] ++ [⟨((i:Nat):Int),true,(qOf (-((abQ (withL s out) (negF p))))),(abL (withL s out) (negF p))⟩]) ((n + 1) + 1),hb_ 42 (quL s.q ++ [El.row dcE s.path,Leaf.own 2 ((n + 1) + 1)]),none,none,none] rfl rfl rfl (zc 2 rfl ?_)
    refine tq_ rfl (jad (i + 1) rfl) (zl 2 rfl (trim_ 4 rfl ?_))
    exact nx_ ⟨i + 1,_,_,rfl,rfl,rfl,hi,by rw [bdN_get hp,← hout,bdA_t hA,bdB_t hB_]⟩ rfl
   ·refine zc 5 rfl (tq_ rfl (jad (i + 1) rfl) (zl 2 rfl (At_free 6 (trim_ 4 rfl ?_))))
    exact nx_ ⟨i + 1,_,_,rfl,rfl,rfl,hi,by rw [bdN_get hp,← hout,bdA_t hA,bdB_f hB_];simp only [List.append_nil,List.append_assoc]⟩ rfl
  ·refine zc 7 rfl ?_
   refine Tc_cond rfl (fun hB_=>?_) (fun hB_=>?_)
   ·refine dr_ 0 [(8,2),(10,3)] [2,3] (dz 1 rfl (kp_ [2] rfl (jld rfl) (dz 2 rfl (kc_ fn126 rfl (rqneg (qOf ((abQ (withL s out) (negF p)))) ((abQ (withL s out) (negF p))) (qOf_q _) (Br.use (by omega))) (dz 2 rfl (ke_ rfl (fun _=>Je_buildSlice rfl un40 ty133 tz133 rfl (by decide) (by decide) rfl (by decide) rfl) ?_))))))
    refine ki_ 2 rfl (dap (e:=lmE) (⟨((i:Nat):Int),true,(qOf (-((abQ (withL s out) (negF p))))),(abL (withL s out) (negF p))⟩) rfl rfl) (dz 2 rfl (DK_nil (za 2 rfl ?_)))
    refine nf_ [5,6] [so 1 _,so 2 _,so 3 _,so 4 _] [_,_,hgr 133 6 lmE (out ++ [⟨((i:Nat):Int),true,(qOf (-((abQ (withL s out) (negF p))))),(abL (withL s out) (negF p))⟩]) (n + 1),hb_ 42 (quL s.q ++ [El.row dcE s.path,Leaf.own 2 (n + 1)]),none,none,none] rfl rfl rfl (zc 2 rfl (tq_ rfl (jad (i + 1) rfl) (zl 2 rfl (trim_ 4 rfl ?_))))
    exact nx_ ⟨i + 1,_,_,rfl,rfl,rfl,hi,by rw [bdN_get hp,← hout,bdA_f hA,bdB_t hB_];simp only [List.append_nil,List.append_assoc]⟩ rfl
   ·refine zc 5 rfl (tq_ rfl (jad (i + 1) rfl) (zl 2 rfl (At_free 5 (At_free 6 (trim_ 4 rfl ?_)))))
    exact nx_ ⟨i + 1,_,_,rfl,rfl,rfl,hi,by rw [bdN_get hp,← hout,bdA_f hA,bdB_f hB_];simp only [List.append_nil,List.append_assoc]⟩ rfl
 ·refine tq_ rfl (ltF rfl) (zl 9 rfl ?_)
  have hie:i = s.q.g.us.length:=by omega
  rw [hie] at hout
  refine zc 1 rfl (tq_ rfl (jvl 11 rfl rfl) (zl 3 rfl ?_))
  exact r1_ hq_ rfl (by unfold boundedM;rw [← hout] <;> rfl)
end Go.Proofs.YtmpkandbccallaaGreatDoor
set_option linter.unusedSimpArgs false
set_option linter.unusedVariables false
namespace Go.Proofs.YtmpkandbccallaaGreatDoor
open Go Go.RowKit Rc
set_option maxRecDepth 10000 in
set_option maxHeartbeats 2000000 in
theorem part_r (l:List Nat) (hl:l.length≤1000000) (hb:∀ x∈l,x < 256):Ctr Tryz.prog 87 [V.one (El.row u8E l)] (R.one (scV (partM l))):=by
 refine bd_ Tryz.func87 Tryz.ntmps87 rfl (fun w0 A0=>?_)
 have hk0:0≤l.length:=Nat.zero_le _
 have hkq:=queryq_le (l:=l) hk0
 have hk1:=nk_le hkq
 have hq:=queryq_ok l 0
 have hm4:(nx l (queryq l 0).2 4) < 4:=nx_lt (by decide)
 have g1:=hq.g.i1;have g2:=hq.g.i3;have g3:=hq.g.u4
 refine zc 8 rfl ?_
 refine Tl_inline rfl rfl Tryz.func59 rfl rfl Tryz.ntmps59 (Nat.le_of_ble_eq_true rfl) rfl (fun a1 d1 s1=>?_)
 refine qc_ (zc 7 rfl (te_ rfl (Je_build0F rfl un22 ty5 _) (zl 1 rfl ?_)))
 obtain ⟨ti2,hi2,hz2,hs2,hb2⟩:=in5
 refine te_ rfl (Je_append0F u8E l rfl rfl rfl (by decide) un22 un22 hi2 hz2 hs2 rfl (by simp only [maxLen];omega) (by rw [hb2];omega) (H2:=_)) (zl 5 rfl (Tc_retI1 [(2,some (D.ptr 0 0))] (fun _ _ h=>h) d1 s1 rfl rfl rfl ⟨rfl,trivial⟩ (zl 6 rfl (te_ rfl (Je_call_ptr rfl fn71 rfl rfl rfl rfl (query_spec l 0 hl (by assumption) hb)) (tq_ rfl (Jq_build rfl tx42 rfl pl42 rfl) ?_)))))
 refine te_ rfl (Je_alloc (n:=2) rfl tx42 rfl) (zl 5 rfl ?_)
 refine Tc_growB 2 78 5 (ls':=[Leaf.val (.int .i64 (((queryq l 0).1.g.inp:Nat):Int)),El.row afE ((queryq l 0).1.g.us),El.row afE ((queryq l 0).1.g.os),El.row ratE ((queryq l 0).1.r.lo),El.row ratE ((queryq l 0).1.r.hi),El.row afE ((queryq l 0).1.r.rows),El.row tmE ((queryq l 0).1.goal.ts),Leaf.val (.bool (cneg ((queryq l 0).1.goal.c))),natL (limbs (cnum ((queryq l 0).1.goal.c))),natL (limbs (cden ((queryq l 0).1.goal.c))),Leaf.own 3 0,Leaf.val (.slice none 0 0)]) rfl rfl rfl ⟨.inl rfl,.inl rfl,.inl rfl,.inl rfl,.inl rfl,.inl rfl,.inl rfl,.inl rfl,.inl rfl,.inl rfl,.inr ⟨rfl,rfl⟩,.inl rfl,trivial⟩ ?_
 refine zc 2 rfl (te_ rfl (Je_call_ptr rfl fn120 rfl rfl rfl rfl (next_spec l ((queryq l 0).2) 4 (by first | decide | omega) (by first | decide | omega) hl (by first | assumption | exact nk_le (by assumption)) hb)) (zl 4 rfl ?_))
 refine lpR_ (fun m Γ H=>∃ (i:Nat) (n:Nat) (out:List Dc) (k:Nat),(nx l (queryq l 0).2 4) - i = m∧Γ = [(2,some (D.ptr 0 0)),(3,some (D.ptr 1 0)),(4,some (D.ptr 2 0)),(5,some (D.val (.int .i64 ((((nx l (queryq l 0).2 4) - i):Nat):Int))))]∧H = [hb_ 42 scZ,hb_ 166 [El.row u8E l,Leaf.val (.int .i64 ((k:Nat):Int))],hb_ 42 (quL ((queryq l 0).1) ++ [Leaf.own 3 n,Leaf.val (.slice none 0 0)]),hgr 78 5 dcE out n]∧i≤(nx l (queryq l 0).2 4)∧(out,k) = pathq l (queryq l 0).1 (nk l (queryq l 0).2) i) ⟨0,0,[],_,rfl,rfl,rfl,Nat.zero_le _,rfl⟩ rfl ?_
 rintro m Γ H ⟨i,n,out,k,rfl,rfl,rfl,hi0,hs⟩
 refine zc 4 rfl ?_
 by_cases hi:i < (nx l (queryq l 0).2 4)
 ·refine tq_ rfl (gtT rfl) (zl 8 rfl ?_)
  have hpo:=pathq_ok (l:=l) (k:=(nk l (queryq l 0).2)) hq hk1 i
  rw [← hs] at hpo
  obtain ⟨hd,hol,hk⟩:=hpo
  have hd:∀ d∈out,DOk 200 (queryq l 0).1 d:=hd
  have hol:out.length≤i:=hol
  have hk:k≤l.length:=hk
  have hka:=nk_le hk
  have hkb:=nk_le hka
  have h4k:nx l k 4 < 4:=nx_lt (by decide)
  refine zc 2 rfl (te_ rfl (Je_call_ptr rfl fn120 rfl rfl rfl rfl (next_spec l k 4 (by first | decide | omega) (by first | decide | omega) hl (by first | assumption | exact nk_le (by assumption)) hb)) (tq_ rfl (jad (1 + nx l k 4) rfl) (zl 10 rfl ?_)))
  by_cases hk3:1 + nx l k 4 = 3
  ·refine tq_ rfl (eqT rfl) (zl 14 rfl (te_ rfl (Je_call_ptr rfl fn120 rfl rfl rfl rfl (next_spec l (nk l k) (queryq l 0).1.g.inp (by first | decide | omega) (by first | decide | omega) hl (by first | assumption | exact nk_le (by assumption)) hb)) (zl 1 rfl ?_)))
   refine te_ rfl (Je_call_ptr rfl fn119 rfl rfl rfl rfl (number_spec l (nk l (nk l k)) hl (by first | assumption | exact nk_le (by assumption)) hb)) (zl 10 rfl (te_ rfl (Je_buildSlice rfl un39 ty78 tz78 rfl (by decide) (by decide) rfl (by decide) rfl) (te_ rfl (jap (e:=dcE) (⟨1 + nx l k 4,nx l (nk l k) (queryq l 0).1.g.inp,numq l (nk l (nk l k))⟩) rfl rfl) (zl 7 rfl ?_))))
   refine tq_ rfl (jsb ((nx l (queryq l 0).2 4) - (i + 1)) rfl) (zl 2 rfl (At_free 4 (trim_ 4 rfl ?_)))
   exact nx_ ⟨i + 1,_,_,_,rfl,rfl,rfl,by omega,by rw [pathq_succ,← hs];unfold pstep;rw [if_pos (.inl (by show nx l k 4 = 2;omega))]⟩ rfl
  ·refine tq_ rfl (eqF rfl) (zl 3 rfl ?_)
   by_cases hk4:1 + nx l k 4 = 4
   ·refine tq_ rfl (eqT rfl) (zl 10 rfl (te_ rfl (Je_call_ptr rfl fn120 rfl rfl rfl rfl (next_spec l (nk l k) (queryq l 0).1.g.inp (by first | decide | omega) (by first | decide | omega) hl (by first | assumption | exact nk_le (by assumption)) hb)) (zl 1 rfl ?_)))
    refine te_ rfl (Je_call_ptr rfl fn119 rfl rfl rfl rfl (number_spec l (nk l (nk l k)) hl (by first | assumption | exact nk_le (by assumption)) hb)) (zl 10 rfl (te_ rfl (Je_buildSlice rfl un39 ty78 tz78 rfl (by decide) (by decide) rfl (by decide) rfl) (te_ rfl (jap (e:=dcE) (⟨1 + nx l k 4,nx l (nk l k) (queryq l 0).1.g.inp,numq l (nk l (nk l k))⟩) rfl rfl) (zl 7 rfl ?_))))
    refine tq_ rfl (jsb ((nx l (queryq l 0).2 4) - (i + 1)) rfl) (zl 2 rfl (At_free 4 (trim_ 4 rfl ?_)))
    exact nx_ ⟨i + 1,_,_,_,rfl,rfl,rfl,by omega,by rw [pathq_succ,← hs];unfold pstep;rw [if_pos (.inr (by show nx l k 4 = 3;omega))]⟩ rfl
   ·refine tq_ rfl (eqF rfl) (zl 6 rfl ?_)
    have hnk:¬ (nx l k 4 = 2 ∨ nx l k 4 = 3):=by omega
    refine zc 5 rfl (tq_ rfl (jln rfl) ?_)
    by_cases hu0:(queryq l 0).1.g.us.length = 0
    ·refine tq_ rfl (eqT rfl) (zl 10 rfl (tq_ rfl (jsb ((nx l (queryq l 0).2 4) - (i + 1)) rfl) (zl 2 rfl (At_free 4 (trim_ 4 rfl ?_)))))
     exact nx_ ⟨i + 1,_,_,_,rfl,rfl,rfl,by omega,by rw [pathq_succ,← hs];unfold pstep;rw [if_neg hnk,if_pos hu0]⟩ rfl
    ·refine tq_ rfl (eqF rfl) (zl 6 rfl ?_)
     have hix:nx l (nk l k) (queryq l 0).1.g.us.length < (queryq l 0).1.g.us.length:=nx_lt (by omega)
     refine zc 6 rfl (tq_ rfl (jln rfl) (te_ rfl (Je_call_ptr rfl fn120 rfl rfl rfl rfl (next_spec l (nk l k) ((queryq l 0).1.g.us).length (by first | decide | omega) (by first | decide | omega) hl (by first | assumption | exact nk_le (by assumption)) hb)) (zl 6 rfl ?_)))
     refine tq_ rfl (Jq_viewN (x:=V.agg (quL ((queryq l 0).1) ++ [El.row dcE out,Leaf.val (.slice none 0 0)])) (x':=V.agg (quL ((queryq l 0).1) ++ [El.row dcE out,El.row lmE ([])])) (Jq_view (r:=3) (n:=n) (x:=V.agg (quL ((queryq l 0).1) ++ [Leaf.own 3 n,Leaf.val (.slice none 0 0)])) (x':=V.agg (quL ((queryq l 0).1) ++ [El.row dcE out,Leaf.val (.slice none 0 0)])) (Jq_load_agg rfl rfl rfl (by decide) ty42 (by decide) (Nat.le_of_ble_eq_true rfl) rfl) (RowAt.ofE dcE out rfl (by decide)) (by decide) ⟨.inl rfl,.inl rfl,.inl rfl,.inl rfl,.inl rfl,.inl rfl,.inl rfl,.inl rfl,.inl rfl,.inl rfl,.inr ⟨rfl,rfl⟩,.inl rfl,trivial⟩) ⟨.inl rfl,.inl rfl,.inl rfl,.inl rfl,.inl rfl,.inl rfl,.inl rfl,.inl rfl,.inl rfl,.inl rfl,.inl rfl,.inr ⟨rfl,rfl⟩,trivial⟩) ?_
     refine zl 2 rfl (tc_ fn142 rfl (decided_r ⟨(queryq l 0).1,out,[]⟩ hq hd (by omega) (by show out.length≤_;omega) 1 ((nx l (nk l k) (queryq l 0).1.g.us.length:Nat):Int)) (zl 1 rfl ?_))
     refine two_ rfl (fun hd1=>?_) (fun hd1=>?_)
     ·refine tq_ rfl (Jq_viewN (x:=V.agg (quL ((queryq l 0).1) ++ [El.row dcE out,Leaf.val (.slice none 0 0)])) (x':=V.agg (quL ((queryq l 0).1) ++ [El.row dcE out,El.row lmE ([])])) (Jq_view (r:=3) (n:=n) (x:=V.agg (quL ((queryq l 0).1) ++ [Leaf.own 3 n,Leaf.val (.slice none 0 0)])) (x':=V.agg (quL ((queryq l 0).1) ++ [El.row dcE out,Leaf.val (.slice none 0 0)])) (Jq_load_agg rfl rfl rfl (by decide) ty42 (by decide) (Nat.le_of_ble_eq_true rfl) rfl) (RowAt.ofE dcE out rfl (by decide)) (by decide) ⟨.inl rfl,.inl rfl,.inl rfl,.inl rfl,.inl rfl,.inl rfl,.inl rfl,.inl rfl,.inl rfl,.inl rfl,.inr ⟨rfl,rfl⟩,.inl rfl,trivial⟩) ⟨.inl rfl,.inl rfl,.inl rfl,.inl rfl,.inl rfl,.inl rfl,.inl rfl,.inl rfl,.inl rfl,.inl rfl,.inl rfl,.inr ⟨rfl,rfl⟩,trivial⟩) ?_
      refine zl 2 rfl (tc_ fn142 rfl (decided_r ⟨(queryq l 0).1,out,[]⟩ hq hd (by omega) (by show out.length≤_;omega) 2 ((nx l (nk l k) (queryq l 0).1.g.us.length:Nat):Int)) (zl 3 rfl ?_))
      refine Tc_cond rfl (fun hd2=>?_) (fun hd2=>?_)
      ·refine zc 6 rfl (tq_ rfl (jsb ((nx l (queryq l 0).2 4) - (i + 1)) rfl) (zl 2 rfl (At_free 4 (trim_ 4 rfl ?_))))
       exact nx_ ⟨i + 1,_,_,_,rfl,rfl,rfl,by omega,by rw [pathq_succ,← hs];unfold pstep;rw [if_neg hnk,if_neg hu0,if_pos (by show (decM out 1 _ || decM out 2 _) = true;rw [hd1,hd2];rfl)]⟩ rfl
      ·refine zc 6 rfl (eq_ (D.agg [Leaf.val (.int .i64 ((1 + nx l k 4:Nat):Int)),Leaf.val (.int .i64 ((nx l (nk l k) (queryq l 0).1.g.us.length:Nat):Int)),Leaf.val (.bool (cneg 0)),natL (limbs (cnum 0)),natL (limbs (cden 0))]) rfl (dc0 _ _) (te_ rfl (Je_buildSlice rfl un39 ty78 tz78 rfl (by decide) (by decide) rfl (by decide) rfl) ?_))
       refine te_ rfl (jap (e:=dcE) (⟨1 + nx l k 4,nx l (nk l k) (queryq l 0).1.g.us.length,0⟩) rfl rfl) (zl 7 rfl (tq_ rfl (jsb ((nx l (queryq l 0).2 4) - (i + 1)) rfl) (zl 2 rfl (At_free 4 (trim_ 4 rfl ?_)))))
       exact nx_ ⟨i + 1,_,_,_,rfl,rfl,rfl,by omega,by rw [pathq_succ,← hs];unfold pstep;rw [if_neg hnk,if_neg hu0,if_neg (by show ¬ (decM out 1 _ || decM out 2 _) = true;rw [hd1,hd2];decide)]⟩ rfl
     ·refine zl 14 rfl (tq_ rfl (jsb ((nx l (queryq l 0).2 4) - (i + 1)) rfl) (zl 2 rfl (At_free 4 (trim_ 4 rfl ?_))))
      exact nx_ ⟨i + 1,_,_,_,rfl,rfl,rfl,by omega,by rw [pathq_succ,← hs];unfold pstep;rw [if_neg hnk,if_neg hu0,if_pos (by show (decM out 1 _ || decM out 2 _) = true;rw [hd1];rfl)]⟩ rfl
 ·refine tq_ rfl (gtF rfl) (zl 9 rfl ?_)
  have hie:i = (nx l (queryq l 0).2 4):=by omega
  rw [hie] at hs
  refine zc 1 rfl ?_
  refine tq_ rfl (Jq_viewN (x:=V.agg (quL ((queryq l 0).1) ++ [El.row dcE out,Leaf.val (.slice none 0 0)])) (x':=V.agg (quL ((queryq l 0).1) ++ [El.row dcE out,El.row lmE ([])])) (Jq_view (r:=3) (n:=n) (x:=V.agg (quL ((queryq l 0).1) ++ [Leaf.own 3 n,Leaf.val (.slice none 0 0)])) (x':=V.agg (quL ((queryq l 0).1) ++ [El.row dcE out,Leaf.val (.slice none 0 0)])) (Jq_load_agg rfl rfl rfl (by decide) ty42 (by decide) (Nat.le_of_ble_eq_true rfl) rfl) (RowAt.ofE dcE out rfl (by decide)) (by decide) ⟨.inl rfl,.inl rfl,.inl rfl,.inl rfl,.inl rfl,.inl rfl,.inl rfl,.inl rfl,.inl rfl,.inl rfl,.inr ⟨rfl,rfl⟩,.inl rfl,trivial⟩) ⟨.inl rfl,.inl rfl,.inl rfl,.inl rfl,.inl rfl,.inl rfl,.inl rfl,.inl rfl,.inl rfl,.inl rfl,.inl rfl,.inr ⟨rfl,rfl⟩,trivial⟩) ?_
  refine zl 3 rfl ?_
  exact r1_ hq_ rfl (by unfold partM;rw [← hs] <;> rfl)
set_option maxRecDepth 10000 in
theorem extend_r (l:List Nat) (hl:l.length≤1000000) (hb:∀ x∈l,x < 256):Ctr Tryz.prog 38 [V.one (El.row u8E l)] (R.one (scV (extM l))):=by
 refine bd_ Tryz.func38 Tryz.ntmps38 rfl (fun w0 A0=>?_)
 refine zc 8 rfl (tc_ fn87 rfl (part_r l hl hb) (zl 16 rfl ?_))
 refine lpR_ (fun m Γ H=>∃ (i:Nat),l.length - i = m∧Γ = [(0,some (D.v (V.one (El.row u8E l)))),(2,some (D.ptr 0 0)),(3,some (D.ptr 1 0)),(4,some (D.val (.int .i64 ((sumB (l.take i):Nat):Int)))),(5,some (D.val (.int .i64 ((i:Nat):Int))))]∧H = [hb_ 42 scZ,hb_ 42 (scL (partM l))]∧i≤l.length) ⟨0,rfl,rfl,rfl,Nat.zero_le _⟩ rfl ?_
 rintro m Γ H ⟨i,rfl,rfl,rfl,hi0⟩
 refine zc 5 rfl (tq_ rfl (jln rfl) ?_)
 by_cases hi:i < l.length
 ·refine tq_ rfl (ltT rfl) (zl 7 rfl ?_)
  obtain ⟨x,hx⟩:∃ x,l[i]? = some x:=⟨_,List.getElem?_eq_getElem hi⟩
  have hxb:=hb x (List.mem_of_getElem? hx)
  have hsb:=sumB_le hb i (by omega)
  refine zc 4 rfl (tq_ rfl (jix i hx rfl) (tq_ rfl (jli rfl) (tq_ rfl (jci x rfl) (tq_ rfl (jad ((sumB (l.take i)) + x) rfl) (eq_ (D.val (.int .i64 ((sumB (l.take (i + 1)):Nat):Int))) rfl (by rw [sumB_take hx]) (zl 6 rfl (tq_ rfl (jad (i + 1) rfl) (zl 2 rfl ?_))))))))
  exact nx_ ⟨i + 1,rfl,rfl,rfl,hi⟩ rfl
 ·refine tq_ rfl (ltF rfl) (zl 10 rfl ?_)
  have hie:i = l.length:=by omega
  have hsb:=sumB_le hb l.length (Nat.le_refl _)
  rw [hie,List.take_length]
  rw [List.take_length] at hsb
  refine zc 2 rfl (tq_ rfl (Jq_rem rfl rfl rfl (by decide) (r:=((sumB l % 3:Nat):Int)) (tmodN _ _)) ?_)
  by_cases hp:0 < sumB l % 3
  ·refine tq_ rfl (gtT rfl) (zl 5 rfl (tc_ fn88 rfl (bounded_r (partM l) (partM_ok l) (Nat.zero_le _)) (zl 9 rfl ?_)))
   exact r1_ hq_ rfl (by unfold extM;rw [if_pos hp] <;> rfl)
  ·refine tq_ rfl (gtF rfl) (zl 11 rfl ?_)
   exact r1_ hq_ rfl (by unfold extM;rw [if_neg hp] <;> rfl)
end Go.Proofs.YtmpkandbccallaaGreatDoor
set_option linter.unusedSimpArgs false
set_option linter.unusedVariables false
namespace Rc
open Go Go.RowKit
theorem cmpq_lt1 {p q:Rat}:cmpq p q = -1↔p < q:=by unfold cmpq;split <;> grind
theorem cmpq_gt1 {p q:Rat}:cmpq p q = 1↔q < p:=by unfold cmpq;split <;> grind
section
variable {d:Dom} {s:Sc} {bits:Int} {j:Nat} {up:Bool} {p:Af}
theorem sideN_t (h1:sideB d s up p = true) (h2:strong s.lems j up (sideV d s bits up p) = true):sideN d s bits j up p = [⟨(j:Int),up,qOf (sideV d s bits up p),sideL d s up p⟩]:=by
 unfold sideN;rw [h1,h2];rfl
theorem sideN_f1 (h1:sideB d s up p = false):sideN d s bits j up p = []:=by unfold sideN;rw [h1];rfl
theorem sideN_f2 (h2:strong s.lems j up (sideV d s bits up p) = false):sideN d s bits j up p = []:=by unfold sideN;rw [h2,Bool.and_false];rfl
end
theorem strong_ut {l:List Lm} {j:Nat} {x:Rat} (h:(best l (j:Int)).2 = 0 ∨ x < lv l (best l (j:Int)).2):strong l j true x = true:=by
 unfold strong;rw [if_pos rfl,Bool.or_eq_true];exact h.elim (fun h=>.inl (decide_eq_true h)) (fun h=>.inr (decide_eq_true h))
theorem strong_uf {l:List Lm} {j:Nat} {x:Rat} (h:¬ (best l (j:Int)).2 = 0) (h':¬ x < lv l (best l (j:Int)).2):strong l j true x = false:=by
 unfold strong;rw [if_pos rfl,decide_eq_false h,decide_eq_false h'];rfl
theorem strong_lt {l:List Lm} {j:Nat} {x:Rat} (h:(best l (j:Int)).1 = 0 ∨ lv l (best l (j:Int)).1 < x):strong l j false x = true:=by
 unfold strong;rw [if_neg (by decide),Bool.or_eq_true];exact h.elim (fun h=>.inl (decide_eq_true h)) (fun h=>.inr (decide_eq_true h))
theorem strong_lf {l:List Lm} {j:Nat} {x:Rat} (h:¬ (best l (j:Int)).1 = 0) (h':¬ lv l (best l (j:Int)).1 < x):strong l j false x = false:=by
 unfold strong;rw [if_neg (by decide),decide_eq_false h,decide_eq_false h'];rfl
def mrg (c:Rat):List Tm→List Tm→List Tm
 | [],[]=>[]
 | x :: a,[]=>(if x.2 = 0 then [] else [x]) ++ mrg c a []
 | [],y :: b=>(if y.2 * c = 0 then [] else [(y.1,y.2 * c)]) ++ mrg c [] b
 | x :: a,y :: b=>if x.1 < y.1 then (if x.2 = 0 then [] else [x]) ++ mrg c a (y :: b)
   else if y.1 < x.1 then (if y.2 * c = 0 then [] else [(y.1,y.2 * c)]) ++ mrg c (x :: a) b
   else (if x.2 + y.2 * c = 0 then [] else [(x.1,x.2 + y.2 * c)]) ++ mrg c a b
termination_by a b=>a.length + b.length
theorem nz_app (l:List Tm) (v:Nat) (c:Rat):nz l (v,c) = l ++ (if c = 0 then [] else [(v,c)]):=by
 by_cases h:c = 0
 ·rw [nz_pos h,if_pos h,List.append_nil]
 ·rw [nz_neg h,if_neg h]
section
variable {c:Rat} {a b:List Tm} {i j:Nat} {x y:Tm} {out:List Tm}
theorem drop_nil {l:List Tm} {i:Nat} (h:¬ i < l.length):l.drop i = []:=List.drop_of_length_le (by omega)
theorem mrg_l (hx:a[i]? = some x) (hj:¬ j < b.length):out ++ mrg c (a.drop i) (b.drop j) = nz out (x.1,x.2) ++ mrg c (a.drop (i + 1)) (b.drop j):=by
 rw [drop_get hx,drop_nil hj,nz_app,List.append_assoc]
 show _ ++ mrg c (x :: _) [] = _
 rw [mrg]
theorem mrg_r (hi:¬ i < a.length) (hy:b[j]? = some y):out ++ mrg c (a.drop i) (b.drop j) = nz out (y.1,y.2 * c) ++ mrg c (a.drop i) (b.drop (j + 1)):=by
 rw [drop_get hy,drop_nil hi,nz_app,List.append_assoc,mrg]
theorem mrg_lt (hx:a[i]? = some x) (hy:b[j]? = some y) (h:x.1 < y.1):out ++ mrg c (a.drop i) (b.drop j) = nz out (x.1,x.2) ++ mrg c (a.drop (i + 1)) (b.drop j):=by
 rw [drop_get hx,drop_get hy,nz_app,List.append_assoc,mrg,if_pos h]
theorem mrg_gt (hx:a[i]? = some x) (hy:b[j]? = some y) (h:¬ x.1 < y.1) (h':y.1 < x.1):out ++ mrg c (a.drop i) (b.drop j) = nz out (y.1,y.2 * c) ++ mrg c (a.drop i) (b.drop (j + 1)):=by
 rw [drop_get hx,drop_get hy,nz_app,List.append_assoc,mrg,if_neg h,if_pos h']
theorem mrg_eq (hx:a[i]? = some x) (hy:b[j]? = some y) (h:¬ x.1 < y.1) (h':¬ y.1 < x.1):out ++ mrg c (a.drop i) (b.drop j) = nz out (x.1,x.2 + y.2 * c) ++ mrg c (a.drop (i + 1)) (b.drop (j + 1)):=by
 rw [drop_get hx,drop_get hy,nz_app,List.append_assoc,mrg,if_neg h,if_neg h']
theorem mrg_fin (hi:¬ i < a.length) (hj:¬ j < b.length):out ++ mrg c (a.drop i) (b.drop j) = out:=by
 rw [drop_nil hi,drop_nil hj,mrg,List.append_nil]
end
theorem mrg_mem (c:Rat):∀ (a b:List Tm) (t:Tm),t∈mrg c a b→(∃ u∈a,u.1 = t.1) ∨ ∃ u∈b,u.1 = t.1
 | [],[],t,h=>by rw [mrg] at h;simp at h
 | x :: a,[],t,h=>by
  rw [mrg] at h
  rcases List.mem_append.1 h with h | h
  ·split at h
   ·simp at h
   ·rw [List.mem_singleton] at h;subst h;exact .inl ⟨t,by simp,rfl⟩
  ·rcases mrg_mem c a [] t h with ⟨u,hu,e⟩ | ⟨u,hu,_⟩
   ·exact .inl ⟨u,by simp [hu],e⟩
   ·simp at hu
 | [],y :: b,t,h=>by
  rw [mrg] at h
  rcases List.mem_append.1 h with h | h
  ·split at h
   ·simp at h
   ·rw [List.mem_singleton] at h;subst h;exact .inr ⟨y,by simp,rfl⟩
  ·rcases mrg_mem c [] b t h with ⟨u,hu,_⟩ | ⟨u,hu,e⟩
   ·simp at hu
   ·exact .inr ⟨u,by simp [hu],e⟩
 | x :: a,y :: b,t,h=>by
  rw [mrg] at h
  split at h
  ·rcases List.mem_append.1 h with h | h
   ·split at h
    ·simp at h
    ·rw [List.mem_singleton] at h;subst h;exact .inl ⟨t,by simp,rfl⟩
   ·rcases mrg_mem c a (y :: b) t h with ⟨u,hu,e⟩ | h
    ·exact .inl ⟨u,by simp [hu],e⟩
    ·exact .inr h
  ·split at h
   ·rcases List.mem_append.1 h with h | h
    ·split at h
     ·simp at h
     ·rw [List.mem_singleton] at h;subst h;exact .inr ⟨y,by simp,rfl⟩
    ·rcases mrg_mem c (x :: a) b t h with h | ⟨u,hu,e⟩
     ·exact .inl h
     ·exact .inr ⟨u,by simp [hu],e⟩
   ·rcases List.mem_append.1 h with h | h
    ·split at h
     ·simp at h
     ·rw [List.mem_singleton] at h;subst h;exact .inl ⟨x,by simp,rfl⟩
    ·rcases mrg_mem c a b t h with ⟨u,hu,e⟩ | ⟨u,hu,e⟩
     ·exact .inl ⟨u,by simp [hu],e⟩
     ·exact .inr ⟨u,by simp [hu],e⟩
termination_by a b=>a.length + b.length
theorem can_pre {v:Nat} {d:Rat} {l:List Tm} (h:CanT l) (hv:∀ t∈l,v < t.1):CanT ((if d = 0 then [] else [(v,d)]) ++ l):=by
 split
 ·exact h
 ·rename_i hd;exact ⟨hd,hv,h⟩
theorem co_pre {v:Nat} {d:Rat} {l:List Tm} (hv:∀ t∈l,v < t.1) (x:Nat):co ((if d = 0 then [] else [(v,d)]) ++ l) x = if v = x then d else co l x:=by
 split
 ·rename_i hd
  by_cases e:v = x
  ·subst e;rw [if_pos rfl,hd];exact co_none hv
  ·rw [if_neg e];rfl
 ·rfl
theorem mrg_can (c:Rat):∀ (a b:List Tm),CanT a→CanT b→CanT (mrg c a b)∧∀ v,co (mrg c a b) v = co a v + co b v * c
 | [],[],_,_=>by rw [mrg];exact ⟨trivial,fun v=>by show (0:Rat) = 0 + 0 * c;grind⟩
 | (w,d) :: a,[],ha,hb=>by
  obtain ⟨h1,h2,h3⟩:=ha
  obtain ⟨i1,i2⟩:=mrg_can c a [] h3 trivial
  have hv:∀ t∈mrg c a [],w < t.1:=fun t ht=>by
   rcases mrg_mem c a [] t ht with ⟨u,hu,e⟩ | ⟨u,hu,_⟩
   ·rw [← e];exact h2 u hu
   ·simp at hu
  rw [mrg]
  refine ⟨can_pre i1 hv,fun v=>?_⟩
  rw [co_pre hv,i2]
  show _ = (if w = v then d else co a v) + 0 * c
  show (if w = v then d else co a v + 0 * c) = _
  split <;> grind
 | [],(w,d) :: b,ha,hb=>by
  obtain ⟨h1,h2,h3⟩:=hb
  obtain ⟨i1,i2⟩:=mrg_can c [] b trivial h3
  have hv:∀ t∈mrg c [] b,w < t.1:=fun t ht=>by
   rcases mrg_mem c [] b t ht with ⟨u,hu,_⟩ | ⟨u,hu,e⟩
   ·simp at hu
   ·rw [← e];exact h2 u hu
  rw [mrg]
  refine ⟨can_pre i1 hv,fun v=>?_⟩
  rw [co_pre hv,i2]
  show (if w = v then d * c else 0 + co b v * c) = 0 + (if w = v then d else co b v) * c
  split <;> grind
 | (w,d) :: a,(z,e) :: b,ha,hb=>by
  obtain ⟨h1,h2,h3⟩:=ha
  obtain ⟨g1,g2,g3⟩:=hb
  have cva:∀ v,co ((w,d) :: a) v = if w = v then d else co a v:=fun _=>rfl
  have cvb:∀ v,co ((z,e) :: b) v = if z = v then e else co b v:=fun _=>rfl
  rw [mrg]
  by_cases hlt:w < z
  ·rw [if_pos (show ((w,d):Tm).1 < ((z,e):Tm).1 from hlt)]
   obtain ⟨i1,i2⟩:=mrg_can c a ((z,e) :: b) h3 ⟨g1,g2,g3⟩
   have hv:∀ t∈mrg c a ((z,e) :: b),w < t.1:=fun t ht=>by
    rcases mrg_mem c a _ t ht with ⟨u,hu,e⟩ | ⟨u,hu,e⟩
    ·rw [← e];exact h2 u hu
    ·rw [← e]
     rcases List.mem_cons.1 hu with rfl | hu
     ·exact hlt
     ·have:=g2 u hu;omega
   refine ⟨can_pre i1 hv,fun v=>?_⟩
   rw [co_pre hv,i2,cva]
   split
   ·rename_i e1
    subst e1
    have:co ((z,e) :: b) w = 0:=co_none (fun t ht=>by
     rcases List.mem_cons.1 ht with rfl | ht
     ·exact hlt
     ·have:=g2 t ht;omega)
    rw [this];grind
   ·rfl
  ·rw [if_neg (show ¬ ((w,d):Tm).1 < ((z,e):Tm).1 from hlt)]
   have hnl:¬ w < z:=hlt
   by_cases hgt:z < w
   ·rw [if_pos (show ((z,e):Tm).1 < ((w,d):Tm).1 from hgt)]
    obtain ⟨i1,i2⟩:=mrg_can c ((w,d) :: a) b ⟨h1,h2,h3⟩ g3
    have hv:∀ t∈mrg c ((w,d) :: a) b,z < t.1:=fun t ht=>by
     rcases mrg_mem c _ b t ht with ⟨u,hu,e⟩ | ⟨u,hu,e⟩
     ·rw [← e]
      rcases List.mem_cons.1 hu with rfl | hu
      ·exact hgt
      ·have:=h2 u hu;omega
     ·rw [← e];exact g2 u hu
    refine ⟨can_pre i1 hv,fun v=>?_⟩
    rw [co_pre hv,i2,cvb]
    split
    ·rename_i e1
     subst e1
     have:co ((w,d) :: a) z = 0:=co_none (fun t ht=>by
      rcases List.mem_cons.1 ht with rfl | ht
      ·exact hgt
      ·have:=h2 t ht;omega)
     rw [this];grind
    ·rfl
   ·rw [if_neg (show ¬ ((z,e):Tm).1 < ((w,d):Tm).1 from hgt)]
    have hng:¬ z < w:=hgt
    have hwz:w = z:=by omega
    subst hwz
    obtain ⟨i1,i2⟩:=mrg_can c a b h3 g3
    have hv:∀ t∈mrg c a b,w < t.1:=fun t ht=>by
     rcases mrg_mem c a b t ht with ⟨u,hu,e⟩ | ⟨u,hu,e⟩
     ·rw [← e];exact h2 u hu
     ·rw [← e];exact g2 u hu
    refine ⟨can_pre i1 hv,fun v=>?_⟩
    rw [co_pre hv,i2,cva,cvb]
    split <;> rfl
termination_by a b=>a.length + b.length
theorem scT_can {ts:List Tm} {c:Rat} (h:CanT ts):CanT (scT ts c):=by rw [scT_eq];exact scR_can h
theorem mrg_nil {b:List Tm} {c:Rat} (hb:CanT b):mrg c [] b = scT b c:=by
 obtain ⟨h1,h2⟩:=mrg_can c [] b trivial hb
 refine co_ext h1 (scT_can hb) (fun v=>?_)
 rw [h2,scT_eq,co_scR hb]
 show (0:Rat) + _ = _
 grind
end Rc
set_option linter.unusedSimpArgs false
set_option linter.unusedVariables false
namespace Go.Proofs.YtmpkandbccallaaGreatDoor
open Go Go.RowKit Rc
set_option maxRecDepth 10000 in
theorem put_spec (l:List Tm) (hl:l.length≤1000000) (k:Rat) (v:Nat) (c:Rat) {B:Nat} [Br c B] (hB:B≤400000000000):CtrO Tryz.prog 182 92 4 (El.all tmE l) (El.all tmE (nz l (v,c))) [V.agg [Leaf.own 0 0,Leaf.val (.bool (cneg k)),natL (limbs (cnum k)),natL (limbs (cden k))],V.one (Leaf.val (.int .i64 ((v:Int)))),V.agg (qL (c))] (fun n=>V.agg [Leaf.own 0 n,Leaf.val (.bool (cneg k)),natL (limbs (cnum k)),natL (limbs (cden k))]):=by
 refine CtrO.of_body Tryz.func182 rfl Tryz.ntmps182 (Nat.le_of_ble_eq_true rfl) (fun w0 A0=>?_)
 refine qc_ (zc 11 rfl (tc_ fn43 rfl (qsign (qOf (c)) (c) (qOf_q _) (Br.use (by omega))) ?_))
 by_cases hc0:c≠0
 ·refine tq_ rfl (neT rfl (sg_ne hc0)) (zl 3 rfl (dr_ 0 [(7,0),(9,1)] [0,1] (dz 1 rfl (kp_ [0] rfl (jld rfl) (dz 2 rfl (kc_ fn102 rfl (qcanon (qOf (c)) (c) (qOf_q _) (Br.use (by omega))) (dz 1 rfl (ke_ rfl (fun _=>Je_buildSlice rfl un23 ty92 tz92 rfl (by decide) (by decide) rfl (by decide) rfl) (ki_ 0 rfl (dap (v,c) rfl rfl) ?_)))))))))
  refine dz 2 rfl (DK_nil (za 7 rfl ?_))
  exact Tc_retO (fun _ _ h=>h) rfl (⟨_,_,rfl,rfl,.inl ⟨ty29,Nat.le_of_ble_eq_true rfl,rfl⟩⟩) rfl rfl (by rw [nz_neg hc0]) (hcl:=by first | rfl | exact El.all_cl _ _)
 ·refine tq_ rfl (neF rfl (by rw [Classical.not_not.1 hc0];rfl)) (zl 11 rfl ?_)
  exact Tc_retO (fun _ _ h=>h) rfl (⟨_,_,rfl,rfl,.inl ⟨ty29,Nat.le_of_ble_eq_true rfl,rfl⟩⟩) rfl rfl (by rw [nz_pos (Classical.not_not.1 hc0)]) (hcl:=by first | rfl | exact El.all_cl _ _)
set_option maxRecDepth 10000 in
set_option maxHeartbeats 2000000 in
theorem merge_p (f g:Af) (c:Rat) {B C K n:Nat} (hf:FL B n f) (hg:FL C n g) [Br c K] (h1:B≤10000000000) (h2:C≤10000000000) (h3:K≤10000000000) (hn:n≤1000):Ctr Tryz.prog 132 [afV f,afV g,V.agg (qL (c))] (R.one (afV ⟨mrg c f.ts g.ts,f.c + g.c * c⟩)):=by
 refine bd_ Tryz.func132 Tryz.ntmps132 rfl (fun w0 A0=>?_)
 haveI:=hf.fm (by omega);haveI:=hf.cb;haveI:=hg.fm (by omega);haveI:=hg.cb
 have hfl:=(hf.fm (by omega)).len;have hgl:=(hg.fm (by omega)).len
 refine zc 9 rfl (dr_ 1 [(8,4),(9,4)] [4] (dz 5 rfl (kc_ fn45 rfl (qmul (qOf (g.c)) (g.c) (qOf_q _) (Br.use (by omega)) (qOf (c)) (c) (qOf_q _) (Br.use (by omega))) (kc_ fn44 rfl (qadd (qOf (f.c)) (f.c) (qOf_q _) (Br.use (by omega)) (qOf ((g.c) * (c))) ((g.c) * (c)) (qOf_q _) (Br.use (by omega))) (kq_ rfl (Jq_build rfl tx29 rfl pl29 rfl) ?_)))))
 refine ki_ 4 rfl (Jd_alloc (i:=4) rfl tx29 rfl) (dz 1 rfl (DK_nil (za 2 rfl (Tc_growB 4 92 4 (ls':=[Leaf.own 5 0,Leaf.val (.bool (cneg ((f.c) + ((g.c) * (c))))),natL (limbs (cnum ((f.c) + ((g.c) * (c))))),natL (limbs (cden ((f.c) + ((g.c) * (c)))))]) rfl rfl rfl ⟨.inr ⟨rfl,rfl⟩,.inl rfl,.inl rfl,.inl rfl,trivial⟩ (dr_ 0 [] [] (dz 6 rfl (DK_nil (za 3 rfl ?_))))))))
 refine fr_ [0,1] rfl ?_
 refine lpR_ (fun m Γ H=>∃ (i j:Nat) (m_:Nat) (out:List Tm),(f.ts.length - i) + (g.ts.length - j) = m∧Γ = [(5,some (D.ptr 2 0)),(6,some (D.ptr 3 0)),(7,some (D.ptr 4 0)),(8,some (D.v (V.one (El.row tmE (f.ts.drop i))))),(9,some (D.v (V.one (El.row tmE (g.ts.drop j)))))]∧H = [none,none,hb_ 27 (qL c),hb_ 29 [El.row tmE ([]),Leaf.val (.bool false),natL ([]),natL ([])],hb_ 29 [Leaf.own 5 m_,Leaf.val (.bool (cneg ((f.c) + ((g.c) * (c))))),natL (limbs (cnum ((f.c) + ((g.c) * (c))))),natL (limbs (cden ((f.c) + ((g.c) * (c)))))],hgr 92 4 tmE out m_]∧i≤f.ts.length∧j≤g.ts.length∧out.length≤i + j∧out ++ mrg c (f.ts.drop i) (g.ts.drop j) = mrg c f.ts g.ts) ⟨0,0,0,[],rfl,rfl,rfl,Nat.zero_le _,Nat.zero_le _,Nat.zero_le _,rfl⟩ rfl ?_
 rintro m Γ H ⟨i,j,m_,out,rfl,rfl,rfl,hi0,hj0,hol,hinv⟩
 refine zc 4 rfl (tq_ rfl (jln rfl) ?_)
 by_cases hi:i < f.ts.length
 ·refine tq_ rfl (gtT rfl (by rw [List.length_drop];omega)) (zl 13 rfl ?_)
  by_cases hj:j < g.ts.length
  ·obtain ⟨x,hx⟩:∃ x,f.ts[i]? = some x:=⟨_,List.getElem?_eq_getElem hi⟩
   have hx0:(f.ts.drop i)[0]? = some x:=by rw [List.getElem?_drop];exact hx
   haveI hxb:=hf.bd x (List.mem_of_getElem? hx)
   refine dr_ 0 [] [] ?_
   obtain ⟨y,hy⟩:∃ y,g.ts[j]? = some y:=⟨_,List.getElem?_eq_getElem hj⟩
   have hy0:(g.ts.drop j)[0]? = some y:=by rw [List.getElem?_drop];exact hy
   haveI hyb:=hg.bd y (List.mem_of_getElem? hy)
   refine dz 1 rfl (kq_ rfl (jln rfl) (kq_ rfl (eqF rfl (by rw [List.length_drop];omega)) (dz 2 rfl (kq_ rfl (jln rfl) (kq_ rfl (gtT rfl (by rw [List.length_drop];omega)) (dz 2 rfl (kq_ rfl (jix 0 hx0 rfl) (kq_ rfl (jfr rfl) (kq_ rfl (jli rfl) ?_)))))))))
   refine dz 1 rfl (kq_ rfl (jix 0 hy0 rfl) (kq_ rfl (jfr rfl) (kq_ rfl (jli rfl) ?_)))
   by_cases hlt:x.1 < y.1
   ·refine kq_ rfl (ltT rfl) (dz 3 rfl (DK_nil (za 3 rfl (dr_ 0 [(9,5),(10,4)] [5,4] (kp_ [5] rfl (Jq_load_agg rfl rfl rfl (by decide) ty29 (by decide) (Nat.le_of_ble_eq_true rfl) rfl) (dz 1 rfl (kq_ rfl (jix 0 hx0 rfl) (kq_ rfl (jfr rfl) (kq_ rfl (jli rfl) ?_)))))))))
    refine dz 1 rfl (kq_ rfl (jix 0 hx0 rfl) (kq_ rfl (jfr rfl) (kq_ rfl (jlr rfl) ?_)))
    refine ki_ 5 rfl (Jd_callO (r:=5) (ys:=[V.agg [Leaf.own 5 m_,Leaf.val (.bool (cneg ((f.c) + ((g.c) * (c))))),natL (limbs (cnum ((f.c) + ((g.c) * (c))))),natL (limbs (cden ((f.c) + ((g.c) * (c)))))],V.one (Leaf.val (.int .i64 ((x.1:Nat):Int))),V.agg (qL x.2)]) (V.agg [Leaf.own 5 (m_ + 1),Leaf.val (.bool (cneg ((f.c) + ((g.c) * (c))))),natL (limbs (cnum ((f.c) + ((g.c) * (c))))),natL (limbs (cden ((f.c) + ((g.c) * (c)))))]) rfl fn182 rfl rfl (put_spec out (by omega) ((f.c) + ((g.c) * (c))) x.1 x.2 (by omega)) (nz_le _ _)) ?_
    refine dz 1 rfl (DK_nil (za 3 rfl (tq_ rfl (Jq_sliceR_lo tmE (f.ts.drop i) (1) rfl rfl rfl un23 ty92 rfl (by rw [List.length_drop];omega)) (eq_ (D.v (V.one (tmE.row (f.ts.drop (i + 1))))) rfl (by rw [List.drop_drop]) (zl 4 rfl ?_)))))
    exact nx_ ⟨i + 1,j,_,_,rfl,rfl,rfl,by omega,by omega,(by have h1:=nz_len out (x.1,x.2);omega),by rw [← hinv,mrg_lt hx hy hlt]⟩ rfl
   ·refine kq_ rfl (ltF rfl) (dz 3 rfl (DK_nil (za 3 rfl (dr_ 0 [] [] (dz 1 rfl (kq_ rfl (jln rfl) (kq_ rfl (eqF rfl (by rw [List.length_drop];omega)) (dz 2 rfl (kq_ rfl (jix 0 hy0 rfl) ?_)))))))))
    refine kq_ rfl (jfr rfl) (kq_ rfl (jli rfl) (dz 1 rfl (kq_ rfl (jix 0 hx0 rfl) (kq_ rfl (jfr rfl) (kq_ rfl (jli rfl) ?_)))))
    by_cases hgt:y.1 < x.1
    ·refine kq_ rfl (ltT rfl) (dz 2 rfl (DK_nil (za 3 rfl (dr_ 0 [(11,5),(12,4)] [5,4] (kp_ [5] rfl (Jq_load_agg rfl rfl rfl (by decide) ty29 (by decide) (Nat.le_of_ble_eq_true rfl) rfl) (dz 1 rfl (kq_ rfl (jix 0 hy0 rfl) (kq_ rfl (jfr rfl) (kq_ rfl (jli rfl) ?_)))))))))
     refine dz 1 rfl (kq_ rfl (jix 0 hy0 rfl) (kq_ rfl (jfr rfl) (kq_ rfl (jlr rfl) (dz 1 rfl (kc_ fn45 rfl (qmul (qOf (y.2)) (y.2) (qOf_q _) (Br.use (by omega)) (qOf (c)) (c) (qOf_q _) (Br.use (by omega))) ?_)))))
     refine ki_ 5 rfl (Jd_callO (r:=5) (ys:=[V.agg [Leaf.own 5 m_,Leaf.val (.bool (cneg ((f.c) + ((g.c) * (c))))),natL (limbs (cnum ((f.c) + ((g.c) * (c))))),natL (limbs (cden ((f.c) + ((g.c) * (c)))))],V.one (Leaf.val (.int .i64 ((y.1:Nat):Int))),V.agg (qL ((y.2) * (c)))]) (V.agg [Leaf.own 5 (m_ + 1),Leaf.val (.bool (cneg ((f.c) + ((g.c) * (c))))),natL (limbs (cnum ((f.c) + ((g.c) * (c))))),natL (limbs (cden ((f.c) + ((g.c) * (c)))))]) rfl fn182 rfl rfl (put_spec out (by omega) ((f.c) + ((g.c) * (c))) y.1 ((y.2) * (c)) (by omega)) (nz_le _ _)) ?_
     refine dz 1 rfl (DK_nil (za 3 rfl (tq_ rfl (Jq_sliceR_lo tmE (g.ts.drop j) (1) rfl rfl rfl un23 ty92 rfl (by rw [List.length_drop];omega)) (eq_ (D.v (V.one (tmE.row (g.ts.drop (j + 1))))) rfl (by rw [List.drop_drop]) (zl 4 rfl ?_)))))
     exact nx_ ⟨i,j + 1,_,_,rfl,rfl,rfl,by omega,by omega,(by have h1:=nz_len out (y.1,y.2 * c);omega),by rw [← hinv,mrg_gt hx hy hlt hgt]⟩ rfl
    ·refine kq_ rfl (ltF rfl) (dz 2 rfl (DK_nil (za 3 rfl (dr_ 0 [(16,5),(17,4)] [5,4] (kp_ [5] rfl (Jq_load_agg rfl rfl rfl (by decide) ty29 (by decide) (Nat.le_of_ble_eq_true rfl) rfl) (dz 1 rfl (kq_ rfl (jix 0 hx0 rfl) (kq_ rfl (jfr rfl) (kq_ rfl (jli rfl) ?_)))))))))
     refine dz 1 rfl (kq_ rfl (jix 0 hx0 rfl) (kq_ rfl (jfr rfl) (kq_ rfl (jlr rfl) (dz 1 rfl (kq_ rfl (jix 0 hy0 rfl) (kq_ rfl (jfr rfl) (kq_ rfl (jlr rfl) (dz 1 rfl (kc_ fn45 rfl (qmul (qOf (y.2)) (y.2) (qOf_q _) (Br.use (by omega)) (qOf (c)) (c) (qOf_q _) (Br.use (by omega))) ?_)))))))))
     refine kc_ fn44 rfl (qadd (qOf (x.2)) (x.2) (qOf_q _) (Br.use (by omega)) (qOf ((y.2) * (c))) ((y.2) * (c)) (qOf_q _) (Br.use (by omega))) ?_
     refine ki_ 5 rfl (Jd_callO (r:=5) (ys:=[V.agg [Leaf.own 5 m_,Leaf.val (.bool (cneg ((f.c) + ((g.c) * (c))))),natL (limbs (cnum ((f.c) + ((g.c) * (c))))),natL (limbs (cden ((f.c) + ((g.c) * (c)))))],V.one (Leaf.val (.int .i64 ((x.1:Nat):Int))),V.agg (qL ((x.2) + ((y.2) * (c))))]) (V.agg [Leaf.own 5 (m_ + 1),Leaf.val (.bool (cneg ((f.c) + ((g.c) * (c))))),natL (limbs (cnum ((f.c) + ((g.c) * (c))))),natL (limbs (cden ((f.c) + ((g.c) * (c)))))]) rfl fn182 rfl rfl (put_spec out (by omega) ((f.c) + ((g.c) * (c))) x.1 ((x.2) + ((y.2) * (c))) (by omega)) (nz_le _ _)) ?_
     refine dz 1 rfl (DK_nil (za 1 rfl (dr_ 0 [] [] (dz 1 rfl (kq_ rfl (Jq_sliceR_lo tmE (f.ts.drop i) (1) rfl rfl rfl un23 ty92 rfl (by rw [List.length_drop];omega)) (keq_ (D.v (V.one (tmE.row (f.ts.drop (i + 1))))) rfl (by rw [List.drop_drop]) (dz 1 rfl (kq_ rfl (Jq_sliceR_lo tmE (g.ts.drop j) (1) rfl rfl rfl un23 ty92 rfl (by rw [List.length_drop];omega)) ?_))))))))
     refine keq_ (D.v (V.one (tmE.row (g.ts.drop (j + 1))))) rfl (by rw [List.drop_drop]) (dz 2 rfl (DK_nil (za 2 rfl ?_)))
     exact nx_ ⟨i + 1,j + 1,_,_,rfl,rfl,rfl,by omega,by omega,(by have h1:=nz_len out (x.1,x.2 + y.2 * c);omega),by rw [← hinv,mrg_eq hx hy hlt hgt]⟩ rfl
  ·obtain ⟨x,hx⟩:∃ x,f.ts[i]? = some x:=⟨_,List.getElem?_eq_getElem hi⟩
   have hx0:(f.ts.drop i)[0]? = some x:=by rw [List.getElem?_drop];exact hx
   haveI hxb:=hf.bd x (List.mem_of_getElem? hx)
   refine dr_ 0 [] [] (dz 1 rfl (kq_ rfl (jln rfl) (kq_ rfl (eqT rfl (by rw [List.length_drop];omega)) (dz 17 rfl (DK_nil (za 3 rfl (dr_ 0 [(9,5),(10,4)] [5,4] (kp_ [5] rfl (Jq_load_agg rfl rfl rfl (by decide) ty29 (by decide) (Nat.le_of_ble_eq_true rfl) rfl) (dz 1 rfl ?_)))))))))
   refine kq_ rfl (jix 0 hx0 rfl) (kq_ rfl (jfr rfl) (kq_ rfl (jli rfl) (dz 1 rfl (kq_ rfl (jix 0 hx0 rfl) (kq_ rfl (jfr rfl) (kq_ rfl (jlr rfl) ?_))))))
   refine ki_ 5 rfl (Jd_callO (r:=5) (ys:=[V.agg [Leaf.own 5 m_,Leaf.val (.bool (cneg ((f.c) + ((g.c) * (c))))),natL (limbs (cnum ((f.c) + ((g.c) * (c))))),natL (limbs (cden ((f.c) + ((g.c) * (c)))))],V.one (Leaf.val (.int .i64 ((x.1:Nat):Int))),V.agg (qL x.2)]) (V.agg [Leaf.own 5 (m_ + 1),Leaf.val (.bool (cneg ((f.c) + ((g.c) * (c))))),natL (limbs (cnum ((f.c) + ((g.c) * (c))))),natL (limbs (cden ((f.c) + ((g.c) * (c)))))]) rfl fn182 rfl rfl (put_spec out (by omega) ((f.c) + ((g.c) * (c))) x.1 x.2 (by omega)) (nz_le _ _)) ?_
   refine dz 1 rfl (DK_nil (za 3 rfl (tq_ rfl (Jq_sliceR_lo tmE (f.ts.drop i) (1) rfl rfl rfl un23 ty92 rfl (by rw [List.length_drop];omega)) (eq_ (D.v (V.one (tmE.row (f.ts.drop (i + 1))))) rfl (by rw [List.drop_drop]) (zl 4 rfl ?_)))))
   exact nx_ ⟨i + 1,j,_,_,rfl,rfl,rfl,by omega,by omega,(by have h1:=nz_len out (x.1,x.2);omega),by rw [← hinv,mrg_l hx hj]⟩ rfl
 ·refine tq_ rfl (gtF rfl (by rw [List.length_drop];omega)) (zl 2 rfl (tq_ rfl (jln rfl) ?_))
  by_cases hj:j < g.ts.length
  ·refine tq_ rfl (gtT rfl (by rw [List.length_drop];omega)) (zl 9 rfl ?_)
   obtain ⟨y,hy⟩:∃ y,g.ts[j]? = some y:=⟨_,List.getElem?_eq_getElem hj⟩
   have hy0:(g.ts.drop j)[0]? = some y:=by rw [List.getElem?_drop];exact hy
   haveI hyb:=hg.bd y (List.mem_of_getElem? hy)
   refine dr_ 0 [] [] (dz 1 rfl (kq_ rfl (jln rfl) (kq_ rfl (eqF rfl (by rw [List.length_drop];omega)) (dz 2 rfl (kq_ rfl (jln rfl) (kq_ rfl (gtF rfl (by rw [List.length_drop];omega)) (dz 13 rfl (DK_nil (za 3 rfl ?_)))))))))
   refine dr_ 0 [] [] (dz 1 rfl (kq_ rfl (jln rfl) (kq_ rfl (eqT rfl (by rw [List.length_drop];omega)) (dz 12 rfl (DK_nil (za 3 rfl (dr_ 0 [(11,5),(12,4)] [5,4] (kp_ [5] rfl (Jq_load_agg rfl rfl rfl (by decide) ty29 (by decide) (Nat.le_of_ble_eq_true rfl) rfl) (dz 1 rfl ?_)))))))))
   refine kq_ rfl (jix 0 hy0 rfl) (kq_ rfl (jfr rfl) (kq_ rfl (jli rfl) (dz 1 rfl (kq_ rfl (jix 0 hy0 rfl) (kq_ rfl (jfr rfl) (kq_ rfl (jlr rfl) (dz 1 rfl (kc_ fn45 rfl (qmul (qOf (y.2)) (y.2) (qOf_q _) (Br.use (by omega)) (qOf (c)) (c) (qOf_q _) (Br.use (by omega))) ?_))))))))
   refine ki_ 5 rfl (Jd_callO (r:=5) (ys:=[V.agg [Leaf.own 5 m_,Leaf.val (.bool (cneg ((f.c) + ((g.c) * (c))))),natL (limbs (cnum ((f.c) + ((g.c) * (c))))),natL (limbs (cden ((f.c) + ((g.c) * (c)))))],V.one (Leaf.val (.int .i64 ((y.1:Nat):Int))),V.agg (qL ((y.2) * (c)))]) (V.agg [Leaf.own 5 (m_ + 1),Leaf.val (.bool (cneg ((f.c) + ((g.c) * (c))))),natL (limbs (cnum ((f.c) + ((g.c) * (c))))),natL (limbs (cden ((f.c) + ((g.c) * (c)))))]) rfl fn182 rfl rfl (put_spec out (by omega) ((f.c) + ((g.c) * (c))) y.1 ((y.2) * (c)) (by omega)) (nz_le _ _)) ?_
   refine dz 1 rfl (DK_nil (za 3 rfl (tq_ rfl (Jq_sliceR_lo tmE (g.ts.drop j) (1) rfl rfl rfl un23 ty92 rfl (by rw [List.length_drop];omega)) (eq_ (D.v (V.one (tmE.row (g.ts.drop (j + 1))))) rfl (by rw [List.drop_drop]) (zl 4 rfl ?_)))))
   exact nx_ ⟨i,j + 1,_,_,rfl,rfl,rfl,by omega,by omega,(by have h1:=nz_len out (y.1,y.2 * c);omega),by rw [← hinv,mrg_r hi hy]⟩ rfl
  ·refine tq_ rfl (gtF rfl (by rw [List.length_drop];omega)) (zl 15 rfl (Tc_viewB 3 (ls':=[El.row tmE out,Leaf.val (.bool (cneg ((f.c) + ((g.c) * (c))))),natL (limbs (cnum ((f.c) + ((g.c) * (c))))),natL (limbs (cden ((f.c) + ((g.c) * (c)))))]) rfl rfl (RowAt.ofE tmE out rfl (by decide)) ⟨.inr ⟨rfl,rfl⟩,.inl rfl,.inl rfl,.inl rfl,trivial⟩ ?_))
   exact r1_ hq_ rfl (by rw [← hinv,mrg_fin hi hj])
end Go.Proofs.YtmpkandbccallaaGreatDoor
set_option linter.unusedSimpArgs false
set_option linter.unusedVariables false
namespace Go.Proofs.YtmpkandbccallaaGreatDoor
open Go Go.RowKit Rc
theorem tab_mem:(0,bruijn.map fun n:Nat=>Value.int .u8 (n:Int))∈tab:=by simp [tab,bruijn]
theorem tab_get {k:Nat} (h:k < 32):(bruijn.map fun n:Nat=>Value.int .u8 (n:Int))[2 ^ k * 125613361 % 4294967296 / 134217728 * 1]? = some (.int .u8 (k:Int)):=by
 rw [Nat.mul_one,List.getElem?_map,bruijn_get h];rfl
theorem and_u32 {x y z:Nat} (hx:x < 4294967296) (hy:y < 4294967296) (h:x &&& y = z) (hz:z < 4294967296):IntKind.u32.wrap ((BitVec.ofInt IntKind.u32.bits (x:Int) &&& BitVec.ofInt IntKind.u32.bits (y:Int)).toNat) = (z:Int):=by
 rw [BitVec.toNat_and,ofInt_nat _ x (by simp only [IntKind.bits];omega),ofInt_nat _ y (by simp only [IntKind.bits];omega),h]
 exact wrap_nat_u32 hz
set_option maxRecDepth 10000 in
theorem tz32_spec (x:Nat) (h0:x≠0) (hx:x < 4294967296):Ctr Tryz.prog 218 [V.one (Leaf.val (.int .u32 x))] (R.one (V.one (Leaf.val (.int .i64 ((tz x:Nat):Int))))):=by
 refine bd_ Tryz.func218 Tryz.ntmps218 rfl (fun w0 A0=>?_)
 refine zc 9 rfl (tq_ rfl (eqF rfl) (zl 6 rfl ?_))
 have ht:=tz32_lt h0 hx
 have hp:2 ^ tz x≤2 ^ 31:=Nat.pow_le_pow_right (by decide) (by omega)
 have hi:=bruijn_lt ht
 refine zc 3 rfl (tq_ rfl (Jq_neg rfl rfl (r:=((4294967296 - x:Nat):Int)) (wu32 (by omega))) (tq_ rfl (Jq_and rfl rfl rfl (r:=((2 ^ tz x:Nat):Int)) (and_u32 hx (by omega) (and_neg h0 hx) (by omega))) (tq_ rfl (Jq_mul rfl rfl rfl (r:=((2 ^ tz x * 125613361 % 4294967296:Nat):Int)) (wu32 (by omega))) ?_)))
 refine tq_ rfl (Jq_shr rfl rfl rfl (by decide) (r:=((2 ^ tz x * 125613361 % 4294967296 / 134217728:Nat):Int)) (shr_nat _ 27 rfl)) (tq_ rfl (Jq_index_glob (j:=2 ^ tz x * 125613361 % 4294967296 / 134217728) rfl rfl un238 ty5 hi) (tq_ rfl (Jq_load_glob rfl rfl ty5 tab_mem (tab_get ht) rfl) (tq_ rfl (jci (tz x) rfl) (zl 3 rfl ?_))))
 exact r1_ hq_ rfl rfl
set_option maxRecDepth 10000 in
theorem shl_spec (la:List Nat) (k:Nat) (hsa:Small la) (hk:k≤1048576) (hla:la.length≤9000000000000):Ctr Tryz.prog 213 [V.one (natL la),V.one (Leaf.val (.int .i64 ((k:Nat):Int)))] (R.tup [V.one (natL (limbs (val la * 2 ^ k))),V.one (Leaf.val (.int .i64 0))]):=by
 refine bd_ Tryz.func213 Tryz.ntmps213 rfl (fun w0 A0=>?_)
 refine zc 10 rfl (tq_ rfl (ltF rfl) (zl 2 rfl (tq_ rfl (gtF rfl) (zl 9 rfl (tc_ fn161 rfl (trim_spec la hsa) (zl 5 rfl ?_))))))
 have hl0:=limbs_val_length hsa;have vl:=val_limbs (val la);have sl:=small_limbs (val la)
 have hn0:(limbs (val la)).length = 0→val la = 0:=fun h=>limbs_eq_nil.1 (List.eq_nil_of_length_eq_zero h)
 generalize limbs (val la) = l at *
 refine zc 2 rfl (tq_ rfl (jln rfl) ?_)
 by_cases hz:l.length = 0
 ·refine tq_ rfl (eqT rfl) (zl 9 rfl ?_)
  exact r2_ hq_ rfl (by rw [hn0 hz,Nat.zero_mul,limbs_zero] <;> rfl)
 ·refine tq_ rfl (eqF rfl) (zl 6 rfl (dr_ 0 [] [] (dz 1 rfl (kq_ rfl (Jq_quo rfl rfl rfl (by decide) (r:=((k / 32:Nat):Int)) (w64 (tdivN k 32) (by omega) (by omega))) ?_))))
  obtain ⟨ti2,hi2,hz2,hs2,hb2⟩:=in164
  refine ke_ rfl (fun _=>Je_makeFull (n:=k / 32) (ls:=((List.replicate (k / 32) 0).map u32L)) rfl rfl rfl un25 hi2 hz2 hs2 (by decide) rfl (by decide) rfl (by rw [hb2];omega) (by simp only [maxLen];omega) (zc_u32 _) (by first | rfl | exact clL_u32 _) _) (dz 2 rfl (kq_ rfl (Jq_rem rfl rfl rfl (by decide) (r:=((k % 32:Nat):Int)) (tmodN k 32)) ?_))
  refine kc_ fn196 rfl (left_spec l (k % 32) sl (by omega) (by omega)) ?_
  obtain ⟨ti3,hi3,hz3,hs3,hb3⟩:=in164
  refine ke_ rfl (fun _=>Je_appendFull rfl rfl rfl (by simp) (by simp) (by decide) (by rw [padL_length];omega) un25 un25 hi3 hz3 hs3 rfl (by rw [padL_length];simp only [maxLen];omega) (by rw [hb3,padL_length];omega) (nm:=(List.replicate (k / 32) 0 ++ padL (l.length + 1) (val l * 2 ^ (k % 32))).length) (by rw [List.length_append,List.length_replicate]) (ls:=((List.replicate (k / 32) 0 ++ padL (l.length + 1) (val l * 2 ^ (k % 32))).map u32L)) (by rw [List.map_append]) _) ?_
  refine kc_ fn161 rfl (trim_spec (List.replicate (k / 32) 0 ++ padL (l.length + 1) (val l * 2 ^ (k % 32))) ((Small.replicate _).append (small_padL _ _))) (dz 2 rfl (DK_nil (za 1 rfl ?_)))
  exact r2_ hq_ rfl (by rw [shl_val sl,vl])
theorem nshl_w (l:List Nat) (k:Nat) (hs:Small l) (hk:k≤1048576) (hl:l.length≤9000000000000) (m:Nat) (hm:val l = m):Ctr Tryz.prog 213 [V.one (natL l),V.one (Leaf.val (.int .i64 ((k:Nat):Int)))] (R.tup [V.one (natL (limbs (m * 2 ^ k))),V.one (Leaf.val (.int .i64 0))]):=by
 subst hm;exact shl_spec l k hs hk hl
theorem nshr_w (l:List Nat) (k:Nat) (hs:Small l) (hk:k≤1048576) (hl:l.length≤10000000000000) (m:Nat) (hm:val l = m):Ctr Tryz.prog 199 [V.one (natL l),V.one (Leaf.val (.int .i64 ((k:Nat):Int)))] (R.tup [V.one (natL (limbs (m / 2 ^ k))),V.one (Leaf.val (.int .i64 0))]):=by
 subst hm;exact shr_spec l k hs hk hl
set_option maxRecDepth 10000 in
theorem zeros_spec (l:List Nat) (hs:Small l) (hn:val l≠0) (hl:l.length≤10000000000000):Ctr Tryz.prog 215 [V.one (natL l)] (R.one (V.one (Leaf.val (.int .i64 ((tz (val l):Nat):Int))))):=by
 refine bd_ Tryz.func215 Tryz.ntmps215 rfl (fun w0 A0=>?_)
 refine zc 12 rfl (lpR_ (fun m Γ H=>∃ (k:Nat),l.length - k = m∧Γ = [(0,some (D.v (V.one (natL l)))),(3,some (D.int ((k:Nat):Int)))]∧H = []∧val (l.take k) = 0) ⟨0,rfl,rfl,rfl,rfl⟩ rfl ?_)
 rintro m Γ H ⟨k,rfl,rfl,rfl,hz⟩
 have hk:=zeros_in hn hz
 have hlk:=hs.get k hk
 have hlt:=tz32_lt (x:=l[k])
 have hta:=zeros_at hs hk hz
 refine zc 5 rfl (tq_ rfl (ji1 rfl (get_u32 hk)) (tq_ rfl (jli rfl) ?_))
 by_cases h0:l[k]'hk = 0
 ·refine tq_ rfl (eqT rfl) (zl 8 rfl (tq_ rfl (jad (k + 1) rfl) (zl 3 rfl ?_)))
  exact nx_ ⟨k + 1,rfl,rfl,rfl,zeros_next hk hz h0⟩ rfl
 ·refine tq_ rfl (eqF rfl) (zl 11 rfl (tq_ rfl (Jq_mul rfl rfl rfl (r:=((32 * k:Nat):Int)) (w64 (by omega) (by omega) (by omega))) (zl 2 rfl (tq_ rfl (ji1 rfl (get_u32 hk)) (tq_ rfl (jli rfl) (tc_ fn218 rfl (tz32_spec (l[k]'hk) h0 hlk) ?_))))))
  refine tq_ rfl (Jq_add rfl rfl rfl (r:=((32 * k + tz (l[k]'hk):Nat):Int)) (w64 (by omega) (by have:=hlt h0 hlk;omega) (by have:=hlt h0 hlk;omega))) (zl 3 rfl ?_)
  exact r1_ hq_ rfl (by rw [hta h0])
set_option maxRecDepth 10000 in
theorem dshl_spec (u:Nat) (k:Int) (hk:k≤100000000000000) (hl:(limbs (u * 2 ^ k.toNat)).length≤1000000000000):Ctr Tryz.prog 185 [V.one (natL (limbs u)),V.one (Leaf.val (.int .i64 k))] (R.one (V.one (natL (limbs (u * 2 ^ k.toNat))))):=by
 refine bd_ Tryz.func185 Tryz.ntmps185 rfl (fun w0 A0=>?_)
 refine zc 7 rfl (lpK_ (fun m Γ H=>∃ (c:Nat) (r:Int),r.toNat = m∧Γ = [(0,some (D.v (V.one (natL (limbs (u * 2 ^ c)))))),(1,some (D.int r))]∧H = []∧r.toNat + c = k.toNat∧r≤100000000000000) ⟨0,k,rfl,rfl,rfl,by omega,hk⟩ ⟨by rw [Nat.pow_zero,Nat.mul_one];rfl,rfl,trivial⟩ ?_)
 rintro m Γ H ⟨c,r,rfl,rfl,rfl,hrc,hr⟩
 refine zc 4 rfl ?_
 by_cases hr0:0 < r
 ·refine tq_ rfl (gtT rfl) (zl 7 rfl ?_)
  obtain ⟨p,hp⟩:∃ p:Nat,(p:Int) = min r 1048576:=⟨(min r 1048576).toNat,by omega⟩
  have hm1:u * 2 ^ c≤u * 2 ^ k.toNat:=Nat.mul_le_mul_left _ (Nat.pow_le_pow_right (by decide) (by omega))
  have hm2:=limbs_length_mono hm1
  refine zc 2 rfl (tq_ rfl (Jq_min rfl rfl rfl (r:=((p:Nat):Int)) (by split <;> omega)) (zl 7 rfl (tc_ fn213 rfl (nshl_w (limbs (u * 2 ^ c)) p (small_limbs _) (by omega) (by omega) (u * 2 ^ c) (val_limbs _)) (zl 9 rfl (tq_ rfl (Jq_sub rfl rfl rfl (r:=r - p) (w64 (by omega) (by omega) (by omega))) (zl 3 rfl ?_))))))
  exact At_next (m':=(r - p).toNat) (by omega) ⟨c + p,r - p,rfl,rfl,rfl,by omega,by omega⟩ ⟨by rw [Nat.pow_add,← Nat.mul_assoc];rfl,rfl,trivial⟩
 ·refine tq_ rfl (gtF rfl) (zl 14 rfl ?_)
  exact r1_ hq_ rfl (by rw [show c = k.toNat from by omega])
set_option maxRecDepth 10000 in
theorem dshr_spec (u:Nat) (k:Int) (hk:k≤100000000000000) (hl:(limbs (u)).length≤1000000000000):Ctr Tryz.prog 216 [V.one (natL (limbs u)),V.one (Leaf.val (.int .i64 k))] (R.one (V.one (natL (limbs (u / 2 ^ k.toNat))))):=by
 refine bd_ Tryz.func216 Tryz.ntmps216 rfl (fun w0 A0=>?_)
 refine zc 7 rfl (lpK_ (fun m Γ H=>∃ (c:Nat) (r:Int),r.toNat = m∧Γ = [(0,some (D.v (V.one (natL (limbs (u / 2 ^ c)))))),(1,some (D.int r))]∧H = []∧r.toNat + c = k.toNat∧r≤100000000000000) ⟨0,k,rfl,rfl,rfl,by omega,hk⟩ ⟨by rw [Nat.pow_zero,Nat.div_one];rfl,rfl,trivial⟩ ?_)
 rintro m Γ H ⟨c,r,rfl,rfl,rfl,hrc,hr⟩
 refine zc 4 rfl ?_
 by_cases hr0:0 < r
 ·refine tq_ rfl (gtT rfl) (zl 7 rfl ?_)
  obtain ⟨p,hp⟩:∃ p:Nat,(p:Int) = min r 1048576:=⟨(min r 1048576).toNat,by omega⟩
  have hm2:=limbs_length_mono (Nat.div_le_self u (2 ^ c))
  refine zc 2 rfl (tq_ rfl (Jq_min rfl rfl rfl (r:=((p:Nat):Int)) (by split <;> omega)) (zl 7 rfl (tc_ fn199 rfl (nshr_w (limbs (u / 2 ^ c)) p (small_limbs _) (by omega) (by omega) (u / 2 ^ c) (val_limbs _)) (zl 9 rfl (tq_ rfl (Jq_sub rfl rfl rfl (r:=r - p) (w64 (by omega) (by omega) (by omega))) (zl 3 rfl ?_))))))
  exact At_next (m':=(r - p).toNat) (by omega) ⟨c + p,r - p,rfl,rfl,rfl,by omega,by omega⟩ ⟨by rw [Nat.pow_add,← Nat.div_div_eq_div_mul];rfl,rfl,trivial⟩
 ·refine tq_ rfl (gtF rfl) (zl 14 rfl ?_)
  exact r1_ hq_ rfl (by rw [show c = k.toNat from by omega])
end Go.Proofs.YtmpkandbccallaaGreatDoor
set_option linter.unusedSimpArgs false
set_option linter.unusedVariables false
namespace Go.Proofs.YtmpkandbccallaaGreatDoor
open Go Go.RowKit Rc
theorem zeros_w (n:Nat) (h:n≠0) (hl:(limbs n).length≤10000000000000):Ctr Tryz.prog 215 [V.one (natL (limbs n))] (R.one (V.one (Leaf.val (.int .i64 ((tz n:Nat):Int))))):=by
 have h1:=zeros_spec (limbs n) (small_limbs _) (by rw [val_limbs];exact h) hl
 rwa [val_limbs] at h1
set_option maxRecDepth 10000 in
theorem qnum (x:Qr) (r:Rat) (hr:x.q = r) (hfx:Fit 1000000000000 x):Ctr Tryz.prog 209 [qV x] (R.one (zV (zOf r.num))):=by
 refine bd_ Tryz.func209 Tryz.ntmps209 rfl (fun w0 A0=>?_)
 haveI ir:Br r 1000000000000:=Br.fitq hr hfx
 refine zc 9 rfl (tc_ fn102 rfl (qcanon x (r) hr (hfx.mono (by omega))) (zl 14 rfl ?_))
 exact r1_ hq_ rfl rfl
set_option maxRecDepth 10000 in
theorem qden (x:Qr) (r:Rat) (hr:x.q = r) (hfx:Fit 1000000000000 x):Ctr Tryz.prog 210 [qV x] (R.one (V.one (natL (limbs r.den)))):=by
 refine bd_ Tryz.func210 Tryz.ntmps210 rfl (fun w0 A0=>?_)
 haveI ir:Br r 1000000000000:=Br.fitq hr hfx
 refine zc 9 rfl (tc_ fn102 rfl (qcanon x (r) hr (hfx.mono (by omega))) (tc_ fn101 rfl (qunder (qOf (r)) (Br.use (by omega))) (tc_ fn157 rfl (make_w (dl (qOf (r)).d) (small_dl (qOf (r)).hd) (len_dl (Br.use (r:=(r)) (Nat.le_refl _)).d (by omega)) (dn (val (qOf (r)).d)) (val_dl _)) (zl 3 rfl ?_))))
 exact r1_ hq_ rfl (congrArg (fun n=>R.one (V.one (natL (limbs n)))) (dn_qOf r))
set_option maxRecDepth 10000 in
theorem dnormal (s:Bool) (l:List Nat) (e:Int) (hs:Small l) (hl:l.length≤100000000000) (he1:-1000000000000000≤e) (he2:e≤1000000000000000) (n:Nat) (hn:val l = n):Ctr Tryz.prog 212 [V.one (Leaf.val (.bool s)),V.one (natL l),V.one (Leaf.val (.int .i64 e))] (R.tup [dV (nrm s n e),V.one (Leaf.val (.bool (nok n e)))]):=by
 refine bd_ Tryz.func212 Tryz.ntmps212 rfl (fun w0 A0=>?_)
 haveI i0:Bn n 100000000000:=by subst hn;exact Bn.val hs hl
 have hb:=bl_le_len (Bn.use (n:=n) (Nat.le_refl _))
 have ht:=tz_le_len (Bn.use (n:=n) (Nat.le_refl _))
 refine zc 9 rfl (tc_ fn157 rfl (make_w l hs (Nat.le_trans hl (by omega)) (n) hn) (zl 7 rfl (tq_ rfl (jln rfl) ?_)))
 by_cases hn0:n = 0
 ·refine tq_ rfl (eqT rfl (by rw [hn0,limbs_zero];rfl)) (zl 10 rfl ?_)
  exact r2_ hq_ rfl (by rw [hn0,nrm_zero,nok_zero,dV_zero] <;> rfl)
 ·refine tq_ rfl (eqF rfl (by have:=limbs_len_pos.2 hn0;omega)) (zl 8 rfl (tc_ fn215 rfl (zeros_w n hn0 (Bn.use (by omega))) (zl 8 rfl (tq_ rfl (Jq_add rfl rfl rfl (r:=e + (tz n:Int)) (w64 rfl (by omega) (by omega))) (zl 6 rfl ?_)))))
  by_cases h1:e + (tz n:Int) < -1048576
  ·refine tq_ rfl (ltT rfl) (zl 14 rfl ?_)
   exact r2_ hq_ rfl (by rw [nrm_out hn0 (.inl h1),nok_out hn0 (.inl h1),dV_zero] <;> rfl)
  ·refine tq_ rfl (ltF rfl) (zl 2 rfl ?_)
   by_cases h2:1048576 < e + (tz n:Int)
   ·refine tq_ rfl (gtT rfl) (zl 11 rfl ?_)
    exact r2_ hq_ rfl (by rw [nrm_out hn0 (.inr h2),nok_out hn0 (.inr h2),dV_zero] <;> rfl)
   ·refine tq_ rfl (gtF rfl) (zl 11 rfl (tc_ fn216 rfl (dshr_spec n (tz n:Int) (by omega) (Bn.use (by omega))) (zl 6 rfl ?_)))
    exact r2_ hq_ rfl (by rw [nrm_in hn0 (by omega) (by omega),nok_in hn0 (by omega) (by omega)] <;> rfl)
set_option maxRecDepth 10000 in
theorem drat (d:Dy) (hd:Dfit 1000000000 d):Ctr Tryz.prog 137 [dV d] (R.one (qV (qOf (dq d)))):=by
 refine bd_ Tryz.func137 Tryz.ntmps137 rfl (fun w0 A0=>?_)
 haveI id:Bd d 1000000000:=⟨hd⟩
 have hlo:=hd.lo;have hhi:=hd.hi
 refine zc 11 rfl ?_
 by_cases h1:0≤d.exp
 ·refine tq_ rfl (geT rfl) (zl 4 rfl ?_)
  haveI i1:Bn (d.mag * 2 ^ d.exp.toNat) (1000000000 + 32769):=Bn.shift 32769 inferInstance (by omega)
  refine dr_ 0 [(9,1)] [1] (dz 6 rfl (kc_ fn185 rfl (dshl_spec d.mag d.exp (by omega) (Bn.use (by omega))) (dz 1 rfl (kc_ fn102 rfl (qcanon (Qr.mk d.neg (limbs (d.mag * 2 ^ d.exp.toNat)) [] (small_limbs _) Small.nil) (rq d.neg (d.mag * 2 ^ d.exp.toNat) (0)) (qr_eq (val_limbs _) rfl) (Fit.mk (Bn.use (by omega)) (Nat.zero_le _))) (dz 1 rfl (DK_nil (za 1 rfl ?_)))))))
  exact r1_ hq_ rfl (by unfold dq;rw [if_pos h1] <;> rfl)
 ·refine tq_ rfl (geF rfl) (zl 6 rfl ?_)
  haveI i2:Bn (1 * 2 ^ (-d.exp).toNat) (1 + 32769):=Bn.shift 32769 ⟨by rw [limbs_one];exact Nat.le_refl _⟩ (by omega)
  refine dr_ 0 [(11,1)] [1] (dz 4 rfl (kc_ fn183 rfl (of_spec 1 (by decide)) (dz 2 rfl (kq_ rfl (Jq_neg rfl rfl (r:=-d.exp) (w64 (by omega) (by omega) (by omega))) (kc_ fn185 rfl (dshl_spec 1 (-d.exp) (by omega) (Bn.use (by omega))) (dz 1 rfl ?_))))))
  refine kc_ fn102 rfl (qcanon (Qr.mk d.neg (limbs (d.mag)) (limbs (1 * 2 ^ (-d.exp).toNat)) (small_limbs _) (small_limbs _)) (rq d.neg (d.mag) (1 * 2 ^ (-d.exp).toNat)) (qr_eq (val_limbs _) (val_limbs _)) (Fit.mk (Bn.use (by omega)) (Bn.use (by omega)))) (dz 1 rfl (DK_nil (za 1 rfl ?_)))
  exact r1_ hq_ rfl (by unfold dq;rw [if_neg h1,Nat.one_mul] <;> rfl)
end Go.Proofs.YtmpkandbccallaaGreatDoor
set_option linter.unusedSimpArgs false
set_option linter.unusedVariables false
namespace Go.Proofs.YtmpkandbccallaaGreatDoor
open Go Go.RowKit Rc
set_option maxRecDepth 10000 in
theorem dsize (a b:Nat) (ha0:a≠0) (hb0:b≠0) (ha:(limbs a).length≤26000) (hb:(limbs b).length≤26000):Ctr Tryz.prog 211 [V.one (natL (limbs a)),V.one (natL (limbs b))] (R.tup [V.one (Leaf.val (.int .i64 (lg a b))),V.one (Leaf.val (.bool true))]):=by
 refine bd_ Tryz.func211 Tryz.ntmps211 rfl (fun w0 A0=>?_)
 haveI ia:Bn a 26000:=⟨ha⟩
 haveI ib:Bn b 26000:=⟨hb⟩
 have hla:=bl_le_len ha;have hlb:=bl_le_len hb
 have hlg:=lg_bound ha hb
 have hlo:=lg_or a b
 refine zc 9 rfl (tc_ fn152 rfl (bits_w (limbs (a)) (small_limbs _) (Bn.use (by omega)) (a) (val_limbs _)) (zl 1 rfl (tc_ fn152 rfl (bits_w (limbs (b)) (small_limbs _) (Bn.use (by omega)) (b) (val_limbs _)) (tq_ rfl (Jq_sub rfl rfl rfl (r:=(bl a:Int) - bl b) (w64 (by omega) (by omega) (by omega))) (zl 7 rfl (tq_ rfl (gtF rfl) (zl 2 rfl (tq_ rfl (ltF rfl) (zl 18 rfl ?_)))))))))
 by_cases h1:0≤(bl a:Int) - bl b
 ·refine tq_ rfl (geT rfl) (zl 3 rfl ?_)
  haveI i1:Bn (b * 2 ^ ((bl a:Int) - bl b).toNat) (26000 + 27000):=Bn.shift 27000 ib (by omega)
  refine zc 3 rfl (tc_ fn185 rfl (dshl_spec b ((bl a:Int) - bl b) (by omega) (Bn.use (by omega))) (zl 8 rfl (tc_ fn146 rfl (cmp_w (limbs (a)) (small_limbs _) (limbs (b * 2 ^ ((bl a:Int) - bl b).toNat)) (small_limbs _) (a) (val_limbs _) (b * 2 ^ ((bl a:Int) - bl b).toNat) (val_limbs _)) ?_)))
  by_cases h2:a < b * 2 ^ ((bl a:Int) - bl b).toNat
  ·refine tq_ rfl (ltT rfl (by rw [cmpN_lt h2];decide)) (zl 5 rfl (tq_ rfl (Jq_sub rfl rfl rfl (r:=(bl a:Int) - bl b - 1) (w64 (by omega) (by omega) (by omega))) (zl 7 rfl (tq_ rfl (geT rfl) (zl 2 rfl (tq_ rfl (ltT rfl) (zl 5 rfl ?_)))))))
   exact r2_ hq_ rfl (by unfold lg;rw [if_pos h1,if_pos h2] <;> rfl)
  ·refine tq_ rfl (ltF rfl (by unfold cmpN;rw [if_neg h2];split <;> decide)) (zl 9 rfl (tq_ rfl (geT rfl) (zl 2 rfl (tq_ rfl (ltT rfl) (zl 5 rfl ?_)))))
   exact r2_ hq_ rfl (by unfold lg;rw [if_pos h1,if_neg h2] <;> rfl)
 ·refine tq_ rfl (geF rfl) (zl 3 rfl ?_)
  haveI i2:Bn (a * 2 ^ (-((bl a:Int) - bl b)).toNat) (26000 + 27000):=Bn.shift 27000 ia (by omega)
  refine zc 3 rfl (tq_ rfl (Jq_neg rfl rfl (r:=-((bl a:Int) - bl b)) (w64 (by omega) (by omega) (by omega))) (tc_ fn185 rfl (dshl_spec a (-((bl a:Int) - bl b)) (by omega) (Bn.use (by omega))) (zl 8 rfl ?_)))
  refine tc_ fn146 rfl (cmp_w (limbs (a * 2 ^ (-((bl a:Int) - bl b)).toNat)) (small_limbs _) (limbs (b)) (small_limbs _) (a * 2 ^ (-((bl a:Int) - bl b)).toNat) (val_limbs _) (b) (val_limbs _)) ?_
  by_cases h2:a * 2 ^ (-((bl a:Int) - bl b)).toNat < b
  ·refine tq_ rfl (ltT rfl (by rw [cmpN_lt h2];decide)) (zl 5 rfl (tq_ rfl (Jq_sub rfl rfl rfl (r:=(bl a:Int) - bl b - 1) (w64 (by omega) (by omega) (by omega))) (zl 7 rfl (tq_ rfl (geT rfl) (zl 2 rfl (tq_ rfl (ltT rfl) (zl 5 rfl ?_)))))))
   exact r2_ hq_ rfl (by unfold lg;rw [if_neg h1,if_pos h2] <;> rfl)
  ·refine tq_ rfl (ltF rfl (by unfold cmpN;rw [if_neg h2];split <;> decide)) (zl 9 rfl (tq_ rfl (geT rfl) (zl 2 rfl (tq_ rfl (ltT rfl) (zl 5 rfl ?_)))))
   exact r2_ hq_ rfl (by unfold lg;rw [if_neg h1,if_neg h2] <;> rfl)
set_option maxRecDepth 10000 in
theorem dround (x:Qr) (r:Rat) (hr:x.q = r) (hfx:Fit 25000 x) (p:Int) (away:Bool):Ctr Tryz.prog 184 [qV x,V.one (Leaf.val (.int .i64 p)),V.one (Leaf.val (.bool away))] (R.tup [dV (rndD r p away),V.one (Leaf.val (.int .i64 (rndE p)))]):=by
 refine bd_ Tryz.func184 Tryz.ntmps184 rfl (fun w0 A0=>?_)
 haveI ir:Br r 25000:=Br.fitq hr hfx
 have hnl:(limbs (Int.natAbs r.num)).length≤25000:=Bz.use (z:=r.num) (Nat.le_refl _)
 have hdl:(limbs r.den).length≤25001:=Bn.use (n:=r.den) (Nat.le_refl _)
 haveI ina:Bn (Int.natAbs r.num) 25000:=⟨hnl⟩
 have hlg:=lg_bound hnl hdl
 refine zc 11 rfl ?_
 by_cases h1:p < 1
 ·refine tq_ rfl (ltT rfl) (zl 14 rfl ?_)
  exact r2_ hq_ rfl (by unfold rndD rndE;rw [if_pos (by omega),if_pos (by omega),dV_zero] <;> rfl)
 ·refine tq_ rfl (ltF rfl) (zl 2 rfl ?_)
  by_cases h2:4096 < p
  ·refine tq_ rfl (gtT rfl) (zl 11 rfl ?_)
   exact r2_ hq_ rfl (by unfold rndD rndE;rw [if_pos (by omega),if_pos (by omega),dV_zero] <;> rfl)
  ·refine tq_ rfl (gtF rfl) (zl 7 rfl (dr_ 1 [(4,2),(5,2)] [2] (dz 1 rfl (kc_ fn209 rfl (qnum x (r) hr (hfx.mono (by omega))) (dz 1 rfl (kc_ fn210 rfl (qden x (r) hr (hfx.mono (by omega))) (dz 3 rfl (DK_nil (za 5 rfl ?_)))))))))
   refine tc_ fn95 rfl (zsign (zOf (r.num)) (r.num) (zOf_z _) (Bz.use (by omega))) ?_
   by_cases h3:r.num = 0
   ·refine tq_ rfl (eqT rfl (by rw [h3];rfl)) (zl 10 rfl ?_)
    exact r2_ hq_ rfl (by unfold rndD;rw [if_pos (by omega),rndE_of h1 h2,dV_zero] <;> rfl)
   ·refine tq_ rfl (eqF rfl (sgz_ne h3)) (zl 10 rfl (tc_ fn211 rfl (dsize (Int.natAbs (r.num)) r.den (by omega) r.den_nz (by omega) (by omega)) (zl 21 rfl (tq_ rfl (Jq_sub rfl rfl rfl (r:=lg (Int.natAbs (r.num)) r.den - p) (w64 (by omega) (by omega) (by omega))) (tq_ rfl (Jq_add rfl rfl rfl (r:=lg (Int.natAbs (r.num)) r.den - p + 1) (w64 (by omega) (by omega) (by omega))) ?_)))))
    refine zl 16 rfl ?_
    by_cases hE:0≤lg (Int.natAbs (r.num)) r.den - p + 1
    ·refine tq_ rfl (geT rfl) (zl 3 rfl ?_)
     haveI i1:Bn (r.den * 2 ^ (lg (Int.natAbs (r.num)) r.den - p + 1).toNat) (25001 + 27000):=Bn.shift 27000 inferInstance (by omega)
     refine zc 3 rfl (tc_ fn185 rfl (dshl_spec r.den (lg (Int.natAbs (r.num)) r.den - p + 1) (by omega) (Bn.use (by omega))) (zl 4 rfl ?_))
     have hd0:r.den * 2 ^ (lg (Int.natAbs (r.num)) r.den - p + 1).toNat≠0:=by have h:=scD_ne r.den_nz (lg (Int.natAbs (r.num)) r.den - p + 1);rwa [scD_pos hE] at h
     refine zc 3 rfl (tc_ fn160 rfl (divmod_w (limbs (Int.natAbs (r.num))) (limbs (r.den * 2 ^ (lg (Int.natAbs (r.num)) r.den - p + 1).toNat)) (small_limbs _) (small_limbs _) (Bn.use (by omega)) (Bn.use (by omega)) (Int.natAbs (r.num)) (r.den * 2 ^ (lg (Int.natAbs (r.num)) r.den - p + 1).toNat) (val_limbs _) (val_limbs _) hd0) (zl 14 rfl ?_))
     refine two_ rfl (fun hup=>?_) (fun hup=>?_)
     ·refine zl 15 rfl (tc_ fn212 rfl (dnormal (decide (r.num < 0)) (limbs ((Int.natAbs (r.num)) / (r.den * 2 ^ (lg (Int.natAbs (r.num)) r.den - p + 1).toNat))) (lg (Int.natAbs (r.num)) r.den - p + 1) (small_limbs _) (Bn.use (by omega)) (by omega) (by omega) ((Int.natAbs (r.num)) / (r.den * 2 ^ (lg (Int.natAbs (r.num)) r.den - p + 1).toNat)) (val_limbs _)) (zl 15 rfl ?_))
      exact r2_ hq_ rfl (by subst hup;rw [rndD_of h1 h2 h3,rndE_of h1 h2];unfold rnd;rw [rndQ_no,scN_pos hE,scD_pos hE] <;> rfl)
     ·refine zl 1 rfl (tq_ rfl (jln rfl) ?_)
      by_cases hr0:(Int.natAbs (r.num)) % (r.den * 2 ^ (lg (Int.natAbs (r.num)) r.den - p + 1).toNat)≠0
      ·refine tq_ rfl (gtT rfl (by have:=limbs_len_pos.2 hr0;omega)) (zl 6 rfl (tc_ fn183 rfl (of_spec 1 (by decide)) ?_))
       refine tc_ fn155 rfl (add_w (limbs ((Int.natAbs (r.num)) / (r.den * 2 ^ (lg (Int.natAbs (r.num)) r.den - p + 1).toNat))) (small_limbs _) (Bn.use (by omega)) (limbs (1)) (small_limbs _) (Bn.use (by omega)) ((Int.natAbs (r.num)) / (r.den * 2 ^ (lg (Int.natAbs (r.num)) r.den - p + 1).toNat)) (val_limbs _) (1) (val_limbs _)) (zl 9 rfl ?_)
       refine tc_ fn212 rfl (dnormal (decide (r.num < 0)) (limbs (((Int.natAbs (r.num)) / (r.den * 2 ^ (lg (Int.natAbs (r.num)) r.den - p + 1).toNat)) + (1))) (lg (Int.natAbs (r.num)) r.den - p + 1) (small_limbs _) (Bn.use (by omega)) (by omega) (by omega) (((Int.natAbs (r.num)) / (r.den * 2 ^ (lg (Int.natAbs (r.num)) r.den - p + 1).toNat)) + (1)) (val_limbs _)) (zl 15 rfl ?_)
       exact r2_ hq_ rfl (by subst hup;rw [rndD_of h1 h2 h3,rndE_of h1 h2];unfold rnd;rw [rndQ_up (by rw [scN_pos hE,scD_pos hE];exact hr0),scN_pos hE,scD_pos hE] <;> rfl)
      ·refine tq_ rfl (gtF rfl (by rw [Classical.not_not.1 hr0,limbs_zero];decide)) (zl 12 rfl ?_)
       refine tc_ fn212 rfl (dnormal (decide (r.num < 0)) (limbs ((Int.natAbs (r.num)) / (r.den * 2 ^ (lg (Int.natAbs (r.num)) r.den - p + 1).toNat))) (lg (Int.natAbs (r.num)) r.den - p + 1) (small_limbs _) (Bn.use (by omega)) (by omega) (by omega) ((Int.natAbs (r.num)) / (r.den * 2 ^ (lg (Int.natAbs (r.num)) r.den - p + 1).toNat)) (val_limbs _)) (zl 15 rfl ?_)
       exact r2_ hq_ rfl (by subst hup;rw [rndD_of h1 h2 h3,rndE_of h1 h2];unfold rnd;rw [rndQ_ex (by rw [scN_pos hE,scD_pos hE];exact hr0),scN_pos hE,scD_pos hE] <;> rfl)
    ·refine tq_ rfl (geF rfl) (zl 3 rfl ?_)
     haveI i1:Bn (Int.natAbs (r.num) * 2 ^ (-(lg (Int.natAbs (r.num)) r.den - p + 1)).toNat) (25000 + 27000):=Bn.shift 27000 ina (by omega)
     refine zc 4 rfl (tq_ rfl (Jq_neg rfl rfl (r:=-(lg (Int.natAbs (r.num)) r.den - p + 1)) (w64 (by omega) (by omega) (by omega))) (tc_ fn185 rfl (dshl_spec (Int.natAbs (r.num)) (-(lg (Int.natAbs (r.num)) r.den - p + 1)) (by omega) (Bn.use (by omega))) (zl 4 rfl ?_)))
     have hd0:r.den≠0:=by have h:=scD_ne r.den_nz (lg (Int.natAbs (r.num)) r.den - p + 1);rwa [scD_neg hE] at h
     refine zc 3 rfl (tc_ fn160 rfl (divmod_w (limbs (Int.natAbs (r.num) * 2 ^ (-(lg (Int.natAbs (r.num)) r.den - p + 1)).toNat)) (limbs (r.den)) (small_limbs _) (small_limbs _) (Bn.use (by omega)) (Bn.use (by omega)) (Int.natAbs (r.num) * 2 ^ (-(lg (Int.natAbs (r.num)) r.den - p + 1)).toNat) (r.den) (val_limbs _) (val_limbs _) hd0) (zl 14 rfl ?_))
     refine two_ rfl (fun hup=>?_) (fun hup=>?_)
     ·refine zl 15 rfl (tc_ fn212 rfl (dnormal (decide (r.num < 0)) (limbs ((Int.natAbs (r.num) * 2 ^ (-(lg (Int.natAbs (r.num)) r.den - p + 1)).toNat) / r.den)) (lg (Int.natAbs (r.num)) r.den - p + 1) (small_limbs _) (Bn.use (by omega)) (by omega) (by omega) ((Int.natAbs (r.num) * 2 ^ (-(lg (Int.natAbs (r.num)) r.den - p + 1)).toNat) / r.den) (val_limbs _)) (zl 15 rfl ?_))
      exact r2_ hq_ rfl (by subst hup;rw [rndD_of h1 h2 h3,rndE_of h1 h2];unfold rnd;rw [rndQ_no,scN_neg hE,scD_neg hE] <;> rfl)
     ·refine zl 1 rfl (tq_ rfl (jln rfl) ?_)
      by_cases hr0:(Int.natAbs (r.num) * 2 ^ (-(lg (Int.natAbs (r.num)) r.den - p + 1)).toNat) % r.den≠0
      ·refine tq_ rfl (gtT rfl (by have:=limbs_len_pos.2 hr0;omega)) (zl 6 rfl (tc_ fn183 rfl (of_spec 1 (by decide)) ?_))
       refine tc_ fn155 rfl (add_w (limbs ((Int.natAbs (r.num) * 2 ^ (-(lg (Int.natAbs (r.num)) r.den - p + 1)).toNat) / r.den)) (small_limbs _) (Bn.use (by omega)) (limbs (1)) (small_limbs _) (Bn.use (by omega)) ((Int.natAbs (r.num) * 2 ^ (-(lg (Int.natAbs (r.num)) r.den - p + 1)).toNat) / r.den) (val_limbs _) (1) (val_limbs _)) (zl 9 rfl ?_)
       refine tc_ fn212 rfl (dnormal (decide (r.num < 0)) (limbs (((Int.natAbs (r.num) * 2 ^ (-(lg (Int.natAbs (r.num)) r.den - p + 1)).toNat) / r.den) + (1))) (lg (Int.natAbs (r.num)) r.den - p + 1) (small_limbs _) (Bn.use (by omega)) (by omega) (by omega) (((Int.natAbs (r.num) * 2 ^ (-(lg (Int.natAbs (r.num)) r.den - p + 1)).toNat) / r.den) + (1)) (val_limbs _)) (zl 15 rfl ?_)
       exact r2_ hq_ rfl (by subst hup;rw [rndD_of h1 h2 h3,rndE_of h1 h2];unfold rnd;rw [rndQ_up (by rw [scN_neg hE,scD_neg hE];exact hr0),scN_neg hE,scD_neg hE] <;> rfl)
      ·refine tq_ rfl (gtF rfl (by rw [Classical.not_not.1 hr0,limbs_zero];decide)) (zl 12 rfl ?_)
       refine tc_ fn212 rfl (dnormal (decide (r.num < 0)) (limbs ((Int.natAbs (r.num) * 2 ^ (-(lg (Int.natAbs (r.num)) r.den - p + 1)).toNat) / r.den)) (lg (Int.natAbs (r.num)) r.den - p + 1) (small_limbs _) (Bn.use (by omega)) (by omega) (by omega) ((Int.natAbs (r.num) * 2 ^ (-(lg (Int.natAbs (r.num)) r.den - p + 1)).toNat) / r.den) (val_limbs _)) (zl 15 rfl ?_)
       exact r2_ hq_ rfl (by subst hup;rw [rndD_of h1 h2 h3,rndE_of h1 h2];unfold rnd;rw [rndQ_ex (by rw [scN_neg hE,scD_neg hE];exact hr0),scN_neg hE,scD_neg hE] <;> rfl)
set_option maxRecDepth 10000 in
theorem ddown (x:Qr) (r:Rat) (hr:x.q = r) (hfx:Fit 25000 x) (p:Int):Ctr Tryz.prog 135 [qV x,V.one (Leaf.val (.int .i64 p))] (R.tup [dV (rndD r p (decide (sg r < 0))),V.one (Leaf.val (.int .i64 (rndE p)))]):=by
 refine bd_ Tryz.func135 Tryz.ntmps135 rfl (fun w0 A0=>?_)
 haveI ir:Br r 25000:=Br.fitq hr hfx
 refine zc 8 rfl (dr_ 0 [(8,1)] [1] (dz 3 rfl (kc_ fn43 rfl (qsign x (r) hr (hfx.mono (by omega))) (dz 1 rfl (kc_ fn184 rfl (dround x (r) hr (hfx.mono (by omega)) p (decide ((sg (r)) < 0))) (dz 4 rfl (DK_nil (za 1 rfl ?_))))))))
 exact r2_ hq_ rfl rfl
set_option maxRecDepth 10000 in
theorem dup (x:Qr) (r:Rat) (hr:x.q = r) (hfx:Fit 25000 x) (p:Int):Ctr Tryz.prog 136 [qV x,V.one (Leaf.val (.int .i64 p))] (R.tup [dV (rndD r p (decide (0 < sg r))),V.one (Leaf.val (.int .i64 (rndE p)))]):=by
 refine bd_ Tryz.func136 Tryz.ntmps136 rfl (fun w0 A0=>?_)
 haveI ir:Br r 25000:=Br.fitq hr hfx
 refine zc 8 rfl (dr_ 0 [(8,1)] [1] (dz 3 rfl (kc_ fn43 rfl (qsign x (r) hr (hfx.mono (by omega))) (dz 1 rfl (kc_ fn184 rfl (dround x (r) hr (hfx.mono (by omega)) p (decide (0 < (sg (r))))) (dz 4 rfl (DK_nil (za 1 rfl ?_))))))))
 exact r2_ hq_ rfl rfl
end Go.Proofs.YtmpkandbccallaaGreatDoor
set_option linter.unusedSimpArgs false
set_option linter.unusedVariables false
namespace Go.Proofs.YtmpkandbccallaaGreatDoor
open Go Go.RowKit Rc
set_option maxRecDepth 10000 in
theorem scale_p (f:Af) (c:Rat) {C K n:Nat} (hf:FL C n f) [Br c K] (h2:C≤10000000000) (h3:K≤10000000000) (hn:n≤1000):Ctr Tryz.prog 79 [afV f,V.agg (qL (c))] (R.one (afV (fSc f c))):=by
 refine bd_ Tryz.func79 Tryz.ntmps79 rfl (fun w0 A0=>?_)
 refine zc 10 rfl (eq_ (D.agg (afL fZ)) rfl (congrArg D.agg fZ_ls.symm) (zl 2 rfl (tc_ fn132 rfl (merge_p fZ f c (FL.z (n:=n)) hf (by omega) (by omega) (by omega) (by omega)) (zl 3 rfl ?_))))
 exact r1_ hq_ rfl (by have e:f.c * c = fZ.c + f.c * c:=(Rat.zero_add _).symm;show R.one (afV ⟨mrg c [] f.ts,fZ.c + f.c * c⟩) = R.one (afV ⟨scT f.ts c,f.c * c⟩);rw [← mrg_nil hf.can,← e])
set_option maxRecDepth 10000 in
theorem clone_dc (l:List Dc) (hl:l.length≤100000):Ctr Tryz.prog 76 [V.one (El.row dcE l)] (R.one (V.one (El.row dcE l))):=by
 refine bd_ Tryz.func76 Tryz.ntmps76 rfl (fun w0 A0=>?_)
 refine zc 9 rfl ?_
 refine Tl_eqnil rfl rfl rfl rfl rfl un39 (fun b1 hb1=>?_)
 refine zl 2 rfl ?_
 refine Tc_cond rfl (fun hc4=>?_) (fun hc4=>?_)
 ·refine zc 5 rfl ?_
  exact r1_ hq_ rfl (by obtain ⟨h1,h2⟩:=hb1 hc4;have:=List.eq_nil_of_length_eq_zero h1;subst this;rfl)
 ·refine zc 4 rfl (te_ rfl (Je_build0F rfl un39 ty78 _) (zl 1 rfl ?_))
  obtain ⟨ti2,hi2,hz2,hs2,hb2⟩:=in78
  refine te_ rfl (Je_append0F dcE l rfl rfl rfl (by decide) un39 un39 hi2 hz2 hs2 rfl (by simp only [maxLen];omega) (by rw [hb2];omega) (H2:=_)) (zl 3 rfl ?_)
  exact r1_ hq_ rfl rfl
set_option maxRecDepth 10000 in
theorem clone_lm (l:List Lm) (hl:l.length≤100000):CtrG Tryz.prog 77 133 6 (El.all lmE l) [V.one (El.row lmE l)]:=by
 refine CtrG.of_body Tryz.func77 rfl Tryz.ntmps77 (Nat.le_of_ble_eq_true rfl) (fun w0 A0 hX=>?_)
 refine qc_ (zc 9 rfl ?_)
 refine Tl_eqnil rfl rfl rfl rfl rfl un40 (fun b1 hb1=>?_)
 refine zl 2 rfl ?_
 refine Tc_cond rfl (fun hc4=>?_) (fun hc4=>?_)
 ·refine zc 2 rfl (tq_ rfl (Jq_assign rfl (rfl)) (zl 2 rfl ?_))
  exact Tc_retG0 (fun _ _ h=>h) rfl rfl (by obtain ⟨h1,h2⟩:=hb1 hc4;have:=List.eq_nil_of_length_eq_zero h1;subst this;rfl)
 ·refine zc 4 rfl (Tl_build0 rfl rfl rfl rfl un40 ty133 rfl (Tl_ownG 5 0 rfl rfl (zl 1 rfl (te_ rfl (jal (e:=lmE) (l:=[]) rfl rfl) (zl 3 rfl ?_)))))
  exact Tc_retG (fun _ _ h=>h) hX rfl rfl rfl (by rw [List.nil_append])
end Go.Proofs.YtmpkandbccallaaGreatDoor
