/- Parts of the proof, 9: the texts Form, WlJ, WlK, WlL, Abv, WlM, WlN, Bnd, as far as they are used. -/
import Derived.Test.YtjdbopkbfkgpdaaGreatDoorMb08
set_option linter.unusedSimpArgs false
set_option linter.unusedVariables false
namespace Rc
open Go Go.RowKit
structure FL (B n:Nat) (f:Af):Prop where
 can:CanT f.ts
 bd:∀ t∈f.ts,Br t.2 B
 cb:Br f.c B
 var:∀ t∈f.ts,t.1 < n
theorem FL.mono {B C n m:Nat} {f:Af} (h:FL B n f) (h1:B≤C) (h2:n≤m):FL C m f:=
 ⟨h.can,fun t ht=>(h.bd t ht).mono h1,h.cb.mono h1,fun t ht=>Nat.lt_of_lt_of_le (h.var t ht) h2⟩
theorem FOk.fl {b n:Nat} {f:Af} (h:FOk b n f):FL (b + 1) n f:=⟨h.can,fun t ht=>(h.bd t ht).br,h.br,h.var⟩
theorem FL.fm {B n:Nat} {f:Af} (h:FL B n f) (hn:n≤1000000):Fm f.ts B n:=
 ⟨h.can,h.bd,by have:=canT_len (a:=0) h.can (fun t ht=>⟨Nat.zero_le _,h.var t ht⟩);omega,fun t ht=>Nat.lt_of_lt_of_le (h.var t ht) hn⟩
def fV (v:Nat):Af:=⟨[(v,((1:Int):Rat))],0⟩
def fN (c:Rat):Af:=⟨[],c⟩
def fAdd (f g:Af):Af:=⟨sumT f.ts g.ts,f.c + g.c⟩
def fSc (f:Af) (c:Rat):Af:=⟨scT f.ts c,f.c * c⟩
def fSub (f g:Af):Af:=⟨sumT f.ts (scT g.ts ((-1:Int):Rat)),f.c + g.c * ((-1:Int):Rat)⟩
def fZ:Af:=⟨[],0⟩
theorem FL.v {v n:Nat} (h:v < n):FL 2 n (fV v):=
 ⟨⟨by decide,fun t ht=>by simp at ht,trivial⟩,fun t ht=>by simp [fV] at ht;subst ht;exact Br.one,Br.zero.mono (by omega),fun t ht=>by simp [fV] at ht;subst ht;exact h⟩
theorem FL.n {c:Rat} {B n:Nat} (h:Br c B):FL B n (fN c):=⟨trivial,fun t ht=>by simp [fN] at ht,h,fun t ht=>by simp [fN] at ht⟩
theorem FL.z {n:Nat}:FL 0 n fZ:=⟨trivial,fun t ht=>by simp [fZ] at ht,Br.zero,fun t ht=>by simp [fZ] at ht⟩
theorem FL.add {f g:Af} {B C n:Nat} (hf:FL B n f) (hg:FL C n g):FL (B + C + 1) n (fAdd f g):=by
 haveI:=hf.cb;haveI:=hg.cb
 exact ⟨sumT_can hf.can,sumT_bd hf.can hg.can hf.bd hg.bd,Br.add,sumT_var hf.var hg.var⟩
theorem FL.sc {f:Af} {c:Rat} {B C n:Nat} (hf:FL B n f) [hc:Br c C]:FL (B + C + 1) n (fSc f c):=by
 haveI:=hf.cb
 refine ⟨by show CanT (scT f.ts c);rw [scT_eq];exact scR_can hf.can,fun t ht=>?_,Br.mul,fun t ht=>?_⟩
 ·have ht:t∈scT f.ts c:=ht
  rw [scT_eq] at ht
  obtain ⟨u,h1,h2,h3,_⟩:=scR_mem ht
  rw [h3]
  haveI:=hf.bd u h1
  exact Br.mul
 ·have ht:t∈scT f.ts c:=ht
  rw [scT_eq] at ht
  obtain ⟨u,h1,h2,_⟩:=scR_mem ht
  rw [← h2];exact hf.var u h1
theorem FL.sub {f g:Af} {B C n:Nat} (hf:FL B n f) (hg:FL C n g):FL (B + C + 4) n (fSub f g):=by
 have:=hf.add (FL.sc (c:=((-1:Int):Rat)) hg)
 exact this.mono (by omega) (Nat.le_refl _)
def DOk (b:Nat) (q:Qu) (d:Dc):Prop:=(((d.kind = 1 ∨ d.kind = 2)∧d.idx < q.g.us.length∧d.pt = 0) ∨ ((d.kind = 3 ∨ d.kind = 4)∧d.idx < q.g.inp))∧Hb d.pt b
def decM (path:List Dc) (k:Nat) (j:Int):Bool:=path.any (fun d=>((d.kind:Int) == (k:Int)) && ((d.idx:Int) == j))
def decN (path:List Dc) (k:Nat) (j:Int) (n:Nat):Bool:=(path.take n).any (fun d=>((d.kind:Int) == (k:Int)) && ((d.idx:Int) == j))
theorem decN_succ {path:List Dc} {k n:Nat} {j:Int} {d:Dc} (h:path[n]? = some d):decN path k j (n + 1) = (decN path k j n || (((d.kind:Int) == (k:Int)) && ((d.idx:Int) == j))):=by
 unfold decN;rw [take_snoc h,List.any_append];simp
theorem decM_end {path:List Dc} {k:Nat} {j:Int}:decN path k j path.length = decM path k j:=by unfold decN decM;rw [List.take_length]
theorem decM_t {path:List Dc} {k n:Nat} {j:Int} {d:Dc} (h:path[n]? = some d) (h1:((d.kind:Int) == (k:Int)) = true) (h2:((d.idx:Int) == j) = true):decM path k j = true:=by
 unfold decM;rw [List.any_eq_true];exact ⟨d,List.mem_of_getElem? h,by rw [h1,h2];rfl⟩
def lem (l:List Lm) (n unit:Int) (up:Bool):Rat × Bool:=
 if n < 1 then (0,false) else match l[(n - 1).toNat]? with
 | none=>(0,false)
 | some m=>if m.unit = unit∧m.up = up then (m.v.q,true) else (0,false)
theorem lem_lt {l:List Lm} {n unit:Int} {up:Bool} (h:n < 1):lem l n unit up = (0,false):=if_pos h
theorem lem_gt {l:List Lm} {n unit:Int} {up:Bool} (h:(l.length:Int) < n):lem l n unit up = (0,false):=by
 unfold lem;rw [if_neg (by omega),List.getElem?_eq_none (by omega)]
theorem lem_no {l:List Lm} {n unit:Int} {up:Bool} {m:Lm} (h:¬ n < 1) (hm:l[(n - 1).toNat]? = some m) (hn:¬ (m.unit = unit∧m.up = up)):lem l n unit up = (0,false):=by
 unfold lem;rw [if_neg h,hm];simp only [];rw [if_neg hn]
theorem lem_yes {l:List Lm} {n unit:Int} {up:Bool} {m:Lm} (h:¬ n < 1) (hm:l[(n - 1).toNat]? = some m) (hn:m.unit = unit∧m.up = up):lem l n unit up = (m.v.q,true):=by
 unfold lem;rw [if_neg h,hm];simp only [];rw [if_pos hn]
theorem lem_br {l:List Lm} {n unit:Int} {up:Bool} {B:Nat} (hB:∀ m∈l,Fq m.v B):Br (lem l n unit up).1 B:=by
 unfold lem
 split
 ·exact Br.zero.mono (Nat.zero_le _)
 ·split
  ·exact Br.zero.mono (Nat.zero_le _)
  ·rename_i m hm
   split
   ·haveI:=hB m (List.mem_of_getElem? hm);exact Fq.br
   ·exact Br.zero.mono (Nat.zero_le _)
section
variable (s:Sc) (r:Rw)
@[reducible] def lowQ:Rat:=(lem s.lems r.lo r.idx false).1
@[reducible] def lowB:Bool:=(lem s.lems r.lo r.idx false).2
@[reducible] def topQ:Rat:=(lem s.lems r.hi r.idx true).1
@[reducible] def topB:Bool:=(lem s.lems r.hi r.idx true).2
def onB:Bool:=(r.hi == 0) && (((r.lo == 0) && decM s.path 1 r.idx) || (lowB s r && decide (0≤sg (lowQ s r))))
def offB:Bool:=(r.lo == 0) && (((r.hi == 0) && decM s.path 2 r.idx) || (topB s r && decide (sg (topQ s r)≤0)))
def unitF (p:Af):Af × Bool:=
 if r.kind = 5 then (fV (s.q.g.inp + r.idx.toNat),(r.lo == 0) && (r.hi == 0))
 else if r.kind = 6 then (fSub (fV (s.q.g.inp + r.idx.toNat)) p,(r.lo == 0) && (r.hi == 0))
 else if r.kind = 7 then (p,onB s r)
 else if r.kind = 8 then (fSub p (fV (s.q.g.inp + r.idx.toNat)),onB s r)
 else if r.kind = 9 then (fSc p ((-1:Int):Rat),offB s r)
 else if r.kind = 10 then (fSc (fV (s.q.g.inp + r.idx.toNat)) ((-1:Int):Rat),offB s r)
 else if r.kind = 11 then (fSub p (fN (lowQ s r)),lowB s r && (r.hi == 0))
 else if r.kind = 12 then (fSub (fN (topQ s r)) p,topB s r && (r.lo == 0))
 else if r.kind = 13 then (fSub (fSc (fSub p (fN (lowQ s r))) (topQ s r)) (fSc (fV (s.q.g.inp + r.idx.toNat)) (topQ s r - lowQ s r)),lowB s r && topB s r && decide (sg (lowQ s r) < 0) && decide (0 < sg (topQ s r)))
 else (fZ,false)
def orZ (x:Af × Bool):Af × Bool:=if x.2 = true then x else (fZ,false)
def unitM:Af × Bool:=if r.idx < 0 then (fZ,false) else match s.q.g.us[r.idx.toNat]? with
 | none=>(fZ,false)
 | some p=>orZ (unitF s r p)
def pathF (d:Dc):Af:=if d.kind = 3 then fSub (fV d.idx) (fN d.pt) else fSc (fSub (fV d.idx) (fN d.pt)) ((-1:Int):Rat)
def formM:Af × Bool:=
 if 5≤r.kind then unitM s r
 else if r.lo≠0 ∨ r.hi≠0 ∨ r.idx < 0 then (fZ,false)
 else if r.kind = 1 then (match s.q.r.lo[r.idx.toNat]? with | some c=>(fSub (fV r.idx.toNat) (fN c),true) | none=>(fZ,false))
 else if r.kind = 2 then (match s.q.r.hi[r.idx.toNat]? with | some c=>(fSub (fN c) (fV r.idx.toNat),true) | none=>(fZ,false))
 else if r.kind = 3 then (match s.q.r.rows[r.idx.toNat]? with | some f=>(f,true) | none=>(fZ,false))
 else if r.kind = 4 then (match s.path[r.idx.toNat]? with | some d=>if 3≤d.kind then (pathF d,true) else (fZ,false) | none=>(fZ,false))
 else (fZ,false)
end
theorem unitM_t {s:Sc} {r:Rw} {p f:Af} (h1:¬ r.idx < 0) (hp:s.q.g.us[r.idx.toNat]? = some p) (h:unitF s r p = (f,true)):unitM s r = (f,true):=by
 unfold unitM;rw [if_neg h1,hp];simp only [h,orZ,if_true]
theorem unitM_f {s:Sc} {r:Rw} {p:Af} (h1:¬ r.idx < 0) (hp:s.q.g.us[r.idx.toNat]? = some p) (h:(unitF s r p).2 = false):unitM s r = (fZ,false):=by
 unfold unitM;rw [if_neg h1,hp];simp only [orZ];rw [if_neg (by rw [h];decide)]
theorem fZ_ret (b:Bool) (ls:List Leaf) (h:ls = [tmE.row [],Leaf.val (.bool false),nilL,nilL]):R.tup [V.agg ls,V.one (Leaf.val (.bool b))] = R.tup [afV fZ,V.one (Leaf.val (.bool b))]:=by
 subst h;show _ = R.tup [afV ⟨[],0⟩,_];rw [af0]
theorem qOf0:qOf 0 = qZero:=by
 show Qr.mk (cneg 0) (limbs (cnum 0)) (limbs (cden 0)) _ _ = Qr.mk false [] [] _ _
 simp only [Qr.mk.injEq,cnum_zero,cden_zero,limbs_zero,and_true]
 decide
theorem unitF_fl {s:Sc} {r:Rw} {p:Af} {B n:Nat} (hB:∀ m∈s.lems,Fq m.v B) (hp:FL 4 n p) (hv:s.q.g.inp + r.idx.toNat < n):FL (4 * B + 40) n (unitF s r p).1:=by
 haveI hl:Br (lowQ s r) B:=lem_br hB
 haveI ht:Br (topQ s r) B:=lem_br hB
 have h1:=FL.v hv
 have m:∀ {C:Nat} {f:Af},FL C n f→C≤4 * B + 40→FL (4 * B + 40) n f:=fun h hc=>h.mono hc (Nat.le_refl _)
 unfold unitF
 split;· exact m h1 (by omega)
 split;· exact m (h1.sub hp) (by omega)
 split;· exact m hp (by omega)
 split;· exact m (hp.sub h1) (by omega)
 split;· exact m (FL.sc (c:=((-1:Int):Rat)) hp) (by omega)
 split;· exact m (FL.sc (c:=((-1:Int):Rat)) h1) (by omega)
 split;· exact m (hp.sub (FL.n hl)) (by omega)
 split;· exact m ((FL.n ht).sub hp) (by omega)
 split;· exact m ((FL.sc (c:=topQ s r) (hp.sub (FL.n hl))).sub (FL.sc (c:=topQ s r - lowQ s r) h1)) (by omega)
 exact m FL.z (by omega)
theorem unitM_fl {s:Sc} {r:Rw} {B:Nat} (hq:QOk s.q) (hB:∀ m∈s.lems,Fq m.v B):FL (4 * B + 40) (s.q.g.inp + s.q.g.us.length) (unitM s r).1:=by
 unfold unitM
 split
 ·exact FL.z.mono (by omega) (Nat.le_refl _)
 ·split
  ·exact FL.z.mono (by omega) (Nat.le_refl _)
  ·rename_i p hp
   have hj:=(List.getElem?_eq_some_iff.1 hp).1
   unfold orZ
   split
   ·exact unitF_fl hB ((hq.g.us _ p hp).fl.mono (by omega) (by omega)) (by omega)
   ·exact FL.z.mono (by omega) (Nat.le_refl _)
theorem formM_fl {s:Sc} {r:Rw} {B b:Nat} (hq:QOk s.q) (hd:∀ d∈s.path,DOk b s.q d) (hB:∀ m∈s.lems,Fq m.v B):FL (4 * B + b + 40) (s.q.g.inp + s.q.g.us.length) (formM s r).1:=by
 have z:FL (4 * B + b + 40) (s.q.g.inp + s.q.g.us.length) fZ:=FL.z.mono (by omega) (Nat.le_refl _)
 have m:∀ {C:Nat} {f:Af},FL C (s.q.g.inp + s.q.g.us.length) f→C≤4 * B + b + 40→FL (4 * B + b + 40) (s.q.g.inp + s.q.g.us.length) f:=fun h hc=>h.mono hc (Nat.le_refl _)
 unfold formM
 split
 ·exact m (unitM_fl hq hB) (by omega)
 split
 ·exact z
 split
 ·split
  ·rename_i c hc
   have hj:=(List.getElem?_eq_some_iff.1 hc).1
   have hl:=hq.r.lo;have hh:=hq.r.hi
   obtain ⟨y,hy⟩:∃ y,s.q.r.hi[r.idx.toNat]? = some y:=⟨_,List.getElem?_eq_getElem (by omega)⟩
   exact m ((FL.v (by omega)).sub (FL.n (hq.r.bd _ _ _ hc hy).1.br)) (by omega)
  ·exact z
 split
 ·split
  ·rename_i c hc
   have hj:=(List.getElem?_eq_some_iff.1 hc).1
   have hl:=hq.r.lo;have hh:=hq.r.hi
   obtain ⟨y,hy⟩:∃ y,s.q.r.lo[r.idx.toNat]? = some y:=⟨_,List.getElem?_eq_getElem (by omega)⟩
   exact m ((FL.n (hq.r.bd _ _ _ hy hc).2.1.br).sub (FL.v (by omega))) (by omega)
  ·exact z
 split
 ·split
  ·rename_i f hf
   exact (hq.r.rows f (List.mem_of_getElem? hf)).fl.mono (by omega) (by omega)
  ·exact z
 split
 ·split
  ·rename_i d hdd
   have hok:=hd d (List.mem_of_getElem? hdd)
   split
   ·rename_i h3
    have hv:d.idx < s.q.g.inp + s.q.g.us.length:=by rcases hok.1 with ⟨h,_⟩ | ⟨_,h⟩ <;> omega
    unfold pathF
    split
    ·exact m ((FL.v hv).sub (FL.n hok.2.br)) (by omega)
    ·exact m (FL.sc (c:=((-1:Int):Rat)) ((FL.v hv).sub (FL.n hok.2.br))) (by omega)
   ·exact z
  ·exact z
 exact z
def sumM (s:Sc) (l:List Mu):Af:=l.foldl (fun a m=>fAdd a (fSc (formM s m.r).1 m.c.q)) fZ
theorem sumM_snoc (s:Sc) (l:List Mu) (m:Mu):sumM s (l ++ [m]) = fAdd (sumM s l) (fSc (formM s m.r).1 m.c.q):=by unfold sumM;rw [List.foldl_append];rfl
theorem sumM_take {s:Sc} {l:List Mu} {i:Nat} {m:Mu} (h:l[i]? = some m):sumM s (l.take (i + 1)) = fAdd (sumM s (l.take i)) (fSc (formM s m.r).1 m.c.q):=by rw [take_snoc h,sumM_snoc]
theorem foldl_fl {s:Sc} {B b C:Nat} (hq:QOk s.q) (hd:∀ d∈s.path,DOk b s.q d) (hB:∀ m∈s.lems,Fq m.v B):∀ (l:List Mu) (a:Af) (K:Nat),FL K (s.q.g.inp + s.q.g.us.length) a→MB C l →
  FL (K + l.length * (4 * B + b + C + 42)) (s.q.g.inp + s.q.g.us.length) (l.foldl (fun a m=>fAdd a (fSc (formM s m.r).1 m.c.q)) a)
 | [],a,K,h,_=>h.mono (by omega) (Nat.le_refl _)
 | m :: l,a,K,h,hm=>by
  haveI:=hm m (by simp)
  have h1:=h.add (FL.sc (c:=m.c.q) (formM_fl (r:=m.r) hq hd hB))
  have h2:=foldl_fl hq hd hB l _ _ h1 (fun x hx=>hm x (by simp [hx]))
  refine h2.mono ?_ (Nat.le_refl _)
  simp only [List.length_cons,Nat.add_mul]
  omega
theorem sumM_fl {s:Sc} {l:List Mu} {B b C:Nat} (hq:QOk s.q) (hd:∀ d∈s.path,DOk b s.q d) (hB:∀ m∈s.lems,Fq m.v B) (hm:MB C l):FL (l.length * (4 * B + b + C + 42)) (s.q.g.inp + s.q.g.us.length) (sumM s l):=
 (foldl_fl hq hd hB l fZ 0 FL.z hm).mono (by omega) (Nat.le_refl _)
theorem MB.take {C n:Nat} {l:List Mu} (h:MB C l):MB C (l.take n):=fun m hm=>h m (List.mem_of_mem_take hm)
def abst (inp:Nat) (lems:List Lm) (a:List Mu × Bool) (t:Tm):List Mu × Bool:=
 if a.2 = true then
  if 0 < t.2 then (mergeM a.1 (atLeast inp t.1) (rq false (cnum t.2) (cden t.2)),true)
  else match atMost inp lems t.1 with
   | some m=>(mergeM a.1 m (rq false (cnum t.2) (cden t.2)),true)
   | none=>([],false)
 else a
def absn (inp:Nat) (lems:List Lm) (ts:List Tm):List Mu × Bool:=ts.foldl (abst inp lems) ([],true)
theorem absn_snoc (inp:Nat) (lems:List Lm) (ts:List Tm) (t:Tm):absn inp lems (ts ++ [t]) = abst inp lems (absn inp lems ts) t:=by unfold absn;rw [List.foldl_append];rfl
theorem absn_take {inp:Nat} {lems:List Lm} {ts:List Tm} {i:Nat} {t:Tm} (h:ts[i]? = some t):absn inp lems (ts.take (i + 1)) = abst inp lems (absn inp lems (ts.take i)) t:=by rw [take_snoc h,absn_snoc]
theorem absn_no {inp:Nat} {lems:List Lm}:∀ (ts:List Tm) (a:List Mu × Bool),a.2 = false→(ts.foldl (abst inp lems) a).2 = false
 | [],a,h=>h
 | t :: ts,a,h=>absn_no ts _ (by unfold abst;rw [if_neg (by rw [h];decide)];exact h)
theorem absn_bad {inp:Nat} {lems:List Lm} {ts:List Tm} {i:Nat} (h:(absn inp lems (ts.take i)).2 = false):(absn inp lems ts).2 = false:=by
 have e:absn inp lems ts = (ts.drop i).foldl (abst inp lems) (absn inp lems (ts.take i)):=by
  unfold absn;rw [← List.foldl_append,List.take_append_drop]
 rw [e];exact absn_no _ _ h
end Rc
set_option linter.unusedSimpArgs false
set_option linter.unusedVariables false
namespace Go.Proofs.YtjdbopkbfkgpdaaGreatDoor
open Go Go.RowKit Rc
set_option maxRecDepth 10000 in
set_option maxHeartbeats 2000000 in
theorem lemma_r (s:Sc) {B:Nat} (hB:∀ m∈s.lems,Fq m.v B) (hB2:B≤100000000000) (hl:s.lems.length≤1000000) (n u:Int) (up:Bool):Ctr Tryz.prog 151 [scV s,V.one (Leaf.val (.int .i64 (n))),V.one (Leaf.val (.int .i64 (u))),V.one (Leaf.val (.bool up))] (R.tup [qV (qOf (lem s.lems n u up).1),V.one (Leaf.val (.bool (lem s.lems n u up).2))]):=by
 refine Ctr.of_body Tryz.func151 rfl Tryz.ntmps151 (Nat.le_of_ble_eq_true rfl) (fun w0 A0=>?_)
 refine c_a (t_f rfl (Je_box (n:=0) rfl rfl rfl) (t_f rfl (Je_alloc (n:=1) rfl tz34 rfl) (a_ FT 1 rfl (cns (c_a (a_ FT 1 rfl ?_))))))
 by_cases h1:n < 1
 ·refine t_q rfl (Jq_lss rfl rfl rfl (b:=true) (dT (by omega))) (a_ FT 29 rfl (c_n (Tc_t rfl (c_a (t_q rfl (Jq_build rfl tz34 rfl pl34 rfl) (a_ FT 2 rfl (c_n ?_)))))))
  exact Tc_ret2 hq_ rfl (rA ty34 rfl rfl rfl rfl) rfl (by rw [lem_lt h1];show _ = R.tup [qV (qOf 0),V.one (Leaf.val (.bool false))];rw [← qV_zero];rfl)
 ·refine t_q rfl (Jq_lss rfl rfl rfl (b:=false) (dF (by omega))) (a_ FT 4 rfl (t_g rfl rfl rfl rfl (Jq_len rfl rfl un40) ?_))
  by_cases h2:(s.lems.length:Int) < n
  ·refine t_g rfl rfl rfl rfl (Jq_gtr rfl rfl rfl (b:=true) (dT (by omega))) (a_ FT 23 rfl (c_n (Tc_t rfl (c_a (t_q rfl (Jq_build rfl tz34 rfl pl34 rfl) (a_ FT 2 rfl (c_n ?_)))))))
   exact Tc_ret2 hq_ rfl (rA ty34 rfl rfl rfl rfl) rfl (by rw [lem_gt h2];show _ = R.tup [qV (qOf 0),V.one (Leaf.val (.bool false))];rw [← qV_zero];rfl)
  ·refine t_g rfl rfl rfl rfl (Jq_gtr rfl rfl rfl (b:=false) (dF (by omega))) (a_ FT 2 rfl ?_)
   obtain ⟨x,hx⟩:∃ x,s.lems[(n - 1).toNat]? = some x:=⟨_,List.getElem?_eq_getElem (by omega)⟩
   haveI hxB:=hB x (List.mem_of_getElem? hx)
   refine a_ FT 3 rfl (t_g rfl rfl rfl rfl (Jq_sub rfl rfl rfl (r:=(n - 1)) (w64 (by omega) (by omega) (by omega))) (t_g rfl rfl rfl rfl (Jq_indexX lmE s.lems ((n - 1).toNat) rfl rfl rfl un40 ty64 hx (by omega)) (t_g rfl rfl rfl rfl (Jq_fieldAddr_ref rfl rfl fo64_0 rfl) (t_g rfl rfl rfl rfl (Jq_load_ref rfl rfl ty3) (a_ FT 1 rfl ?_)))))
   by_cases h3:x.unit≠u
   ·refine t_g rfl rfl rfl rfl (Jq_neq rfl rfl rfl (b:=true) (nT (by omega))) (a_ FT 12 rfl (c_n (Tc_t rfl (c_a (t_q rfl (Jq_build rfl tz34 rfl pl34 rfl) (a_ FT 2 rfl (c_n ?_)))))))
    exact Tc_ret2 hq_ rfl (rA ty34 rfl rfl rfl rfl) rfl (by rw [lem_no h1 hx (fun e=>h3 e.1)];show _ = R.tup [qV (qOf 0),V.one (Leaf.val (.bool false))];rw [← qV_zero];rfl)
   ·refine t_g rfl rfl rfl rfl (Jq_neq rfl rfl rfl (b:=false) (nF (by omega))) (a_ FT 5 rfl (t_g rfl rfl rfl rfl (Jq_sub rfl rfl rfl (r:=(n - 1)) (w64 (by omega) (by omega) (by omega))) (t_g rfl rfl rfl rfl (Jq_indexX lmE s.lems ((n - 1).toNat) rfl rfl rfl un40 ty64 hx (by omega)) (t_g rfl rfl rfl rfl (Jq_fieldAddr_ref rfl rfl fo64_1 rfl) ?_))))
    refine t_g rfl rfl rfl rfl (Jq_load_ref rfl rfl ty4) (a_ FT 1 rfl ?_)
    by_cases h4:x.up≠up
    ·refine t_g rfl rfl rfl rfl (Jq_neq_bool rfl rfl rfl un4 (d:=true) (bne_iff_ne.2 h4)) (a_ FT 1 rfl (c_n (Tc_t rfl (c_a (t_q rfl (Jq_build rfl tz34 rfl pl34 rfl) (a_ FT 2 rfl (c_n ?_)))))))
     exact Tc_ret2 hq_ rfl (rA ty34 rfl rfl rfl rfl) rfl (by rw [lem_no h1 hx (fun e=>h4 e.2)];show _ = R.tup [qV (qOf 0),V.one (Leaf.val (.bool false))];rw [← qV_zero];rfl)
    ·refine t_g rfl rfl rfl rfl (Jq_neq_bool rfl rfl rfl un4 (d:=false) (by rw [Classical.not_not.1 h4];simp)) (a_ FT 1 rfl (c_n (Tc_f rfl (c_b (c_a (a_ FT 3 rfl (t_q rfl (Jq_sub rfl rfl rfl (r:=(n - 1)) (w64 (by omega) (by omega) (by omega))) (t_q rfl (Jq_indexX lmE s.lems ((n - 1).toNat) rfl rfl rfl un40 ty64 hx (by omega)) (t_q rfl (Jq_fieldAddr_refT rfl rfl fo64_2 rfl rfl) ?_)))))))))
     refine t_q rfl (Jq_load_ref_agg rfl rfl ty34 rfl) (t_f rfl (Je_call rfl fn65 rfl (rqcanon x.v (x.v.q) rfl (Fq.use (x:=x.v) (by omega)))) (a_ FT 2 rfl (c_n ?_)))
     exact Tc_ret2 hq_ rfl (rA ty34 rfl rfl rfl rfl) rfl (by rw [lem_yes h1 hx ⟨Classical.not_not.1 h3,Classical.not_not.1 h4⟩];rfl)
set_option maxRecDepth 10000 in
theorem fits_r (q:Qu) (d:Dc) {b:Nat} (hd:DOk b q d) (hb:b≤1000000):Ctr Tryz.prog 69 [quV q,dcV d] (R.one (V.one (Leaf.val (.bool true)))):=by
 refine Ctr.of_body Tryz.func69 rfl Tryz.ntmps69 (Nat.le_of_ble_eq_true rfl) (fun w0 A0=>?_)
 obtain ⟨hk,hbt⟩:=hd
 haveI:=hbt.br
 have hkk:d.kind = 1 ∨ d.kind = 2 ∨ d.kind = 3 ∨ d.kind = 4:=by rcases hk with ⟨h,_⟩ | ⟨h,_⟩ <;> omega
 refine c_a (t_f rfl (Je_box (n:=0) rfl rfl rfl) (t_f rfl (Je_box (n:=1) rfl rfl rfl) (a_ FT 1 rfl (cns (c_a (a_ FT 2 rfl (c_n (Tc_block (Tc_seq ?_)))))))))
 refine c_a ?_
 by_cases h1:d.kind = 1
 ·refine t_q rfl (Jq_eql rfl rfl rfl (b:=true) (eT (by omega))) (a_ FT 1 rfl (c_n (Tc_t rfl (c_b (Tc_t rfl (Tc_seq ?_))))))
  have hp0:d.idx < q.g.us.length∧d.pt = 0:=by rcases hk with ⟨_,h⟩ | ⟨h,_⟩ <;> first | exact h | omega
  refine Tc_region (a_ FT 2 rfl (t_q rfl (Jq_geq rfl rfl rfl (b:=true) (dT (by omega))) (a_ FT 6 rfl (t_g rfl rfl rfl rfl (Jq_len rfl rfl un24) (t_g rfl rfl rfl rfl (Jq_lss rfl rfl rfl (b:=true) (dT (by omega))) (a_ FT 4 rfl (t_g rfl rfl rfl rfl (Jq_build rfl tz34 rfl pl34 rfl) (Tl_e (JO_eg rfl rfl rfl rfl (Je_call rfl fn24 rfl (rqsame (qOf (d.pt)) qZero))) rfl rfl ?_))))))))
  refine Tl_is true (by rw [hp0.2,qOf0];rfl) (a_ FT 2 rfl (c_n ?_))
  exact Tc_ret1 hq_ rfl rfl rfl
 ·refine t_q rfl (Jq_eql rfl rfl rfl (b:=false) (eF (by omega))) (a_ FT 1 rfl (c_n (Tc_f rfl (Tc_region ?_))))
  by_cases h2:d.kind = 2
  ·refine t_q rfl (Jq_eql rfl rfl rfl (b:=true) (eT (by omega))) (a_ FT 1 rfl (c_n (Tc_t rfl (Tc_seq ?_))))
   have hp0:d.idx < q.g.us.length∧d.pt = 0:=by rcases hk with ⟨_,h⟩ | ⟨h,_⟩ <;> first | exact h | omega
   refine Tc_region (a_ FT 2 rfl (t_q rfl (Jq_geq rfl rfl rfl (b:=true) (dT (by omega))) (a_ FT 6 rfl (t_g rfl rfl rfl rfl (Jq_len rfl rfl un24) (t_g rfl rfl rfl rfl (Jq_lss rfl rfl rfl (b:=true) (dT (by omega))) (a_ FT 4 rfl (t_g rfl rfl rfl rfl (Jq_build rfl tz34 rfl pl34 rfl) (Tl_e (JO_eg rfl rfl rfl rfl (Je_call rfl fn24 rfl (rqsame (qOf (d.pt)) qZero))) rfl rfl ?_))))))))
   refine Tl_is true (by rw [hp0.2,qOf0];rfl) (a_ FT 2 rfl (c_n ?_))
   exact Tc_ret1 hq_ rfl rfl rfl
  ·refine t_q rfl (Jq_eql rfl rfl rfl (b:=false) (eF (by omega))) (a_ FT 1 rfl (c_n (Tc_f rfl (Tc_seq (c_a ?_)))))
   by_cases h3:d.kind = 3
   ·refine t_q rfl (Jq_eql rfl rfl rfl (b:=true) (eT (by omega))) (a_ FT 1 rfl (c_n (Tc_t rfl (c_b (Tc_t rfl (Tc_seq ?_))))))
    have hp0:d.idx < q.g.inp:=by rcases hk with ⟨h,_⟩ | ⟨_,h⟩ <;> first | exact h | omega
    refine Tc_region (a_ FT 2 rfl (t_q rfl (Jq_geq rfl rfl rfl (b:=true) (dT (by omega))) (a_ FT 6 rfl (t_g rfl rfl rfl rfl (Jq_lss rfl rfl rfl (b:=true) (dT (by omega))) (a_ FT 4 rfl (Tl_e (JO_eg rfl rfl rfl rfl (Je_call rfl fn70 rfl (rqvalid (qOf (d.pt)) (d.pt) (qOf_q _) (Br.use (by omega))))) rfl rfl (Tl_is true (isC_of _) (a_ FT 2 rfl (c_n ?_)))))))))
    exact Tc_ret1 hq_ rfl rfl rfl
   ·refine t_q rfl (Jq_eql rfl rfl rfl (b:=false) (eF (by omega))) (a_ FT 1 rfl (c_n (Tc_f rfl (Tc_region (t_q rfl (Jq_eql rfl rfl rfl (b:=true) (eT (by omega))) (a_ FT 1 rfl (c_n (Tc_t rfl (Tc_seq ?_)))))))))
    have hp0:d.idx < q.g.inp:=by rcases hk with ⟨h,_⟩ | ⟨_,h⟩ <;> first | exact h | omega
    refine Tc_region (a_ FT 2 rfl (t_q rfl (Jq_geq rfl rfl rfl (b:=true) (dT (by omega))) (a_ FT 6 rfl (t_g rfl rfl rfl rfl (Jq_lss rfl rfl rfl (b:=true) (dT (by omega))) (a_ FT 4 rfl (Tl_e (JO_eg rfl rfl rfl rfl (Je_call rfl fn70 rfl (rqvalid (qOf (d.pt)) (d.pt) (qOf_q _) (Br.use (by omega))))) rfl rfl (Tl_is true (isC_of _) (a_ FT 2 rfl (c_n ?_)))))))))
    exact Tc_ret1 hq_ rfl rfl rfl
set_option maxRecDepth 10000 in
theorem decided_r (s:Sc) {b:Nat} (hq:QOk s.q) (hd:∀ d∈s.path,DOk b s.q d) (hb:b≤1000000) (hpl:s.path.length≤1000) (k:Nat) (j:Int):Ctr Tryz.prog 78 [scV s,V.one (Leaf.val (.int .i64 ((k:Int)))),V.one (Leaf.val (.int .i64 (j)))] (R.one (V.one (Leaf.val (.bool (decM s.path k j))))):=by
 refine Ctr.of_body Tryz.func78 rfl Tryz.ntmps78 (Nat.le_of_ble_eq_true rfl) (fun w0 A0=>?_)
 refine c_a (t_f rfl (Je_box (n:=0) rfl rfl rfl) (a_ FT 1 rfl (cns (c_a (a_ FT 1 rfl (c_n (Tc_block ?_)))))))
 refine Tc_loopR (fun m Γ H=>∃ (i:Nat),s.path.length - i = m∧Γ = [(1,some (D.val (.int .i64 ((k:Nat):Int)))),(2,some (D.val (.int .i64 j))),(3,some (D.ptr 0 0)),(7,some (D.val (.int .i64 ((i:Nat):Int))))]∧H = [hb_ 42 (scL s)]∧i≤s.path.length∧decN s.path k j i = false) ⟨0,rfl,rfl,rfl,Nat.zero_le _,rfl⟩ ⟨rfl,rfl,rfl,rfl,trivial⟩ ?_
 rintro m Γ H ⟨i,rfl,rfl,rfl,hi0,hno⟩
 refine Tc_seq (c_a (a_ FT 3 rfl (t_q rfl (Jq_len rfl rfl un39) ?_)))
 by_cases hi:i < s.path.length
 ·refine t_q rfl (Jq_lss rfl rfl rfl (b:=true) (dT (by omega))) (c_n (Tc_t rfl (c_b (Tc_seq (Tc_block (Tc_seq ?_))))))
  obtain ⟨x,hx⟩:∃ x,s.path[i]? = some x:=⟨_,List.getElem?_eq_getElem hi⟩
  have hxd:=hd x (List.mem_of_getElem? hx)
  refine Tc_drawK 0 [none,none,none,none,none,none,none,none,none,none,none,none,none,none,none,none,none,none,none,none,none,none,none,none,none,none,none,none] [] follows (by kernel_rfl) (d_ FT 3 rfl (dq_ rfl rfl (Jq_indexX dcE s.path (i) rfl rfl rfl un39 ty73 hx) (dq_ rfl rfl (Jq_fieldAddr_ref rfl rfl fo73_0 rfl) (dq_ rfl rfl (Jq_load_ref rfl rfl ty3) ?_))))
  refine d_ FT 1 rfl (dq_ rfl rfl (Jq_eql rfl rfl rfl (b:=_) (rfl)) (d_ FT 1 rfl ?_))
  refine DK_two (fun hk1=>?_) (fun hk1=>?_)
  ·refine d_ FT 19 rfl (DK_nil (At_then (Tc_f rfl (Tc_skipA (At_block (At_then (Tc_region (a_ FT 1 rfl (t_q rfl (Jq_add rfl rfl rfl (r:=((i + 1:Nat):Int)) (w64 (by omega) (by omega) (by omega))) ?_)))))))))
   refine a_ FT 1 rfl (Tl_end ?_)
   exact At_next (m':=s.path.length - (i + 1)) (by omega) ⟨i + 1,rfl,rfl,rfl,hi,by rw [decN_succ hx,hno,hk1];rfl⟩ ⟨rfl,rfl,rfl,rfl,trivial⟩
  ·refine d_ FT 3 rfl (DK_q (JO_qg rfl rfl rfl rfl (Jq_indexX dcE s.path (i) rfl rfl rfl un39 ty73 hx)) (DK_q (JO_qg rfl rfl rfl rfl (Jq_fieldAddr_ref rfl rfl fo73_1 rfl)) (DK_q (JO_qg rfl rfl rfl rfl (Jq_load_ref rfl rfl ty3)) (d_ FT 1 rfl (DK_q (JO_qg rfl rfl rfl rfl (Jq_eql rfl rfl rfl (b:=_) (rfl))) (d_ FT 2 rfl ?_))))))
   refine DK_two (fun hk2=>?_) (fun hk2=>?_)
   ·refine d_ FT 9 rfl (DK_nil (At_then (Tc_f rfl (Tc_skipA (At_block (At_then (Tc_region (a_ FT 1 rfl (t_q rfl (Jq_add rfl rfl rfl (r:=((i + 1:Nat):Int)) (w64 (by omega) (by omega) (by omega))) ?_)))))))))
    refine a_ FT 1 rfl (Tl_end ?_)
    exact At_next (m':=s.path.length - (i + 1)) (by omega) ⟨i + 1,rfl,rfl,rfl,hi,by rw [decN_succ hx,hno,hk1,hk2];rfl⟩ ⟨rfl,rfl,rfl,rfl,trivial⟩
   ·refine d_ FT 5 rfl (DK_q (JO_qg rfl rfl rfl rfl (Jq_indexX dcE s.path (i) rfl rfl rfl un39 ty73 hx)) (DK_q (JO_qg rfl rfl rfl rfl (Jq_load_ref_agg rfl rfl ty73 rfl)) (DK_cg rfl rfl rfl rfl (Jd_call rfl fn69 rfl (fits_r s.q x (by assumption) (by omega))) (d_ FT 1 rfl (DK_nil (At_then (Tc_t rfl (c_a (a_ FT 1 rfl ?_)))))))))
    refine c_n ?_
    exact Tc_ret1 hq_ rfl rfl (by rw [decM_t hx hk1 hk2])
 ·refine t_q rfl (Jq_lss rfl rfl rfl (b:=false) (dF (by omega))) (c_n (Tc_f rfl (Tc_exitA (At_then_exit (At_then_exit (At_block_exit (At_then (c_a (a_ FT 1 rfl ?_)))))))))
  refine c_n ?_
  exact Tc_ret1 hq_ rfl rfl (by rw [← decM_end,← show i = s.path.length by omega,hno])
end Go.Proofs.YtjdbopkbfkgpdaaGreatDoor
set_option linter.unusedSimpArgs false
set_option linter.unusedVariables false
namespace Go.Proofs.YtjdbopkbfkgpdaaGreatDoor
open Go Go.RowKit Rc
set_option maxRecDepth 10000 in
set_option maxHeartbeats 2000000 in
theorem unit_r (s:Sc) {B:Nat} (hB:∀ m∈s.lems,Fq m.v B) (hB2:B≤1000000000) (hl:s.lems.length≤1000000) {b:Nat} (hq:QOk s.q) (hd:∀ d∈s.path,DOk b s.q d) (hb:b≤1000000) (hpl:s.path.length≤1000) (r:Rw):Ctr Tryz.prog 113 [scV s,rwV r] (R.tup [afV (unitM s r).1,V.one (Leaf.val (.bool (unitM s r).2))]):=by
 refine Ctr.of_body Tryz.func113 rfl Tryz.ntmps113 (Nat.le_of_ble_eq_true rfl) (fun w0 A0=>?_)
 have hg:=hq.g;have hr:=hq.r;have hlo:=hr.lo;have hhi:=hr.hi
 have h1:=hg.i1;have h2:=hg.i3;have h3:=hg.u4;have h4:=hg.o1;have h5:=hg.o3
 refine c_a (t_f rfl (Je_box (n:=0) rfl rfl rfl) (t_f rfl (Je_box (n:=1) rfl rfl rfl) (t_f rfl (Je_alloc (n:=2) rfl tz36 rfl) (a_ FT 1 rfl (cna (a_ FT 3 rfl (t_f rfl (Je_alloc (n:=3) rfl tz26 rfl) (a_ FT 1 rfl (cns ?_)))))))))
 refine Tc_seq ?_
 refine Tc_norm [(2,some (D.ptr 0 0)),(3,some (D.ptr 1 0)),(4,some (D.ptr 2 0)),(6,some (D.ptr 3 0))] [hb_ 42 (scL s),hb_ 105 [Leaf.val (.int .i64 r.kind),Leaf.val (.int .i64 r.idx),Leaf.val (.int .i64 r.lo),Leaf.val (.int .i64 r.hi)],hb_ 36 [El.row tmE ([]),Leaf.val (.bool false),natL ([]),natL ([])],hb_ 26 [Leaf.val (.int .i64 ((s.q.g.inp:Nat):Int)),El.row afE s.q.g.us,El.row afE s.q.g.os]] ⟨rfl,rfl,rfl,rfl,trivial⟩ rfl ?_
 refine Tc_region (a_ FT 2 rfl ?_)
 by_cases h1:r.idx < 0
 ·refine t_q rfl (Jq_lss rfl rfl rfl (b:=true) (dT (by omega))) (a_ FT 8 rfl (c_n (Tc_t rfl (Tc_seq (Tc_free 0 (Tc_free 1 (Tc_free 3 (Tc_norm [(4,some (D.ptr 2 0))] [none,none,hb_ 36 [El.row tmE ([]),Leaf.val (.bool false),natL ([]),natL ([])],none] ⟨rfl,trivial⟩ rfl (Tc_region ?_)))))))))
  refine t_q rfl (Jq_build rfl tz36 rfl pl36 rfl) (a_ FT 2 rfl (c_n ?_))
  exact Tc_ret2 hq_ rfl (rA ty36 rfl rfl rfl rfl) rfl (by unfold unitM;rw [if_pos h1];exact fZ_ret _ _ rfl)
 ·refine t_q rfl (Jq_lss rfl rfl rfl (b:=false) (dF (by omega))) (a_ FT 5 rfl (t_g rfl rfl rfl rfl (Jq_len rfl rfl un24) ?_))
  by_cases h2:(s.q.g.us.length:Int)≤r.idx
  ·refine t_g rfl rfl rfl rfl (Jq_geq rfl rfl rfl (b:=true) (dT (by omega))) (a_ FT 1 rfl (c_n (Tc_t rfl (Tc_seq (Tc_free 0 (Tc_free 1 (Tc_free 3 (Tc_norm [(4,some (D.ptr 2 0))] [none,none,hb_ 36 [El.row tmE ([]),Leaf.val (.bool false),natL ([]),natL ([])],none] ⟨rfl,trivial⟩ rfl (Tc_region ?_)))))))))
   refine t_q rfl (Jq_build rfl tz36 rfl pl36 rfl) (a_ FT 2 rfl (c_n ?_))
   exact Tc_ret2 hq_ rfl (rA ty36 rfl rfl rfl rfl) rfl (by unfold unitM;rw [if_neg h1,List.getElem?_eq_none (by omega)];exact fZ_ret _ _ rfl)
  ·refine t_g rfl rfl rfl rfl (Jq_geq rfl rfl rfl (b:=false) (dF (by omega))) (a_ FT 1 rfl (c_n (Tc_f rfl (c_b (Tc_seq ?_)))))
   obtain ⟨p,hp0⟩:∃ p,s.q.g.us[r.idx.toNat]? = some p:=⟨_,List.getElem?_eq_getElem (by omega)⟩
   have hp:FL 4 (s.q.g.inp + s.q.g.us.length) p:=(hq.g.us _ p hp0).fl.mono (by omega) (by omega)
   have hv:FL 2 (s.q.g.inp + s.q.g.us.length) (fV (s.q.g.inp + r.idx.toNat)):=FL.v (by omega)
   haveI hlq:Br (lowQ s r) B:=lem_br hB
   haveI htq:Br (topQ s r) B:=lem_br hB
   have hnl:FL B (s.q.g.inp + s.q.g.us.length) (fN (lowQ s r)):=FL.n hlq
   have hnt:FL B (s.q.g.inp + s.q.g.us.length) (fN (topQ s r)):=FL.n htq
   have g3:=hp.sub hnl
   have g5:=FL.sc (c:=topQ s r) g3
   have g6:=FL.sc (c:=topQ s r - lowQ s r) hv
   haveI:=hp.fm (by omega);haveI:=hp.cb
   haveI:=hv.fm (by omega);haveI:=hv.cb
   haveI:=hnl.fm (by omega);haveI:=hnl.cb
   haveI:=hnt.fm (by omega);haveI:=hnt.cb
   haveI:=g3.fm (by omega);haveI:=g3.cb
   haveI:=g5.fm (by omega);haveI:=g5.cb
   haveI:=g6.fm (by omega);haveI:=g6.cb
   refine Tc_drawK 2 [none,none,none,none,none,none,none,none,none,none,none,none,some 4,some 5,some 4,some 5] [4,5] follows (by kernel_rfl) (d_ FT 4 rfl (dq_ rfl rfl (Jq_add rfl rfl rfl (r:=((s.q.g.inp + r.idx.toNat:Nat):Int)) (w64 (by omega) (by omega) (by omega))) (DK_c rfl rfl (Jd_call rfl fn112 rfl (rvar (s.q.g.inp + r.idx.toNat) (by omega))) (d_ FT 4 rfl ?_))))
   refine dq_ rfl rfl (Jq_indexX afE s.q.g.us (r.idx.toNat) rfl rfl rfl un24 ty36 hp0 (by omega)) (dq_ rfl rfl (Jq_load_ref_agg rfl rfl ty36 rfl) (DK_s 4 rfl rfl rfl (Jd_alloc (i:=4) rfl tz36 rfl) (DK_s 5 rfl rfl rfl (Jd_alloc (i:=5) rfl tz36 rfl) (DK_s 4 rfl rfl rfl (Jd_store rfl rfl rfl rfl ty36 rfl (by decide) (Nat.le_of_ble_eq_true rfl) rfl) ?_))))
   refine DK_s 5 rfl rfl rfl (Jd_store rfl rfl rfl rfl ty36 rfl (by decide) (Nat.le_of_ble_eq_true rfl) rfl) (DK_nil (At_then (Tc_seq (Tc_free 3 ?_))))
   refine Tc_norm [(2,some (D.ptr 0 0)),(3,some (D.ptr 1 0)),(4,some (D.ptr 2 0)),(7,some (D.ptr 4 0)),(8,some (D.ptr 5 0))] [hb_ 42 (scL s),hb_ 105 [Leaf.val (.int .i64 r.kind),Leaf.val (.int .i64 r.idx),Leaf.val (.int .i64 r.lo),Leaf.val (.int .i64 r.hi)],hb_ 36 [El.row tmE ([]),Leaf.val (.bool false),natL ([]),natL ([])],none,hb_ 36 (afL (fV (s.q.g.inp + r.idx.toNat))),hb_ 36 (afL p)] ⟨rfl,rfl,rfl,rfl,rfl,trivial⟩ rfl ?_
   refine Tc_region (a_ FT 5 rfl (t_f rfl (Je_call rfl fn151 rfl (lemma_r s hB (by omega) hl r.lo r.idx false)) (a_ FT 3 rfl (t_f rfl (Je_alloc (n:=6) rfl tz34 rfl) (a_ FT 2 rfl (cns ?_))))))
   refine Tc_norm [(2,some (D.ptr 0 0)),(3,some (D.ptr 1 0)),(4,some (D.ptr 2 0)),(7,some (D.ptr 4 0)),(8,some (D.ptr 5 0)),(9,some (D.ptr 6 0)),(10,some (D.bool (lowB s r)))] [hb_ 42 (scL s),hb_ 105 [Leaf.val (.int .i64 r.kind),Leaf.val (.int .i64 r.idx),Leaf.val (.int .i64 r.lo),Leaf.val (.int .i64 r.hi)],hb_ 36 [El.row tmE ([]),Leaf.val (.bool false),natL ([]),natL ([])],none,hb_ 36 (afL (fV (s.q.g.inp + r.idx.toNat))),hb_ 36 (afL p),hb_ 34 (qL (lowQ s r))] ⟨rfl,rfl,rfl,rfl,rfl,rfl,rfl,trivial⟩ rfl ?_
   refine Tc_region (a_ FT 5 rfl (t_f rfl (Je_call rfl fn151 rfl (lemma_r s hB (by omega) hl r.hi r.idx true)) (a_ FT 3 rfl (t_f rfl (Je_alloc (n:=7) rfl tz34 rfl) (a_ FT 2 rfl (cns ?_))))))
   refine Tc_norm [(2,some (D.ptr 0 0)),(3,some (D.ptr 1 0)),(4,some (D.ptr 2 0)),(7,some (D.ptr 4 0)),(8,some (D.ptr 5 0)),(9,some (D.ptr 6 0)),(10,some (D.bool (lowB s r))),(11,some (D.ptr 7 0)),(12,some (D.bool (topB s r)))] [hb_ 42 (scL s),hb_ 105 [Leaf.val (.int .i64 r.kind),Leaf.val (.int .i64 r.idx),Leaf.val (.int .i64 r.lo),Leaf.val (.int .i64 r.hi)],hb_ 36 [El.row tmE ([]),Leaf.val (.bool false),natL ([]),natL ([])],none,hb_ 36 (afL (fV (s.q.g.inp + r.idx.toNat))),hb_ 36 (afL p),hb_ 34 (qL (lowQ s r)),hb_ 34 (qL (topQ s r))] ⟨rfl,rfl,rfl,rfl,rfl,rfl,rfl,rfl,rfl,trivial⟩ rfl ?_
   refine Tc_region (t_f rfl (Je_call rfl fn33 rfl (rqof (-1) (by decide) (by decide))) (t_f rfl (Je_alloc (n:=8) rfl tz34 rfl) (a_ FT 1 rfl (c_n ?_))))
   refine Tc_meet (Γ':=[(2,some (D.ptr 0 0)),(3,some (D.ptr 1 0)),(4,some (D.ptr 2 0)),(7,some (D.ptr 4 0)),(8,some (D.ptr 5 0)),(9,some (D.ptr 6 0)),(10,some (D.bool (lowB s r))),(11,some (D.ptr 7 0)),(12,some (D.bool (topB s r))),(13,some (D.ptr 8 0)),(14,some (D.bool (onB s r)))]) (H':=[hb_ 42 (scL s),hb_ 105 [Leaf.val (.int .i64 r.kind),Leaf.val (.int .i64 r.idx),Leaf.val (.int .i64 r.lo),Leaf.val (.int .i64 r.hi)],hb_ 36 [El.row tmE ([]),Leaf.val (.bool false),natL ([]),natL ([])],none,hb_ 36 (afL (fV (s.q.g.inp + r.idx.toNat))),hb_ 36 (afL p),hb_ 34 (qL (lowQ s r)),hb_ 34 (qL (topQ s r)),hb_ 34 (qL (((-1):Int):Rat))]) ?_ ?_
   ·refine Tc_region (a_ FT 2 rfl (t_q rfl (Jq_eql rfl rfl rfl (b:=_) (rfl)) (a_ FT 1 rfl ?_)))
    refine Tl_two (fun hb68=>?_) (fun hb68=>?_)
    ·refine a_ FT 4 rfl (Tl_q (JO_skipU rfl rfl rfl) rfl (Tl_q (JO_skipU rfl rfl rfl) rfl (Tl_q (JO_skipU rfl rfl rfl) rfl (Tl_q (JO_skipU rfl rfl rfl) rfl (a_ FT 2 rfl (Tl_q (JO_skipU rfl rfl rfl) rfl (Tl_q (JO_skipU rfl rfl rfl) rfl (Tl_q (JO_skipU rfl rfl rfl) rfl (Tl_q (JO_skipU rfl rfl rfl) rfl ?_)))))))))
     refine Tl_q (JO_skipU rfl rfl rfl) rfl (Tl_q (JO_skipU rfl rfl rfl) rfl (a_ FT 2 rfl (Tl_is (onB s r) (by simp [onB, *]) (a_ FT 1 rfl (Tl_end ?_)))))
     exact At_meet ⟨rfl,rfl,rfl,rfl,rfl,rfl,rfl,rfl,rfl,rfl,rfl,trivial⟩
    ·refine a_ FT 2 rfl (t_g rfl rfl rfl rfl (Jq_eql rfl rfl rfl (b:=_) (rfl)) (a_ FT 1 rfl ?_))
     refine Tl_two (fun hb72=>?_) (fun hb72=>?_)
     ·refine a_ FT 8 rfl ?_
      refine Tl_two (fun hb80=>?_) (fun hb80=>?_)
      ·refine a_ FT 6 rfl (Tl_is (onB s r) (by simp [onB, *]) (a_ FT 1 rfl (Tl_end ?_)))
       exact At_meet ⟨rfl,rfl,rfl,rfl,rfl,rfl,rfl,rfl,rfl,rfl,rfl,trivial⟩
      ·refine a_ FT 1 rfl (Tl_e (JO_eg rfl rfl rfl rfl (Je_call rfl fn63 rfl (rqsign (qOf ((lowQ s r))) ((lowQ s r)) (qOf_q _) (Br.use (by omega))))) rfl rfl (t_g rfl rfl rfl rfl (Jq_geq rfl rfl rfl (b:=_) (rfl)) (a_ FT 3 rfl (Tl_is (onB s r) (by simp [onB, *]) (a_ FT 1 rfl (Tl_end ?_))))))
       exact At_meet ⟨rfl,rfl,rfl,rfl,rfl,rfl,rfl,rfl,rfl,rfl,rfl,trivial⟩
     ·refine a_ FT 3 rfl (Tl_e (JO_eg rfl rfl rfl rfl (Je_call rfl fn78 rfl (decided_r s hq hd (by omega) hpl 1 r.idx))) rfl rfl (a_ FT 2 rfl ?_))
      refine Tl_two (fun hb78=>?_) (fun hb78=>?_)
      ·refine a_ FT 2 rfl ?_
       refine Tl_two (fun hb80=>?_) (fun hb80=>?_)
       ·refine a_ FT 6 rfl (Tl_is (onB s r) (by simp [onB, *]) (a_ FT 1 rfl (Tl_end ?_)))
        exact At_meet ⟨rfl,rfl,rfl,rfl,rfl,rfl,rfl,rfl,rfl,rfl,rfl,trivial⟩
       ·refine a_ FT 1 rfl (Tl_e (JO_eg rfl rfl rfl rfl (Je_call rfl fn63 rfl (rqsign (qOf ((lowQ s r))) ((lowQ s r)) (qOf_q _) (Br.use (by omega))))) rfl rfl (t_g rfl rfl rfl rfl (Jq_geq rfl rfl rfl (b:=_) (rfl)) (a_ FT 3 rfl (Tl_is (onB s r) (by simp [onB, *]) (a_ FT 1 rfl (Tl_end ?_))))))
        exact At_meet ⟨rfl,rfl,rfl,rfl,rfl,rfl,rfl,rfl,rfl,rfl,rfl,trivial⟩
      ·refine a_ FT 2 rfl (Tl_q (JO_skipU rfl rfl rfl) rfl (Tl_q (JO_skipU rfl rfl rfl) rfl (Tl_q (JO_skipU rfl rfl rfl) rfl (a_ FT 3 rfl (Tl_is (onB s r) (by simp [onB, *]) (a_ FT 1 rfl (Tl_end ?_)))))))
       exact At_meet ⟨rfl,rfl,rfl,rfl,rfl,rfl,rfl,rfl,rfl,rfl,rfl,trivial⟩
   ·refine Tc_meet (Γ':=[(3,some (D.ptr 1 0)),(4,some (D.ptr 2 0)),(7,some (D.ptr 4 0)),(8,some (D.ptr 5 0)),(9,some (D.ptr 6 0)),(10,some (D.bool (lowB s r))),(11,some (D.ptr 7 0)),(12,some (D.bool (topB s r))),(13,some (D.ptr 8 0)),(14,some (D.bool (onB s r))),(15,some (D.bool (offB s r)))]) (H':=[hb_ 42 (scL s),hb_ 105 [Leaf.val (.int .i64 r.kind),Leaf.val (.int .i64 r.idx),Leaf.val (.int .i64 r.lo),Leaf.val (.int .i64 r.hi)],hb_ 36 [El.row tmE ([]),Leaf.val (.bool false),natL ([]),natL ([])],none,hb_ 36 (afL (fV (s.q.g.inp + r.idx.toNat))),hb_ 36 (afL p),hb_ 34 (qL (lowQ s r)),hb_ 34 (qL (topQ s r)),hb_ 34 (qL (((-1):Int):Rat))]) ?_ ?_
    ·refine Tc_region (a_ FT 2 rfl (t_q rfl (Jq_eql rfl rfl rfl (b:=_) (rfl)) (a_ FT 1 rfl ?_)))
     refine Tl_two (fun hb90=>?_) (fun hb90=>?_)
     ·refine a_ FT 4 rfl (Tl_q (JO_skipU rfl rfl rfl) rfl (Tl_q (JO_skipU rfl rfl rfl) rfl (Tl_q (JO_skipU rfl rfl rfl) rfl (Tl_q (JO_skipU rfl rfl rfl) rfl (a_ FT 2 rfl (Tl_q (JO_skipU rfl rfl rfl) rfl (Tl_q (JO_skipU rfl rfl rfl) rfl (Tl_q (JO_skipU rfl rfl rfl) rfl (Tl_q (JO_skipU rfl rfl rfl) rfl ?_)))))))))
      refine Tl_q (JO_skipU rfl rfl rfl) rfl (Tl_q (JO_skipU rfl rfl rfl) rfl (a_ FT 2 rfl (Tl_is (offB s r) (by simp [offB, *]) (a_ FT 1 rfl (Tl_end ?_)))))
      exact At_meet ⟨rfl,rfl,rfl,rfl,rfl,rfl,rfl,rfl,rfl,rfl,rfl,trivial⟩
     ·refine a_ FT 2 rfl (t_g rfl rfl rfl rfl (Jq_eql rfl rfl rfl (b:=_) (rfl)) (a_ FT 1 rfl ?_))
      refine Tl_two (fun hb94=>?_) (fun hb94=>?_)
      ·refine a_ FT 8 rfl ?_
       refine Tl_two (fun hb102=>?_) (fun hb102=>?_)
       ·refine a_ FT 6 rfl (Tl_is (offB s r) (by simp [offB, *]) (a_ FT 1 rfl (Tl_end ?_)))
        exact At_meet ⟨rfl,rfl,rfl,rfl,rfl,rfl,rfl,rfl,rfl,rfl,rfl,trivial⟩
       ·refine a_ FT 1 rfl (Tl_e (JO_eg rfl rfl rfl rfl (Je_call rfl fn63 rfl (rqsign (qOf ((topQ s r))) ((topQ s r)) (qOf_q _) (Br.use (by omega))))) rfl rfl (t_g rfl rfl rfl rfl (Jq_leq rfl rfl rfl (b:=_) (rfl)) (a_ FT 3 rfl (Tl_is (offB s r) (by simp [offB, *]) (a_ FT 1 rfl (Tl_end ?_))))))
        exact At_meet ⟨rfl,rfl,rfl,rfl,rfl,rfl,rfl,rfl,rfl,rfl,rfl,trivial⟩
      ·refine a_ FT 3 rfl (Tl_e (JO_eg rfl rfl rfl rfl (Je_call rfl fn78 rfl (decided_r s hq hd (by omega) hpl 2 r.idx))) rfl rfl (a_ FT 2 rfl ?_))
       refine Tl_two (fun hb100=>?_) (fun hb100=>?_)
       ·refine a_ FT 2 rfl ?_
        refine Tl_two (fun hb102=>?_) (fun hb102=>?_)
        ·refine a_ FT 6 rfl (Tl_is (offB s r) (by simp [offB, *]) (a_ FT 1 rfl (Tl_end ?_)))
         exact At_meet ⟨rfl,rfl,rfl,rfl,rfl,rfl,rfl,rfl,rfl,rfl,rfl,trivial⟩
        ·refine a_ FT 1 rfl (Tl_e (JO_eg rfl rfl rfl rfl (Je_call rfl fn63 rfl (rqsign (qOf ((topQ s r))) ((topQ s r)) (qOf_q _) (Br.use (by omega))))) rfl rfl (t_g rfl rfl rfl rfl (Jq_leq rfl rfl rfl (b:=_) (rfl)) (a_ FT 3 rfl (Tl_is (offB s r) (by simp [offB, *]) (a_ FT 1 rfl (Tl_end ?_))))))
         exact At_meet ⟨rfl,rfl,rfl,rfl,rfl,rfl,rfl,rfl,rfl,rfl,rfl,trivial⟩
       ·refine a_ FT 2 rfl (Tl_q (JO_skipU rfl rfl rfl) rfl (Tl_q (JO_skipU rfl rfl rfl) rfl (Tl_q (JO_skipU rfl rfl rfl) rfl (a_ FT 3 rfl (Tl_is (offB s r) (by simp [offB, *]) (a_ FT 1 rfl (Tl_end ?_)))))))
        exact At_meet ⟨rfl,rfl,rfl,rfl,rfl,rfl,rfl,rfl,rfl,rfl,rfl,trivial⟩
    ·refine c_a (t_q rfl (Jq_build rfl tz36 rfl pl36 rfl) (t_f rfl (Je_alloc (n:=9) rfl tz36 rfl) (a_ FT 2 rfl (cns (c_a (a_ FT 2 rfl (c_n (Tc_block (c_a ?_)))))))))
     by_cases hk5:r.kind = 5
     ·refine t_q rfl (Jq_eql rfl rfl rfl (b:=true) (eT (by omega))) (a_ FT 1 rfl (c_n (Tc_t rfl (Tc_free 0 (Tc_free 5 (Tc_free 6 (Tc_free 7 (Tc_free 8 ?_))))))))
      refine Tc_norm [(3,some (D.ptr 1 0)),(4,some (D.ptr 2 0)),(7,some (D.ptr 4 0)),(16,some (D.ptr 9 0))] [none,hb_ 105 [Leaf.val (.int .i64 r.kind),Leaf.val (.int .i64 r.idx),Leaf.val (.int .i64 r.lo),Leaf.val (.int .i64 r.hi)],hb_ 36 [El.row tmE ([]),Leaf.val (.bool false),natL ([]),natL ([])],none,hb_ 36 (afL (fV (s.q.g.inp + r.idx.toNat))),none,none,none,none,hb_ 36 [El.row tmE ([]),Leaf.val (.bool false),natL ([]),natL ([])]] ⟨rfl,rfl,rfl,rfl,trivial⟩ rfl ?_
      refine Tc_drawK 0 [none,none,none,none,none,none,none,none,none,some 9,none] [9] follows (by kernel_rfl) (d_ FT 3 rfl (dq_ rfl rfl (Jq_eql rfl rfl rfl (b:=_) (rfl)) (d_ FT 1 rfl ?_)))
      refine DK_two (fun hb118=>?_) (fun hb118=>?_)
      ·refine d_ FT 4 rfl (DK_s 9 rfl rfl rfl (Jd_store rfl rfl rfl rfl ty36 rfl (by decide) (Nat.le_of_ble_eq_true rfl) rfl) (d_ FT 1 rfl (DK_nil (At_block (At_then (Tc_seq (Tc_seq (Tc_free 1 (Tc_free 4 ?_)))))))))
       refine Tc_norm [(4,some (D.ptr 2 0)),(16,some (D.ptr 9 0)),(17,some (D.bool false))] [none,none,hb_ 36 [El.row tmE ([]),Leaf.val (.bool false),natL ([]),natL ([])],none,none,none,none,none,none,hb_ 36 (afL (fV (s.q.g.inp + r.idx.toNat)))] ⟨rfl,rfl,rfl,trivial⟩ rfl (Tc_region (a_ FT 2 rfl (c_n (Tc_t rfl (c_a (t_q rfl (Jq_build rfl tz36 rfl pl36 rfl) ?_))))))
       refine a_ FT 2 rfl (c_n ?_)
       exact Tc_ret2 hq_ rfl (rA ty36 rfl rfl rfl rfl) rfl (by rw [unitM_f h1 hp0 (by unfold unitF;rw [if_pos hk5];(try simp at hc212);simp [*])];exact fZ_ret _ _ rfl)
      ·refine d_ FT 2 rfl (DK_q (JO_qg rfl rfl rfl rfl (Jq_eql rfl rfl rfl (b:=_) (rfl))) (d_ FT 1 rfl (DK_s 9 rfl rfl rfl (Jd_store rfl rfl rfl rfl ty36 rfl (by decide) (Nat.le_of_ble_eq_true rfl) rfl) (d_ FT 1 rfl (DK_nil (At_block (At_then (Tc_seq (Tc_seq ?_)))))))))
       refine Tc_free 1 (Tc_free 4 (Tc_norm [(4,some (D.ptr 2 0)),(16,some (D.ptr 9 0)),(17,some (D.bool (r.hi == 0)))] [none,none,hb_ 36 [El.row tmE ([]),Leaf.val (.bool false),natL ([]),natL ([])],none,none,none,none,none,none,hb_ 36 (afL (fV (s.q.g.inp + r.idx.toNat)))] ⟨rfl,rfl,rfl,trivial⟩ rfl (Tc_region (a_ FT 2 rfl (c_n ?_)))))
       refine Tc_cond rfl (fun hc212=>?_) (fun hc212=>?_)
       ·refine c_a (t_q rfl (Jq_build rfl tz36 rfl pl36 rfl) (a_ FT 2 rfl (c_n ?_)))
        exact Tc_ret2 hq_ rfl (rA ty36 rfl rfl rfl rfl) rfl (by rw [unitM_f h1 hp0 (by unfold unitF;rw [if_pos hk5];(try simp at hc212);simp [*])];exact fZ_ret _ _ rfl)
       ·refine c_b (c_a (a_ FT 3 rfl (c_n ?_)))
        exact Tc_ret2 hq_ rfl (rA ty36 rfl rfl rfl rfl) rfl (by rw [unitM_t h1 hp0 (show unitF s r p = ((fV (s.q.g.inp + r.idx.toNat)),true) from by unfold unitF;rw [if_pos hk5];(try simp at hc212);simp [*])];rfl)
     ·refine t_q rfl (Jq_eql rfl rfl rfl (b:=false) (eF (by omega))) (a_ FT 1 rfl (c_n (Tc_f rfl (Tc_seq (Tc_free 0 ?_)))))
      refine Tc_norm [(3,some (D.ptr 1 0)),(4,some (D.ptr 2 0)),(7,some (D.ptr 4 0)),(8,some (D.ptr 5 0)),(9,some (D.ptr 6 0)),(10,some (D.bool (lowB s r))),(11,some (D.ptr 7 0)),(12,some (D.bool (topB s r))),(13,some (D.ptr 8 0)),(14,some (D.bool (onB s r))),(15,some (D.bool (offB s r))),(16,some (D.ptr 9 0)),(17,some (D.bool false)),(111,some (D.val (.int .i64 r.kind)))] [none,hb_ 105 [Leaf.val (.int .i64 r.kind),Leaf.val (.int .i64 r.idx),Leaf.val (.int .i64 r.lo),Leaf.val (.int .i64 r.hi)],hb_ 36 [El.row tmE ([]),Leaf.val (.bool false),natL ([]),natL ([])],none,hb_ 36 (afL (fV (s.q.g.inp + r.idx.toNat))),hb_ 36 (afL p),hb_ 34 (qL (lowQ s r)),hb_ 34 (qL (topQ s r)),hb_ 34 (qL (((-1):Int):Rat)),hb_ 36 [El.row tmE ([]),Leaf.val (.bool false),natL ([]),natL ([])]] ⟨rfl,rfl,rfl,rfl,rfl,rfl,rfl,rfl,rfl,rfl,rfl,rfl,rfl,rfl,trivial⟩ rfl ?_
      refine Tc_region ?_
      by_cases hk6:r.kind = 6
      ·refine t_q rfl (Jq_eql rfl rfl rfl (b:=true) (eT (by omega))) (a_ FT 1 rfl (c_n (Tc_t rfl (Tc_drawK 0 [none,none,none,none,none,none,none,none,none,none,none,some 9,none] [9] follows (by kernel_rfl) (d_ FT 2 rfl (DK_c rfl rfl (Jd_call rfl fn73 rfl (rsub7 (fV (s.q.g.inp + r.idx.toNat)) p (by omega) (by omega) (by omega))) (d_ FT 2 rfl ?_)))))))
       refine dq_ rfl rfl (Jq_eql rfl rfl rfl (b:=_) (rfl)) (d_ FT 1 rfl ?_)
       refine DK_two (fun hb131=>?_) (fun hb131=>?_)
       ·refine d_ FT 4 rfl (DK_s 9 rfl rfl rfl (Jd_store rfl rfl rfl rfl ty36 rfl (by decide) (Nat.le_of_ble_eq_true rfl) rfl) (d_ FT 1 rfl (DK_nil (At_block (At_then (Tc_seq (Tc_seq (Tc_free 1 (Tc_free 4 ?_)))))))))
        refine Tc_free 5 (Tc_free 6 (Tc_free 7 (Tc_free 8 (Tc_norm [(4,some (D.ptr 2 0)),(16,some (D.ptr 9 0)),(17,some (D.bool false))] [none,none,hb_ 36 [El.row tmE ([]),Leaf.val (.bool false),natL ([]),natL ([])],none,none,none,none,none,none,hb_ 36 (afL (fSub (fV (s.q.g.inp + r.idx.toNat)) p))] ⟨rfl,rfl,rfl,trivial⟩ rfl (Tc_region (a_ FT 2 rfl (c_n (Tc_t rfl ?_))))))))
        refine c_a (t_q rfl (Jq_build rfl tz36 rfl pl36 rfl) (a_ FT 2 rfl (c_n ?_)))
        exact Tc_ret2 hq_ rfl (rA ty36 rfl rfl rfl rfl) rfl (by rw [unitM_f h1 hp0 (by unfold unitF;rw [if_neg hk5,if_pos hk6];(try simp at hc212);simp [*])];exact fZ_ret _ _ rfl)
       ·refine d_ FT 2 rfl (DK_q (JO_qg rfl rfl rfl rfl (Jq_eql rfl rfl rfl (b:=_) (rfl))) (d_ FT 1 rfl (DK_s 9 rfl rfl rfl (Jd_store rfl rfl rfl rfl ty36 rfl (by decide) (Nat.le_of_ble_eq_true rfl) rfl) (d_ FT 1 rfl (DK_nil (At_block (At_then (Tc_seq (Tc_seq ?_)))))))))
        refine Tc_free 1 (Tc_free 4 (Tc_free 5 (Tc_free 6 (Tc_free 7 (Tc_free 8 (Tc_norm [(4,some (D.ptr 2 0)),(16,some (D.ptr 9 0)),(17,some (D.bool (r.hi == 0)))] [none,none,hb_ 36 [El.row tmE ([]),Leaf.val (.bool false),natL ([]),natL ([])],none,none,none,none,none,none,hb_ 36 (afL (fSub (fV (s.q.g.inp + r.idx.toNat)) p))] ⟨rfl,rfl,rfl,trivial⟩ rfl (Tc_region ?_)))))))
        refine a_ FT 2 rfl (c_n ?_)
        refine Tc_cond rfl (fun hc212=>?_) (fun hc212=>?_)
        ·refine c_a (t_q rfl (Jq_build rfl tz36 rfl pl36 rfl) (a_ FT 2 rfl (c_n ?_)))
         exact Tc_ret2 hq_ rfl (rA ty36 rfl rfl rfl rfl) rfl (by rw [unitM_f h1 hp0 (by unfold unitF;rw [if_neg hk5,if_pos hk6];(try simp at hc212);simp [*])];exact fZ_ret _ _ rfl)
        ·refine c_b (c_a (a_ FT 3 rfl (c_n ?_)))
         exact Tc_ret2 hq_ rfl (rA ty36 rfl rfl rfl rfl) rfl (by rw [unitM_t h1 hp0 (show unitF s r p = (fSub (fV (s.q.g.inp + r.idx.toNat)) p,true) from by unfold unitF;rw [if_neg hk5,if_pos hk6];(try simp at hc212);simp [*])];rfl)
      ·refine t_q rfl (Jq_eql rfl rfl rfl (b:=false) (eF (by omega))) (a_ FT 1 rfl (c_n (Tc_f rfl (Tc_seq ?_))))
       refine Tc_norm [(3,some (D.ptr 1 0)),(4,some (D.ptr 2 0)),(7,some (D.ptr 4 0)),(8,some (D.ptr 5 0)),(9,some (D.ptr 6 0)),(10,some (D.bool (lowB s r))),(11,some (D.ptr 7 0)),(12,some (D.bool (topB s r))),(13,some (D.ptr 8 0)),(14,some (D.bool (onB s r))),(15,some (D.bool (offB s r))),(16,some (D.ptr 9 0)),(17,some (D.bool false)),(111,some (D.val (.int .i64 r.kind)))] [none,hb_ 105 [Leaf.val (.int .i64 r.kind),Leaf.val (.int .i64 r.idx),Leaf.val (.int .i64 r.lo),Leaf.val (.int .i64 r.hi)],hb_ 36 [El.row tmE ([]),Leaf.val (.bool false),natL ([]),natL ([])],none,hb_ 36 (afL (fV (s.q.g.inp + r.idx.toNat))),hb_ 36 (afL p),hb_ 34 (qL (lowQ s r)),hb_ 34 (qL (topQ s r)),hb_ 34 (qL (((-1):Int):Rat)),hb_ 36 [El.row tmE ([]),Leaf.val (.bool false),natL ([]),natL ([])]] ⟨rfl,rfl,rfl,rfl,rfl,rfl,rfl,rfl,rfl,rfl,rfl,rfl,rfl,rfl,trivial⟩ rfl ?_
       refine Tc_region ?_
       by_cases hk7:r.kind = 7
       ·refine t_q rfl (Jq_eql rfl rfl rfl (b:=true) (eT (by omega))) (a_ FT 1 rfl (c_n (Tc_t rfl (Tc_region (a_ FT 4 rfl (Tl_end (At_block (At_then (Tc_seq ?_)))))))))
        refine c_a (a_ FT 2 rfl (c_n ?_))
        refine Tc_cond rfl (fun hc212=>?_) (fun hc212=>?_)
        ·refine Tc_seq (Tc_free 1 (Tc_free 4 (Tc_free 5 (Tc_free 6 (Tc_free 7 (Tc_free 8 (Tc_free 9 (Tc_norm [(4,some (D.ptr 2 0))] [none,none,hb_ 36 [El.row tmE ([]),Leaf.val (.bool false),natL ([]),natL ([])],none,none,none,none,none,none,none] ⟨rfl,trivial⟩ rfl (Tc_region ?_)))))))))
         refine t_q rfl (Jq_build rfl tz36 rfl pl36 rfl) (a_ FT 2 rfl (c_n ?_))
         exact Tc_ret2 hq_ rfl (rA ty36 rfl rfl rfl rfl) rfl (by rw [unitM_f h1 hp0 (by unfold unitF;rw [if_neg hk5,if_neg hk6,if_pos hk7];(try simp at hc212);simp [*])];exact fZ_ret _ _ rfl)
        ·refine c_b (c_a (a_ FT 3 rfl (c_n ?_)))
         exact Tc_ret2 hq_ rfl (rA ty36 rfl rfl rfl rfl) rfl (by rw [unitM_t h1 hp0 (show unitF s r p = (p,true) from by unfold unitF;rw [if_neg hk5,if_neg hk6,if_pos hk7];(try simp at hc212);simp [*])];rfl)
       ·refine t_q rfl (Jq_eql rfl rfl rfl (b:=false) (eF (by omega))) (a_ FT 1 rfl (c_n (Tc_f rfl (Tc_seq ?_))))
        refine Tc_norm [(3,some (D.ptr 1 0)),(4,some (D.ptr 2 0)),(7,some (D.ptr 4 0)),(8,some (D.ptr 5 0)),(9,some (D.ptr 6 0)),(10,some (D.bool (lowB s r))),(11,some (D.ptr 7 0)),(12,some (D.bool (topB s r))),(13,some (D.ptr 8 0)),(14,some (D.bool (onB s r))),(15,some (D.bool (offB s r))),(16,some (D.ptr 9 0)),(17,some (D.bool false)),(111,some (D.val (.int .i64 r.kind)))] [none,hb_ 105 [Leaf.val (.int .i64 r.kind),Leaf.val (.int .i64 r.idx),Leaf.val (.int .i64 r.lo),Leaf.val (.int .i64 r.hi)],hb_ 36 [El.row tmE ([]),Leaf.val (.bool false),natL ([]),natL ([])],none,hb_ 36 (afL (fV (s.q.g.inp + r.idx.toNat))),hb_ 36 (afL p),hb_ 34 (qL (lowQ s r)),hb_ 34 (qL (topQ s r)),hb_ 34 (qL (((-1):Int):Rat)),hb_ 36 [El.row tmE ([]),Leaf.val (.bool false),natL ([]),natL ([])]] ⟨rfl,rfl,rfl,rfl,rfl,rfl,rfl,rfl,rfl,rfl,rfl,rfl,rfl,rfl,trivial⟩ rfl ?_
        refine Tc_region ?_
        by_cases hk8:r.kind = 8
        ·refine t_q rfl (Jq_eql rfl rfl rfl (b:=true) (eT (by omega))) (a_ FT 1 rfl (c_n (Tc_t rfl (Tc_region (a_ FT 2 rfl (t_f rfl (Je_call rfl fn73 rfl (rsub7 p (fV (s.q.g.inp + r.idx.toNat)) (by omega) (by omega) (by omega))) (a_ FT 3 rfl (Tl_end (At_block ?_)))))))))
         refine At_then (Tc_seq (Tc_seq (Tc_free 1 (Tc_free 4 (Tc_free 5 (Tc_free 6 (Tc_free 7 (Tc_free 8 ?_))))))))
         refine Tc_norm [(4,some (D.ptr 2 0)),(16,some (D.ptr 9 0)),(17,some (D.bool (onB s r)))] [none,none,hb_ 36 [El.row tmE ([]),Leaf.val (.bool false),natL ([]),natL ([])],none,none,none,none,none,none,hb_ 36 (afL (fSub p (fV (s.q.g.inp + r.idx.toNat))))] ⟨rfl,rfl,rfl,trivial⟩ rfl (Tc_region (a_ FT 2 rfl (c_n ?_)))
         refine Tc_cond rfl (fun hc212=>?_) (fun hc212=>?_)
         ·refine c_a (t_q rfl (Jq_build rfl tz36 rfl pl36 rfl) (a_ FT 2 rfl (c_n ?_)))
          exact Tc_ret2 hq_ rfl (rA ty36 rfl rfl rfl rfl) rfl (by rw [unitM_f h1 hp0 (by unfold unitF;rw [if_neg hk5,if_neg hk6,if_neg hk7,if_pos hk8];(try simp at hc212);simp [*])];exact fZ_ret _ _ rfl)
         ·refine c_b (c_a (a_ FT 3 rfl (c_n ?_)))
          exact Tc_ret2 hq_ rfl (rA ty36 rfl rfl rfl rfl) rfl (by rw [unitM_t h1 hp0 (show unitF s r p = (fSub p (fV (s.q.g.inp + r.idx.toNat)),true) from by unfold unitF;rw [if_neg hk5,if_neg hk6,if_neg hk7,if_pos hk8];(try simp at hc212);simp [*])];rfl)
        ·refine t_q rfl (Jq_eql rfl rfl rfl (b:=false) (eF (by omega))) (a_ FT 1 rfl (c_n (Tc_f rfl (Tc_seq ?_))))
         refine Tc_norm [(3,some (D.ptr 1 0)),(4,some (D.ptr 2 0)),(7,some (D.ptr 4 0)),(8,some (D.ptr 5 0)),(9,some (D.ptr 6 0)),(10,some (D.bool (lowB s r))),(11,some (D.ptr 7 0)),(12,some (D.bool (topB s r))),(13,some (D.ptr 8 0)),(15,some (D.bool (offB s r))),(16,some (D.ptr 9 0)),(17,some (D.bool false)),(111,some (D.val (.int .i64 r.kind)))] [none,hb_ 105 [Leaf.val (.int .i64 r.kind),Leaf.val (.int .i64 r.idx),Leaf.val (.int .i64 r.lo),Leaf.val (.int .i64 r.hi)],hb_ 36 [El.row tmE ([]),Leaf.val (.bool false),natL ([]),natL ([])],none,hb_ 36 (afL (fV (s.q.g.inp + r.idx.toNat))),hb_ 36 (afL p),hb_ 34 (qL (lowQ s r)),hb_ 34 (qL (topQ s r)),hb_ 34 (qL (((-1):Int):Rat)),hb_ 36 [El.row tmE ([]),Leaf.val (.bool false),natL ([]),natL ([])]] ⟨rfl,rfl,rfl,rfl,rfl,rfl,rfl,rfl,rfl,rfl,rfl,rfl,rfl,trivial⟩ rfl ?_
         refine Tc_region ?_
         by_cases hk9:r.kind = 9
         ·refine t_q rfl (Jq_eql rfl rfl rfl (b:=true) (eT (by omega))) (a_ FT 1 rfl (c_n (Tc_t rfl (Tc_region (a_ FT 2 rfl (t_f rfl (Je_call rfl fn48 rfl (rscale_w p (((-1):Int):Rat) (by omega) (by omega))) (a_ FT 3 rfl (Tl_end (At_block ?_)))))))))
          refine At_then (Tc_seq (Tc_seq (Tc_free 1 (Tc_free 4 (Tc_free 5 (Tc_free 6 (Tc_free 7 (Tc_free 8 (Tc_norm [(4,some (D.ptr 2 0)),(16,some (D.ptr 9 0)),(17,some (D.bool (offB s r)))] [none,none,hb_ 36 [El.row tmE ([]),Leaf.val (.bool false),natL ([]),natL ([])],none,none,none,none,none,none,hb_ 36 (afL (fSc p (((-1):Int):Rat)))] ⟨rfl,rfl,rfl,trivial⟩ rfl ?_)))))))))
          refine Tc_region (a_ FT 2 rfl (c_n ?_))
          refine Tc_cond rfl (fun hc212=>?_) (fun hc212=>?_)
          ·refine c_a (t_q rfl (Jq_build rfl tz36 rfl pl36 rfl) (a_ FT 2 rfl (c_n ?_)))
           exact Tc_ret2 hq_ rfl (rA ty36 rfl rfl rfl rfl) rfl (by rw [unitM_f h1 hp0 (by unfold unitF;rw [if_neg hk5,if_neg hk6,if_neg hk7,if_neg hk8,if_pos hk9];(try simp at hc212);simp [*])];exact fZ_ret _ _ rfl)
          ·refine c_b (c_a (a_ FT 3 rfl (c_n ?_)))
           exact Tc_ret2 hq_ rfl (rA ty36 rfl rfl rfl rfl) rfl (by rw [unitM_t h1 hp0 (show unitF s r p = (fSc p ((-1:Int):Rat),true) from by unfold unitF;rw [if_neg hk5,if_neg hk6,if_neg hk7,if_neg hk8,if_pos hk9];(try simp at hc212);simp [*])];rfl)
         ·refine t_q rfl (Jq_eql rfl rfl rfl (b:=false) (eF (by omega))) (a_ FT 1 rfl (c_n (Tc_f rfl (Tc_seq ?_))))
          refine Tc_norm [(3,some (D.ptr 1 0)),(4,some (D.ptr 2 0)),(7,some (D.ptr 4 0)),(8,some (D.ptr 5 0)),(9,some (D.ptr 6 0)),(10,some (D.bool (lowB s r))),(11,some (D.ptr 7 0)),(12,some (D.bool (topB s r))),(13,some (D.ptr 8 0)),(15,some (D.bool (offB s r))),(16,some (D.ptr 9 0)),(17,some (D.bool false)),(111,some (D.val (.int .i64 r.kind)))] [none,hb_ 105 [Leaf.val (.int .i64 r.kind),Leaf.val (.int .i64 r.idx),Leaf.val (.int .i64 r.lo),Leaf.val (.int .i64 r.hi)],hb_ 36 [El.row tmE ([]),Leaf.val (.bool false),natL ([]),natL ([])],none,hb_ 36 (afL (fV (s.q.g.inp + r.idx.toNat))),hb_ 36 (afL p),hb_ 34 (qL (lowQ s r)),hb_ 34 (qL (topQ s r)),hb_ 34 (qL (((-1):Int):Rat)),hb_ 36 [El.row tmE ([]),Leaf.val (.bool false),natL ([]),natL ([])]] ⟨rfl,rfl,rfl,rfl,rfl,rfl,rfl,rfl,rfl,rfl,rfl,rfl,rfl,trivial⟩ rfl ?_
          refine Tc_region ?_
          by_cases hk10:r.kind = 10
          ·refine t_q rfl (Jq_eql rfl rfl rfl (b:=true) (eT (by omega))) (a_ FT 1 rfl (c_n (Tc_t rfl (Tc_region (a_ FT 2 rfl (t_f rfl (Je_call rfl fn48 rfl (rscale_w (fV (s.q.g.inp + r.idx.toNat)) (((-1):Int):Rat) (by omega) (by omega))) (a_ FT 3 rfl (Tl_end (At_block ?_)))))))))
           refine At_then (Tc_seq (Tc_seq (Tc_free 1 (Tc_free 4 (Tc_free 5 (Tc_free 6 (Tc_free 7 (Tc_free 8 ?_))))))))
           refine Tc_norm [(4,some (D.ptr 2 0)),(16,some (D.ptr 9 0)),(17,some (D.bool (offB s r)))] [none,none,hb_ 36 [El.row tmE ([]),Leaf.val (.bool false),natL ([]),natL ([])],none,none,none,none,none,none,hb_ 36 (afL (fSc (fV (s.q.g.inp + r.idx.toNat)) (((-1):Int):Rat)))] ⟨rfl,rfl,rfl,trivial⟩ rfl (Tc_region (a_ FT 2 rfl (c_n ?_)))
           refine Tc_cond rfl (fun hc212=>?_) (fun hc212=>?_)
           ·refine c_a (t_q rfl (Jq_build rfl tz36 rfl pl36 rfl) (a_ FT 2 rfl (c_n ?_)))
            exact Tc_ret2 hq_ rfl (rA ty36 rfl rfl rfl rfl) rfl (by rw [unitM_f h1 hp0 (by unfold unitF;rw [if_neg hk5,if_neg hk6,if_neg hk7,if_neg hk8,if_neg hk9,if_pos hk10];(try simp at hc212);simp [*])];exact fZ_ret _ _ rfl)
           ·refine c_b (c_a (a_ FT 3 rfl (c_n ?_)))
            exact Tc_ret2 hq_ rfl (rA ty36 rfl rfl rfl rfl) rfl (by rw [unitM_t h1 hp0 (show unitF s r p = (fSc (fV (s.q.g.inp + r.idx.toNat)) ((-1:Int):Rat),true) from by unfold unitF;rw [if_neg hk5,if_neg hk6,if_neg hk7,if_neg hk8,if_neg hk9,if_pos hk10];(try simp at hc212);simp [*])];rfl)
          ·refine t_q rfl (Jq_eql rfl rfl rfl (b:=false) (eF (by omega))) (a_ FT 1 rfl (c_n (Tc_f rfl (Tc_seq (Tc_free 8 ?_)))))
           refine Tc_norm [(3,some (D.ptr 1 0)),(4,some (D.ptr 2 0)),(7,some (D.ptr 4 0)),(8,some (D.ptr 5 0)),(9,some (D.ptr 6 0)),(10,some (D.bool (lowB s r))),(11,some (D.ptr 7 0)),(12,some (D.bool (topB s r))),(16,some (D.ptr 9 0)),(17,some (D.bool false)),(111,some (D.val (.int .i64 r.kind)))] [none,hb_ 105 [Leaf.val (.int .i64 r.kind),Leaf.val (.int .i64 r.idx),Leaf.val (.int .i64 r.lo),Leaf.val (.int .i64 r.hi)],hb_ 36 [El.row tmE ([]),Leaf.val (.bool false),natL ([]),natL ([])],none,hb_ 36 (afL (fV (s.q.g.inp + r.idx.toNat))),hb_ 36 (afL p),hb_ 34 (qL (lowQ s r)),hb_ 34 (qL (topQ s r)),none,hb_ 36 [El.row tmE ([]),Leaf.val (.bool false),natL ([]),natL ([])]] ⟨rfl,rfl,rfl,rfl,rfl,rfl,rfl,rfl,rfl,rfl,rfl,trivial⟩ rfl ?_
           refine Tc_region ?_
           by_cases hk11:r.kind = 11
           ·refine t_q rfl (Jq_eql rfl rfl rfl (b:=true) (eT (by omega))) (a_ FT 1 rfl (c_n (Tc_t rfl (Tc_drawK 0 [none,none,none,none,none,none,none,none,none,none,some 9,none] [9] follows (by kernel_rfl) (d_ FT 2 rfl (DK_c rfl rfl (Jd_call rfl fn98 rfl (rnumber (lowQ s r))) (DK_c rfl rfl (Jd_call rfl fn73 rfl (rsub7 p (fN (lowQ s r)) (by omega) (by omega) (by omega))) ?_)))))))
            refine d_ FT 2 rfl ?_
            refine DK_two (fun hb165=>?_) (fun hb165=>?_)
            ·refine d_ FT 4 rfl (DK_s 9 rfl rfl rfl (Jd_store rfl rfl rfl rfl ty36 rfl (by decide) (Nat.le_of_ble_eq_true rfl) rfl) (d_ FT 1 rfl (DK_nil (At_block (At_then (Tc_seq (Tc_seq (Tc_free 1 (Tc_free 4 ?_)))))))))
             refine Tc_free 5 (Tc_free 6 (Tc_free 7 (Tc_norm [(4,some (D.ptr 2 0)),(16,some (D.ptr 9 0)),(17,some (D.bool false))] [none,none,hb_ 36 [El.row tmE ([]),Leaf.val (.bool false),natL ([]),natL ([])],none,none,none,none,none,none,hb_ 36 (afL (fSub p (fN (lowQ s r))))] ⟨rfl,rfl,rfl,trivial⟩ rfl (Tc_region (a_ FT 2 rfl (c_n (Tc_t rfl (c_a ?_))))))))
             refine t_q rfl (Jq_build rfl tz36 rfl pl36 rfl) (a_ FT 2 rfl (c_n ?_))
             exact Tc_ret2 hq_ rfl (rA ty36 rfl rfl rfl rfl) rfl (by rw [unitM_f h1 hp0 (by unfold unitF;rw [if_neg hk5,if_neg hk6,if_neg hk7,if_neg hk8,if_neg hk9,if_neg hk10,if_pos hk11];(try simp at hc212);simp [*])];exact fZ_ret _ _ rfl)
            ·refine d_ FT 2 rfl (DK_q (JO_qg rfl rfl rfl rfl (Jq_eql rfl rfl rfl (b:=_) (rfl))) (d_ FT 1 rfl (DK_s 9 rfl rfl rfl (Jd_store rfl rfl rfl rfl ty36 rfl (by decide) (Nat.le_of_ble_eq_true rfl) rfl) (d_ FT 1 rfl (DK_nil (At_block (At_then (Tc_seq (Tc_seq ?_)))))))))
             refine Tc_free 1 (Tc_free 4 (Tc_free 5 (Tc_free 6 (Tc_free 7 (Tc_norm [(4,some (D.ptr 2 0)),(16,some (D.ptr 9 0)),(17,some (D.bool (r.hi == 0)))] [none,none,hb_ 36 [El.row tmE ([]),Leaf.val (.bool false),natL ([]),natL ([])],none,none,none,none,none,none,hb_ 36 (afL (fSub p (fN (lowQ s r))))] ⟨rfl,rfl,rfl,trivial⟩ rfl (Tc_region (a_ FT 2 rfl (c_n ?_))))))))
             refine Tc_cond rfl (fun hc212=>?_) (fun hc212=>?_)
             ·refine c_a (t_q rfl (Jq_build rfl tz36 rfl pl36 rfl) (a_ FT 2 rfl (c_n ?_)))
              exact Tc_ret2 hq_ rfl (rA ty36 rfl rfl rfl rfl) rfl (by rw [unitM_f h1 hp0 (by unfold unitF;rw [if_neg hk5,if_neg hk6,if_neg hk7,if_neg hk8,if_neg hk9,if_neg hk10,if_pos hk11];(try simp at hc212);simp [*])];exact fZ_ret _ _ rfl)
             ·refine c_b (c_a (a_ FT 3 rfl (c_n ?_)))
              exact Tc_ret2 hq_ rfl (rA ty36 rfl rfl rfl rfl) rfl (by rw [unitM_t h1 hp0 (show unitF s r p = (fSub p (fN (lowQ s r)),true) from by unfold unitF;rw [if_neg hk5,if_neg hk6,if_neg hk7,if_neg hk8,if_neg hk9,if_neg hk10,if_pos hk11];(try simp at hc212);simp [*])];rfl)
           ·refine t_q rfl (Jq_eql rfl rfl rfl (b:=false) (eF (by omega))) (a_ FT 1 rfl (c_n (Tc_f rfl (Tc_seq ?_))))
            refine Tc_norm [(3,some (D.ptr 1 0)),(4,some (D.ptr 2 0)),(7,some (D.ptr 4 0)),(8,some (D.ptr 5 0)),(9,some (D.ptr 6 0)),(10,some (D.bool (lowB s r))),(11,some (D.ptr 7 0)),(12,some (D.bool (topB s r))),(16,some (D.ptr 9 0)),(17,some (D.bool false)),(111,some (D.val (.int .i64 r.kind)))] [none,hb_ 105 [Leaf.val (.int .i64 r.kind),Leaf.val (.int .i64 r.idx),Leaf.val (.int .i64 r.lo),Leaf.val (.int .i64 r.hi)],hb_ 36 [El.row tmE ([]),Leaf.val (.bool false),natL ([]),natL ([])],none,hb_ 36 (afL (fV (s.q.g.inp + r.idx.toNat))),hb_ 36 (afL p),hb_ 34 (qL (lowQ s r)),hb_ 34 (qL (topQ s r)),none,hb_ 36 [El.row tmE ([]),Leaf.val (.bool false),natL ([]),natL ([])]] ⟨rfl,rfl,rfl,rfl,rfl,rfl,rfl,rfl,rfl,rfl,rfl,trivial⟩ rfl ?_
            refine Tc_region ?_
            by_cases hk12:r.kind = 12
            ·refine t_q rfl (Jq_eql rfl rfl rfl (b:=true) (eT (by omega))) (a_ FT 1 rfl (c_n (Tc_t rfl (Tc_drawK 0 [none,none,none,none,none,none,none,none,none,none,some 9,none] [9] follows (by kernel_rfl) (d_ FT 1 rfl (DK_c rfl rfl (Jd_call rfl fn98 rfl (rnumber (topQ s r))) (d_ FT 1 rfl ?_)))))))
             refine DK_c rfl rfl (Jd_call rfl fn73 rfl (rsub7 (fN (topQ s r)) p (by omega) (by omega) (by omega))) (d_ FT 2 rfl ?_)
             refine DK_two (fun hb177=>?_) (fun hb177=>?_)
             ·refine d_ FT 4 rfl (DK_s 9 rfl rfl rfl (Jd_store rfl rfl rfl rfl ty36 rfl (by decide) (Nat.le_of_ble_eq_true rfl) rfl) (d_ FT 1 rfl (DK_nil (At_block (At_then (Tc_seq (Tc_seq (Tc_free 1 (Tc_free 4 ?_)))))))))
              refine Tc_free 5 (Tc_free 6 (Tc_free 7 (Tc_norm [(4,some (D.ptr 2 0)),(16,some (D.ptr 9 0)),(17,some (D.bool false))] [none,none,hb_ 36 [El.row tmE ([]),Leaf.val (.bool false),natL ([]),natL ([])],none,none,none,none,none,none,hb_ 36 (afL (fSub (fN (topQ s r)) p))] ⟨rfl,rfl,rfl,trivial⟩ rfl (Tc_region (a_ FT 2 rfl (c_n (Tc_t rfl (c_a ?_))))))))
              refine t_q rfl (Jq_build rfl tz36 rfl pl36 rfl) (a_ FT 2 rfl (c_n ?_))
              exact Tc_ret2 hq_ rfl (rA ty36 rfl rfl rfl rfl) rfl (by rw [unitM_f h1 hp0 (by unfold unitF;rw [if_neg hk5,if_neg hk6,if_neg hk7,if_neg hk8,if_neg hk9,if_neg hk10,if_neg hk11,if_pos hk12];(try simp at hc212);simp [*])];exact fZ_ret _ _ rfl)
             ·refine d_ FT 2 rfl (DK_q (JO_qg rfl rfl rfl rfl (Jq_eql rfl rfl rfl (b:=_) (rfl))) (d_ FT 1 rfl (DK_s 9 rfl rfl rfl (Jd_store rfl rfl rfl rfl ty36 rfl (by decide) (Nat.le_of_ble_eq_true rfl) rfl) (d_ FT 1 rfl (DK_nil (At_block (At_then (Tc_seq (Tc_seq ?_)))))))))
              refine Tc_free 1 (Tc_free 4 (Tc_free 5 (Tc_free 6 (Tc_free 7 (Tc_norm [(4,some (D.ptr 2 0)),(16,some (D.ptr 9 0)),(17,some (D.bool (r.lo == 0)))] [none,none,hb_ 36 [El.row tmE ([]),Leaf.val (.bool false),natL ([]),natL ([])],none,none,none,none,none,none,hb_ 36 (afL (fSub (fN (topQ s r)) p))] ⟨rfl,rfl,rfl,trivial⟩ rfl (Tc_region (a_ FT 2 rfl (c_n ?_))))))))
              refine Tc_cond rfl (fun hc212=>?_) (fun hc212=>?_)
              ·refine c_a (t_q rfl (Jq_build rfl tz36 rfl pl36 rfl) (a_ FT 2 rfl (c_n ?_)))
               exact Tc_ret2 hq_ rfl (rA ty36 rfl rfl rfl rfl) rfl (by rw [unitM_f h1 hp0 (by unfold unitF;rw [if_neg hk5,if_neg hk6,if_neg hk7,if_neg hk8,if_neg hk9,if_neg hk10,if_neg hk11,if_pos hk12];(try simp at hc212);simp [*])];exact fZ_ret _ _ rfl)
              ·refine c_b (c_a (a_ FT 3 rfl (c_n ?_)))
               exact Tc_ret2 hq_ rfl (rA ty36 rfl rfl rfl rfl) rfl (by rw [unitM_t h1 hp0 (show unitF s r p = (fSub (fN (topQ s r)) p,true) from by unfold unitF;rw [if_neg hk5,if_neg hk6,if_neg hk7,if_neg hk8,if_neg hk9,if_neg hk10,if_neg hk11,if_pos hk12];(try simp at hc212);simp [*])];rfl)
            ·refine t_q rfl (Jq_eql rfl rfl rfl (b:=false) (eF (by omega))) (a_ FT 1 rfl (c_n (Tc_f rfl (Tc_seq (Tc_free 1 ?_)))))
             refine Tc_norm [(4,some (D.ptr 2 0)),(7,some (D.ptr 4 0)),(8,some (D.ptr 5 0)),(9,some (D.ptr 6 0)),(10,some (D.bool (lowB s r))),(11,some (D.ptr 7 0)),(12,some (D.bool (topB s r))),(16,some (D.ptr 9 0)),(17,some (D.bool false)),(111,some (D.val (.int .i64 r.kind)))] [none,none,hb_ 36 [El.row tmE ([]),Leaf.val (.bool false),natL ([]),natL ([])],none,hb_ 36 (afL (fV (s.q.g.inp + r.idx.toNat))),hb_ 36 (afL p),hb_ 34 (qL (lowQ s r)),hb_ 34 (qL (topQ s r)),none,hb_ 36 [El.row tmE ([]),Leaf.val (.bool false),natL ([]),natL ([])]] ⟨rfl,rfl,rfl,rfl,rfl,rfl,rfl,rfl,rfl,rfl,trivial⟩ rfl ?_
             refine Tc_region ?_
             by_cases hk13:r.kind = 13
             ·refine t_q rfl (Jq_eql rfl rfl rfl (b:=true) (eT (by omega))) (a_ FT 1 rfl (c_n (Tc_t rfl (Tc_seq (Tc_drawK 1 [none,none,none,none,none,none,some 10,some 10] [10] follows (by kernel_rfl) (d_ FT 2 rfl (DK_c rfl rfl (Jd_call rfl fn98 rfl (rnumber (lowQ s r))) (DK_c rfl rfl (Jd_call rfl fn73 rfl (rsub7 p (fN (lowQ s r)) (by omega) (by omega) (by omega))) (d_ FT 1 rfl ?_)))))))))
              refine DK_c rfl rfl (Jd_call rfl fn48 rfl (rscale_w (fSub p (fN (lowQ s r))) (topQ s r) (by omega) (by omega))) (DK_s 10 rfl rfl rfl (Jd_alloc (i:=10) rfl tz36 rfl) (DK_s 10 rfl rfl rfl (Jd_store rfl rfl rfl rfl ty36 rfl (by decide) (Nat.le_of_ble_eq_true rfl) rfl) (DK_nil (At_then (Tc_free 5 ?_)))))
              refine Tc_norm [(4,some (D.ptr 2 0)),(7,some (D.ptr 4 0)),(9,some (D.ptr 6 0)),(10,some (D.bool (lowB s r))),(11,some (D.ptr 7 0)),(12,some (D.bool (topB s r))),(16,some (D.ptr 9 0)),(18,some (D.ptr 10 0))] [none,none,hb_ 36 [El.row tmE ([]),Leaf.val (.bool false),natL ([]),natL ([])],none,hb_ 36 (afL (fV (s.q.g.inp + r.idx.toNat))),none,hb_ 34 (qL (lowQ s r)),hb_ 34 (qL (topQ s r)),none,hb_ 36 [El.row tmE ([]),Leaf.val (.bool false),natL ([]),natL ([])],hb_ 36 (afL (fSc (fSub p (fN (lowQ s r))) (topQ s r)))] ⟨rfl,rfl,rfl,rfl,rfl,rfl,rfl,rfl,trivial⟩ rfl ?_
              refine Tc_drawK 0 [none,none,none,none,none,none,none,none,none,none,none,none,none,none,none,none,none,none,none,none,none,some 9,none] [9] follows (by kernel_rfl) (d_ FT 4 rfl (DK_c rfl rfl (Jd_call rfl fn59 rfl (rqsub (qOf ((topQ s r))) ((topQ s r)) (qOf_q _) (Br.use (by omega)) (qOf ((lowQ s r))) ((lowQ s r)) (qOf_q _) (Br.use (by omega)))) ?_))
              refine DK_c rfl rfl (Jd_call rfl fn48 rfl (rscale_w (fV (s.q.g.inp + r.idx.toNat)) (((topQ s r)) - ((lowQ s r))) (by omega) (by omega))) (DK_c rfl rfl (Jd_call rfl fn73 rfl (rsub7 (fSc (fSub p (fN (lowQ s r))) (topQ s r)) (fSc (fV (s.q.g.inp + r.idx.toNat)) (((topQ s r)) - ((lowQ s r)))) (by omega) (by omega) (by omega))) (d_ FT 2 rfl ?_))
              refine DK_two (fun hb198=>?_) (fun hb198=>?_)
              ·refine d_ FT 12 rfl (DK_s 9 rfl rfl rfl (Jd_store rfl rfl rfl rfl ty36 rfl (by decide) (Nat.le_of_ble_eq_true rfl) rfl) (d_ FT 1 rfl (DK_nil (At_block (At_then (Tc_seq (Tc_seq (Tc_free 4 (Tc_free 6 ?_)))))))))
               refine Tc_free 7 (Tc_free 10 ?_)
               refine Tc_norm [(4,some (D.ptr 2 0)),(16,some (D.ptr 9 0)),(17,some (D.bool false))] [none,none,hb_ 36 [El.row tmE ([]),Leaf.val (.bool false),natL ([]),natL ([])],none,none,none,none,none,none,hb_ 36 (afL (fSub (fSc (fSub p (fN (lowQ s r))) (topQ s r)) (fSc (fV (s.q.g.inp + r.idx.toNat)) (((topQ s r)) - ((lowQ s r)))))),none] ⟨rfl,rfl,rfl,trivial⟩ rfl (Tc_region ?_)
               refine a_ FT 2 rfl (c_n (Tc_t rfl (c_a (t_q rfl (Jq_build rfl tz36 rfl pl36 rfl) (a_ FT 2 rfl (c_n ?_))))))
               exact Tc_ret2 hq_ rfl (rA ty36 rfl rfl rfl rfl) rfl (by rw [unitM_f h1 hp0 (by unfold unitF;rw [if_neg hk5,if_neg hk6,if_neg hk7,if_neg hk8,if_neg hk9,if_neg hk10,if_neg hk11,if_neg hk12,if_pos hk13];(try simp at hc212);simp [*])];exact fZ_ret _ _ rfl)
              ·refine d_ FT 3 rfl ?_
               refine DK_two (fun hb201=>?_) (fun hb201=>?_)
               ·refine d_ FT 9 rfl (DK_s 9 rfl rfl rfl (Jd_store rfl rfl rfl rfl ty36 rfl (by decide) (Nat.le_of_ble_eq_true rfl) rfl) (d_ FT 1 rfl (DK_nil (At_block (At_then (Tc_seq (Tc_seq (Tc_free 4 (Tc_free 6 ?_)))))))))
                refine Tc_free 7 (Tc_free 10 ?_)
                refine Tc_norm [(4,some (D.ptr 2 0)),(16,some (D.ptr 9 0)),(17,some (D.bool false))] [none,none,hb_ 36 [El.row tmE ([]),Leaf.val (.bool false),natL ([]),natL ([])],none,none,none,none,none,none,hb_ 36 (afL (fSub (fSc (fSub p (fN (lowQ s r))) (topQ s r)) (fSc (fV (s.q.g.inp + r.idx.toNat)) (((topQ s r)) - ((lowQ s r)))))),none] ⟨rfl,rfl,rfl,trivial⟩ rfl (Tc_region ?_)
                refine a_ FT 2 rfl (c_n (Tc_t rfl (c_a (t_q rfl (Jq_build rfl tz36 rfl pl36 rfl) (a_ FT 2 rfl (c_n ?_))))))
                exact Tc_ret2 hq_ rfl (rA ty36 rfl rfl rfl rfl) rfl (by rw [unitM_f h1 hp0 (by unfold unitF;rw [if_neg hk5,if_neg hk6,if_neg hk7,if_neg hk8,if_neg hk9,if_neg hk10,if_neg hk11,if_neg hk12,if_pos hk13];(try simp at hc212);simp [*])];exact fZ_ret _ _ rfl)
               ·refine d_ FT 1 rfl (DK_cg rfl rfl rfl rfl (Jd_call rfl fn63 rfl (rqsign (qOf ((lowQ s r))) ((lowQ s r)) (qOf_q _) (Br.use (by omega)))) (DK_q (JO_qg rfl rfl rfl rfl (Jq_lss rfl rfl rfl (b:=_) (rfl))) (d_ FT 2 rfl ?_)))
                refine DK_two (fun hb206=>?_) (fun hb206=>?_)
                ·refine d_ FT 4 rfl (DK_s 9 rfl rfl rfl (Jd_store rfl rfl rfl rfl ty36 rfl (by decide) (Nat.le_of_ble_eq_true rfl) rfl) (d_ FT 1 rfl (DK_nil (At_block (At_then (Tc_seq (Tc_seq (Tc_free 4 (Tc_free 6 ?_)))))))))
                 refine Tc_free 7 (Tc_free 10 ?_)
                 refine Tc_norm [(4,some (D.ptr 2 0)),(16,some (D.ptr 9 0)),(17,some (D.bool false))] [none,none,hb_ 36 [El.row tmE ([]),Leaf.val (.bool false),natL ([]),natL ([])],none,none,none,none,none,none,hb_ 36 (afL (fSub (fSc (fSub p (fN (lowQ s r))) (topQ s r)) (fSc (fV (s.q.g.inp + r.idx.toNat)) (((topQ s r)) - ((lowQ s r)))))),none] ⟨rfl,rfl,rfl,trivial⟩ rfl (Tc_region ?_)
                 refine a_ FT 2 rfl (c_n (Tc_t rfl (c_a (t_q rfl (Jq_build rfl tz36 rfl pl36 rfl) (a_ FT 2 rfl (c_n ?_))))))
                 exact Tc_ret2 hq_ rfl (rA ty36 rfl rfl rfl rfl) rfl (by rw [unitM_f h1 hp0 (by unfold unitF;rw [if_neg hk5,if_neg hk6,if_neg hk7,if_neg hk8,if_neg hk9,if_neg hk10,if_neg hk11,if_neg hk12,if_pos hk13];(try simp at hc212);simp [*])];exact fZ_ret _ _ rfl)
                ·refine d_ FT 1 rfl (DK_cg rfl rfl rfl rfl (Jd_call rfl fn63 rfl (rqsign (qOf ((topQ s r))) ((topQ s r)) (qOf_q _) (Br.use (by omega)))) (DK_q (JO_qg rfl rfl rfl rfl (Jq_gtr rfl rfl rfl (b:=_) (rfl))) (d_ FT 1 rfl (DK_s 9 rfl rfl rfl (Jd_store rfl rfl rfl rfl ty36 rfl (by decide) (Nat.le_of_ble_eq_true rfl) rfl) (d_ FT 1 rfl (DK_nil (At_block (At_then (Tc_seq ?_)))))))))
                 refine Tc_seq (Tc_free 4 (Tc_free 6 (Tc_free 7 (Tc_free 10 ?_))))
                 refine Tc_norm [(4,some (D.ptr 2 0)),(16,some (D.ptr 9 0)),(17,some (D.bool (decide (0 < (sg ((topQ s r)))))))] [none,none,hb_ 36 [El.row tmE ([]),Leaf.val (.bool false),natL ([]),natL ([])],none,none,none,none,none,none,hb_ 36 (afL (fSub (fSc (fSub p (fN (lowQ s r))) (topQ s r)) (fSc (fV (s.q.g.inp + r.idx.toNat)) (((topQ s r)) - ((lowQ s r)))))),none] ⟨rfl,rfl,rfl,trivial⟩ rfl ?_
                 refine Tc_region (a_ FT 2 rfl (c_n ?_))
                 refine Tc_cond rfl (fun hc212=>?_) (fun hc212=>?_)
                 ·refine c_a (t_q rfl (Jq_build rfl tz36 rfl pl36 rfl) (a_ FT 2 rfl (c_n ?_)))
                  exact Tc_ret2 hq_ rfl (rA ty36 rfl rfl rfl rfl) rfl (by rw [unitM_f h1 hp0 (by unfold unitF;rw [if_neg hk5,if_neg hk6,if_neg hk7,if_neg hk8,if_neg hk9,if_neg hk10,if_neg hk11,if_neg hk12,if_pos hk13];(try simp at hc212);simp [*])];exact fZ_ret _ _ rfl)
                 ·refine c_b (c_a (a_ FT 3 rfl (c_n ?_)))
                  exact Tc_ret2 hq_ rfl (rA ty36 rfl rfl rfl rfl) rfl (by rw [unitM_t h1 hp0 (show unitF s r p = (fSub (fSc (fSub p (fN (lowQ s r))) (topQ s r)) (fSc (fV (s.q.g.inp + r.idx.toNat)) (topQ s r - lowQ s r)),true) from by unfold unitF;rw [if_neg hk5,if_neg hk6,if_neg hk7,if_neg hk8,if_neg hk9,if_neg hk10,if_neg hk11,if_neg hk12,if_pos hk13];(try simp at hc212);simp [*])];rfl)
             ·refine t_q rfl (Jq_eql rfl rfl rfl (b:=false) (eF (by omega))) (a_ FT 1 rfl (c_n (Tc_f rfl (Tc_skipA (At_block (At_then (Tc_seq (Tc_seq (Tc_free 4 ?_)))))))))
              refine Tc_free 5 (Tc_free 6 (Tc_free 7 (Tc_norm [(4,some (D.ptr 2 0)),(16,some (D.ptr 9 0)),(17,some (D.bool false))] [none,none,hb_ 36 [El.row tmE ([]),Leaf.val (.bool false),natL ([]),natL ([])],none,none,none,none,none,none,hb_ 36 [El.row tmE ([]),Leaf.val (.bool false),natL ([]),natL ([])]] ⟨rfl,rfl,rfl,trivial⟩ rfl (Tc_region (a_ FT 2 rfl (c_n ?_))))))
              refine Tc_t rfl (c_a (t_q rfl (Jq_build rfl tz36 rfl pl36 rfl) (a_ FT 2 rfl (c_n ?_))))
              exact Tc_ret2 hq_ rfl (rA ty36 rfl rfl rfl rfl) rfl (by rw [unitM_f h1 hp0 (by unfold unitF;rw [if_neg hk5,if_neg hk6,if_neg hk7,if_neg hk8,if_neg hk9,if_neg hk10,if_neg hk11,if_neg hk12,if_neg hk13])];exact fZ_ret _ _ rfl)
end Go.Proofs.YtjdbopkbfkgpdaaGreatDoor
set_option linter.unusedSimpArgs false
set_option linter.unusedVariables false
namespace Go.Proofs.YtjdbopkbfkgpdaaGreatDoor
open Go Go.RowKit Rc
set_option maxRecDepth 10000 in
set_option maxHeartbeats 2000000 in
theorem form_r (s:Sc) {B:Nat} (hB:∀ m∈s.lems,Fq m.v B) (hB2:B≤1000000000) (hl:s.lems.length≤1000000) {b:Nat} (hq:QOk s.q) (hd:∀ d∈s.path,DOk b s.q d) (hb:b≤1000000) (hpl:s.path.length≤1000) (r:Rw):Ctr Tryz.prog 72 [scV s,rwV r] (R.tup [afV (formM s r).1,V.one (Leaf.val (.bool (formM s r).2))]):=by
 refine Ctr.of_body Tryz.func72 rfl Tryz.ntmps72 (Nat.le_of_ble_eq_true rfl) (fun w0 A0=>?_)
 have hg:=hq.g;have hr:=hq.r;have hlo:=hr.lo;have hhi:=hr.hi
 have h1:=hg.i1;have h2:=hg.i3;have h3:=hg.u4;have h4:=hg.o1;have h5:=hg.o3
 refine c_a (t_f rfl (Je_box (n:=0) rfl rfl rfl) (t_f rfl (Je_box (n:=1) rfl rfl rfl) (t_f rfl (Je_alloc (n:=2) rfl tz36 rfl) (a_ FT 1 rfl (cns (c_a (a_ FT 2 rfl (t_f rfl (Je_call rfl fn14 rfl (qvalid_r s.q hq)) (a_ FT 1 rfl ?_)))))))))
 refine c_n (Tc_f rfl (c_b (Tc_seq (c_a (a_ FT 2 rfl ?_)))))
 by_cases h5:5≤r.kind
 ·refine t_q rfl (Jq_geq rfl rfl rfl (b:=true) (dT (by omega))) (c_n (Tc_t rfl (c_a (a_ FT 2 rfl (t_f rfl (Je_call rfl fn113 rfl (unit_r s hB (by omega) (by omega) hq hd (by omega) (by omega) r)) (a_ FT 4 rfl (c_n ?_)))))))
  exact Tc_ret2 hq_ rfl (rA ty36 rfl rfl rfl rfl) rfl (by unfold formM;rw [if_pos h5];rfl)
 ·refine t_q rfl (Jq_geq rfl rfl rfl (b:=false) (dF (by omega))) (c_n (Tc_f rfl (c_b (Tc_seq (c_a (a_ FT 2 rfl ?_))))))
  by_cases ha:r.lo≠0
  ·refine t_q rfl (Jq_neq rfl rfl rfl (b:=true) (nT (by omega))) (a_ FT 10 rfl (c_n (Tc_t rfl (Tc_seq ?_))))
   have h0:r.lo≠0 ∨ r.hi≠0 ∨ r.idx < 0:=.inl ha
   refine Tc_region (t_q rfl (Jq_build rfl tz36 rfl pl36 rfl) (a_ FT 2 rfl (c_n ?_)))
   exact Tc_ret2 hq_ rfl (rA ty36 rfl rfl rfl rfl) rfl (by unfold formM;rw [if_neg h5,if_pos h0];exact fZ_ret _ _ rfl)
  ·refine t_q rfl (Jq_neq rfl rfl rfl (b:=false) (nF (by omega))) (a_ FT 3 rfl ?_)
   by_cases hb_:r.hi≠0
   ·refine t_g rfl rfl rfl rfl (Jq_neq rfl rfl rfl (b:=true) (nT (by omega))) (a_ FT 6 rfl (c_n (Tc_t rfl (Tc_seq ?_))))
    have h0:r.lo≠0 ∨ r.hi≠0 ∨ r.idx < 0:=.inr (.inl hb_)
    refine Tc_region (t_q rfl (Jq_build rfl tz36 rfl pl36 rfl) (a_ FT 2 rfl (c_n ?_)))
    exact Tc_ret2 hq_ rfl (rA ty36 rfl rfl rfl rfl) rfl (by unfold formM;rw [if_neg h5,if_pos h0];exact fZ_ret _ _ rfl)
   ·refine t_g rfl rfl rfl rfl (Jq_neq rfl rfl rfl (b:=false) (nF (by omega))) (a_ FT 4 rfl ?_)
    by_cases hc_:r.idx < 0
    ·refine t_g rfl rfl rfl rfl (Jq_lss rfl rfl rfl (b:=true) (dT (by omega))) (a_ FT 1 rfl (c_n (Tc_t rfl (Tc_seq ?_))))
     have h0:r.lo≠0 ∨ r.hi≠0 ∨ r.idx < 0:=.inr (.inr hc_)
     refine Tc_region (t_q rfl (Jq_build rfl tz36 rfl pl36 rfl) (a_ FT 2 rfl (c_n ?_)))
     exact Tc_ret2 hq_ rfl (rA ty36 rfl rfl rfl rfl) rfl (by unfold formM;rw [if_neg h5,if_pos h0];exact fZ_ret _ _ rfl)
    ·refine t_g rfl rfl rfl rfl (Jq_lss rfl rfl rfl (b:=false) (dF (by omega))) (a_ FT 1 rfl (c_n (Tc_f rfl (c_b (Tc_seq ?_)))))
     have h0:¬ (r.lo≠0 ∨ r.hi≠0 ∨ r.idx < 0):=by omega
     refine Tc_region (a_ FT 3 rfl (t_f rfl (Je_alloc (n:=3) rfl tz29 rfl) (a_ FT 1 rfl (cns (c_a (a_ FT 2 rfl (c_n (Tc_block (c_a ?_)))))))))
     by_cases hk1:r.kind = 1
     ·refine t_q rfl (Jq_eql rfl rfl rfl (b:=true) (eT (by omega))) (a_ FT 1 rfl (c_n (Tc_t rfl (c_a (a_ FT 4 rfl (t_q rfl (Jq_len rfl rfl un27) ?_))))))
      by_cases hin:r.idx.toNat < s.q.r.lo.length
      ·refine t_q rfl (Jq_lss rfl rfl rfl (b:=true) (dT (by omega))) (c_n (Tc_t rfl (Tc_seq ?_)))
       obtain ⟨c,hc⟩:∃ c,s.q.r.lo[r.idx.toNat]? = some c:=⟨_,List.getElem?_eq_getElem (by omega)⟩
       obtain ⟨c2,hc2⟩:∃ c,s.q.r.hi[r.idx.toNat]? = some c:=⟨_,List.getElem?_eq_getElem (by omega)⟩
       have hcb:=hr.bd _ _ _ hc hc2
       have hv:FL 2 (s.q.g.inp + s.q.g.us.length) (fV r.idx.toNat):=FL.v (by omega)
       have hn:FL 8 (s.q.g.inp + s.q.g.us.length) (fN c):=FL.n (hcb.1.br.mono (by omega))
       haveI:=hv.fm (by omega);haveI:=hv.cb
       haveI:=hn.fm (by omega);haveI:=hn.cb
       refine Tc_drawK 0 [none,none,none,none,none,none,none,none,none,none,none,some 2,none] [2] follows (by kernel_rfl) (d_ FT 2 rfl (DK_eq (D.val (.int .i64 ((r.idx.toNat:Nat):Int))) (by rw [Int.toNat_of_nonneg (by omega)]) (DK_c rfl rfl (Jd_call rfl fn112 rfl (rvar r.idx.toNat (by omega))) (d_ FT 4 rfl ?_))))
       refine dq_ rfl rfl (Jq_indexX ratE s.q.r.lo (r.idx.toNat) rfl rfl rfl un27 ty34 hc (by omega)) (dq_ rfl rfl (Jq_load_ref_agg rfl rfl ty34 rfl) (DK_c rfl rfl (Jd_call rfl fn98 rfl (rnumber c)) (DK_c rfl rfl (Jd_call rfl fn73 rfl (rsub7 (fV r.idx.toNat) (fN c) (by omega) (by omega) (by omega))) ?_)))
       refine DK_s 2 rfl rfl rfl (Jd_store rfl rfl rfl rfl ty36 rfl (by decide) (Nat.le_of_ble_eq_true rfl) rfl) (d_ FT 1 rfl (DK_nil (At_then ?_)))
       exact Tc_ret2 hq_ rfl (rA ty36 rfl rfl rfl rfl) rfl (by unfold formM;rw [if_neg h5,if_neg h0,if_pos hk1,hc];rfl)
      ·refine t_q rfl (Jq_lss rfl rfl rfl (b:=false) (dF (by omega))) (c_n (Tc_f rfl (Tc_skipA (At_block (At_then (c_a (t_q rfl (Jq_build rfl tz36 rfl pl36 rfl) (a_ FT 2 rfl (c_n ?_)))))))))
       exact Tc_ret2 hq_ rfl (rA ty36 rfl rfl rfl rfl) rfl (by unfold formM;rw [if_neg h5,if_neg h0,if_pos hk1,List.getElem?_eq_none (by omega)];exact fZ_ret _ _ rfl)
     ·refine t_q rfl (Jq_eql rfl rfl rfl (b:=false) (eF (by omega))) (a_ FT 1 rfl (c_n (Tc_f rfl (c_a ?_))))
      by_cases hk2:r.kind = 2
      ·refine t_q rfl (Jq_eql rfl rfl rfl (b:=true) (eT (by omega))) (a_ FT 1 rfl (c_n (Tc_t rfl (c_a (a_ FT 4 rfl (t_q rfl (Jq_len rfl rfl un27) ?_))))))
       by_cases hin:r.idx.toNat < s.q.r.hi.length
       ·refine t_q rfl (Jq_lss rfl rfl rfl (b:=true) (dT (by omega))) (c_n (Tc_t rfl (Tc_seq ?_)))
        obtain ⟨c,hc⟩:∃ c,s.q.r.hi[r.idx.toNat]? = some c:=⟨_,List.getElem?_eq_getElem (by omega)⟩
        obtain ⟨c2,hc2⟩:∃ c,s.q.r.lo[r.idx.toNat]? = some c:=⟨_,List.getElem?_eq_getElem (by omega)⟩
        have hcb:=hr.bd _ _ _ hc2 hc
        have hv:FL 2 (s.q.g.inp + s.q.g.us.length) (fV r.idx.toNat):=FL.v (by omega)
        have hn:FL 8 (s.q.g.inp + s.q.g.us.length) (fN c):=FL.n (hcb.2.1.br.mono (by omega))
        haveI:=hv.fm (by omega);haveI:=hv.cb
        haveI:=hn.fm (by omega);haveI:=hn.cb
        refine Tc_drawK 0 [none,none,none,none,none,none,none,none,none,none,none,some 2,none] [2] follows (by kernel_rfl) (d_ FT 4 rfl (dq_ rfl rfl (Jq_indexX ratE s.q.r.hi (r.idx.toNat) rfl rfl rfl un27 ty34 hc (by omega)) (dq_ rfl rfl (Jq_load_ref_agg rfl rfl ty34 rfl) (DK_c rfl rfl (Jd_call rfl fn98 rfl (rnumber c)) (d_ FT 2 rfl ?_)))))
        refine DK_eq (D.val (.int .i64 ((r.idx.toNat:Nat):Int))) (by rw [Int.toNat_of_nonneg (by omega)]) (DK_c rfl rfl (Jd_call rfl fn112 rfl (rvar r.idx.toNat (by omega))) (DK_c rfl rfl (Jd_call rfl fn73 rfl (rsub7 (fN c) (fV r.idx.toNat) (by omega) (by omega) (by omega))) (DK_s 2 rfl rfl rfl (Jd_store rfl rfl rfl rfl ty36 rfl (by decide) (Nat.le_of_ble_eq_true rfl) rfl) (d_ FT 1 rfl ?_))))
        refine DK_nil (At_then ?_)
        exact Tc_ret2 hq_ rfl (rA ty36 rfl rfl rfl rfl) rfl (by unfold formM;rw [if_neg h5,if_neg h0,if_neg hk1,if_pos hk2,hc];rfl)
       ·refine t_q rfl (Jq_lss rfl rfl rfl (b:=false) (dF (by omega))) (c_n (Tc_f rfl (Tc_skipA (At_block (At_then (c_a (t_q rfl (Jq_build rfl tz36 rfl pl36 rfl) (a_ FT 2 rfl (c_n ?_)))))))))
        exact Tc_ret2 hq_ rfl (rA ty36 rfl rfl rfl rfl) rfl (by unfold formM;rw [if_neg h5,if_neg h0,if_neg hk1,if_pos hk2,List.getElem?_eq_none (by omega)];exact fZ_ret _ _ rfl)
      ·refine t_q rfl (Jq_eql rfl rfl rfl (b:=false) (eF (by omega))) (a_ FT 1 rfl (c_n (Tc_f rfl (c_a ?_))))
       by_cases hk3:r.kind = 3
       ·refine t_q rfl (Jq_eql rfl rfl rfl (b:=true) (eT (by omega))) (a_ FT 1 rfl (c_n (Tc_t rfl (c_a (a_ FT 4 rfl (t_q rfl (Jq_len rfl rfl un24) ?_))))))
        by_cases hin:r.idx.toNat < s.q.r.rows.length
        ·refine t_q rfl (Jq_lss rfl rfl rfl (b:=true) (dT (by omega))) (c_n (Tc_t rfl (Tc_seq ?_)))
         obtain ⟨f,hf⟩:∃ f,s.q.r.rows[r.idx.toNat]? = some f:=⟨_,List.getElem?_eq_getElem (by omega)⟩
         refine Tc_region (a_ FT 4 rfl (t_q rfl (Jq_indexX afE s.q.r.rows (r.idx.toNat) rfl rfl rfl un24 ty36 hf (by omega)) (t_q rfl (Jq_load_ref_agg rfl rfl ty36 rfl) (a_ FT 2 rfl (c_n ?_)))))
         exact Tc_ret2 hq_ rfl (rA ty36 rfl rfl rfl rfl) rfl (by unfold formM;rw [if_neg h5,if_neg h0,if_neg hk1,if_neg hk2,if_pos hk3,hf];rfl)
        ·refine t_q rfl (Jq_lss rfl rfl rfl (b:=false) (dF (by omega))) (c_n (Tc_f rfl (Tc_skipA (At_block (At_then (c_a (t_q rfl (Jq_build rfl tz36 rfl pl36 rfl) (a_ FT 2 rfl (c_n ?_)))))))))
         exact Tc_ret2 hq_ rfl (rA ty36 rfl rfl rfl rfl) rfl (by unfold formM;rw [if_neg h5,if_neg h0,if_neg hk1,if_neg hk2,if_pos hk3,List.getElem?_eq_none (by omega)];exact fZ_ret _ _ rfl)
       ·refine t_q rfl (Jq_eql rfl rfl rfl (b:=false) (eF (by omega))) (a_ FT 1 rfl (c_n (Tc_f rfl (c_a ?_))))
        by_cases hk4:r.kind = 4
        ·refine t_q rfl (Jq_eql rfl rfl rfl (b:=true) (eT (by omega))) (a_ FT 1 rfl (c_n (Tc_t rfl (Tc_seq (Tc_seq (Tc_drawK 0 [none,none,none,none,none,none,none,none,none,none,none,none,none,none,none,none,none,none] [] follows (by kernel_rfl) (d_ FT 4 rfl (dq_ rfl rfl (Jq_len rfl rfl un39) ?_))))))))
         by_cases hin:s.path.length≤r.idx.toNat
         ·refine dq_ rfl rfl (Jq_geq rfl rfl rfl (b:=true) (dT (by omega))) (d_ FT 12 rfl (DK_nil (At_then (Tc_t rfl (c_a (t_q rfl (Jq_build rfl tz36 rfl pl36 rfl) (a_ FT 2 rfl (c_n ?_))))))))
          exact Tc_ret2 hq_ rfl (rA ty36 rfl rfl rfl rfl) rfl (by unfold formM;rw [if_neg h5,if_neg h0,if_neg hk1,if_neg hk2,if_neg hk3,if_pos hk4,List.getElem?_eq_none (by omega)];exact fZ_ret _ _ rfl)
         ·refine dq_ rfl rfl (Jq_geq rfl rfl rfl (b:=false) (dF (by omega))) (d_ FT 1 rfl ?_)
          obtain ⟨d,hdd⟩:∃ d,s.path[r.idx.toNat]? = some d:=⟨_,List.getElem?_eq_getElem (by omega)⟩
          have hdo:=hd d (List.mem_of_getElem? hdd)
          have hdk:d.kind = 1 ∨ d.kind = 2 ∨ d.kind = 3 ∨ d.kind = 4:=by rcases hdo.1 with ⟨h,_⟩ | ⟨h,_⟩ <;> omega
          have hdi:d.idx < (s.q.g.inp + s.q.g.us.length):=by rcases hdo.1 with ⟨_,h,_⟩ | ⟨_,h⟩ <;> omega
          have hv:FL 2 (s.q.g.inp + s.q.g.us.length) (fV d.idx):=FL.v hdi
          have hn:FL (b + 1) (s.q.g.inp + s.q.g.us.length) (fN d.pt):=FL.n hdo.2.br
          have hs:=hv.sub hn
          haveI:=hv.fm (by omega);haveI:=hv.cb
          haveI:=hn.fm (by omega);haveI:=hn.cb
          haveI:=hs.fm (by omega);haveI:=hs.cb
          refine d_ FT 6 rfl (DK_q (JO_qg rfl rfl rfl rfl (Jq_indexX dcE s.path (r.idx.toNat) rfl rfl rfl un39 ty73 hdd (by omega))) (DK_q (JO_qg rfl rfl rfl rfl (Jq_load_ref_agg rfl rfl ty73 rfl)) (DK_cg rfl rfl rfl rfl (Jd_call rfl fn69 rfl (fits_r s.q d (by assumption) (by omega))) (d_ FT 2 rfl (DK_nil (At_then (Tc_f rfl (c_b (c_a ?_)))))))))
          refine a_ FT 4 rfl (t_q rfl (Jq_indexX dcE s.path (r.idx.toNat) rfl rfl rfl un39 ty73 hdd (by omega)) (t_q rfl (Jq_load_ref_agg rfl rfl ty73 rfl) (t_f rfl (Je_alloc (n:=4) rfl tz73 rfl) (a_ FT 1 rfl (cns (Tc_drawK 1 [none,none,none,none,none,none,none,some 5,some 5] [5] follows (by kernel_rfl) (d_ FT 2 rfl (DK_c rfl rfl (Jd_call rfl fn112 rfl (rvar d.idx (by omega))) ?_))))))))
          refine d_ FT 2 rfl (DK_c rfl rfl (Jd_call rfl fn98 rfl (rnumber d.pt)) (DK_c rfl rfl (Jd_call rfl fn73 rfl (rsub7 (fV d.idx) (fN d.pt) (by omega) (by omega) (by omega))) (DK_s 5 rfl rfl rfl (Jd_alloc (i:=5) rfl tz36 rfl) (DK_s 5 rfl rfl rfl (Jd_store rfl rfl rfl rfl ty36 rfl (by decide) (Nat.le_of_ble_eq_true rfl) rfl) (DK_nil (At_then (Tc_seq (c_a (a_ FT 2 rfl ?_)))))))))
          by_cases hk:d.kind = 3
          ·refine t_q rfl (Jq_eql rfl rfl rfl (b:=true) (eT (by omega))) (c_n (Tc_t rfl (c_a (a_ FT 3 rfl (c_n ?_)))))
           exact Tc_ret2 hq_ rfl (rA ty36 rfl rfl rfl rfl) rfl (by unfold formM;rw [if_neg h5,if_neg h0,if_neg hk1,if_neg hk2,if_neg hk3,if_pos hk4,hdd];show _ = R.tup [afV (if 3≤d.kind then (pathF d,true) else (fZ,false)).1,V.one (Leaf.val (.bool (if 3≤d.kind then (pathF d,true) else (fZ,false)).2))];rw [if_pos (by omega)];show _ = R.tup [afV (pathF d),V.one (Leaf.val (.bool true))];unfold pathF;rw [if_pos hk];rfl)
          ·refine t_q rfl (Jq_eql rfl rfl rfl (b:=false) (eF (by omega))) (c_n (Tc_f rfl (c_b (c_a (a_ FT 2 rfl ?_)))))
           by_cases hk_:d.kind = 4
           ·refine t_q rfl (Jq_eql rfl rfl rfl (b:=true) (eT (by omega))) (c_n (Tc_t rfl (Tc_seq (Tc_drawK 0 [none,none,none,some 2,none] [2] follows (by kernel_rfl) (d_ FT 1 rfl (DK_c rfl rfl (Jd_call rfl fn33 rfl (rqof (-1) (by decide) (by decide))) (DK_c rfl rfl (Jd_call rfl fn48 rfl (rscale_w (fSub (fV d.idx) (fN d.pt)) (((-1):Int):Rat) (by omega) (by omega))) ?_)))))))
            refine DK_s 2 rfl rfl rfl (Jd_store rfl rfl rfl rfl ty36 rfl (by decide) (Nat.le_of_ble_eq_true rfl) rfl) (d_ FT 1 rfl (DK_nil (At_then ?_)))
            exact Tc_ret2 hq_ rfl (rA ty36 rfl rfl rfl rfl) rfl (by unfold formM;rw [if_neg h5,if_neg h0,if_neg hk1,if_neg hk2,if_neg hk3,if_pos hk4,hdd];show _ = R.tup [afV (if 3≤d.kind then (pathF d,true) else (fZ,false)).1,V.one (Leaf.val (.bool (if 3≤d.kind then (pathF d,true) else (fZ,false)).2))];rw [if_pos (by omega)];show _ = R.tup [afV (pathF d),V.one (Leaf.val (.bool true))];unfold pathF;rw [if_neg hk];rfl)
           ·refine t_q rfl (Jq_eql rfl rfl rfl (b:=false) (eF (by omega))) (c_n (Tc_f rfl (Tc_skipA (At_block (At_then (c_a (t_q rfl (Jq_build rfl tz36 rfl pl36 rfl) (a_ FT 2 rfl (c_n ?_)))))))))
            exact Tc_ret2 hq_ rfl (rA ty36 rfl rfl rfl rfl) rfl (by unfold formM;rw [if_neg h5,if_neg h0,if_neg hk1,if_neg hk2,if_neg hk3,if_pos hk4,hdd];show _ = R.tup [afV (if 3≤d.kind then (pathF d,true) else (fZ,false)).1,V.one (Leaf.val (.bool (if 3≤d.kind then (pathF d,true) else (fZ,false)).2))];rw [if_neg (by omega)];exact fZ_ret _ _ rfl)
        ·refine t_q rfl (Jq_eql rfl rfl rfl (b:=false) (eF (by omega))) (a_ FT 1 rfl (c_n (Tc_f rfl (Tc_skipA (At_block (At_then (c_a (t_q rfl (Jq_build rfl tz36 rfl pl36 rfl) (a_ FT 2 rfl ?_)))))))))
         refine c_n ?_
         exact Tc_ret2 hq_ rfl (rA ty36 rfl rfl rfl rfl) rfl (by unfold formM;rw [if_neg h5,if_neg h0,if_neg hk1,if_neg hk2,if_neg hk3,if_neg hk4];exact fZ_ret _ _ rfl)
end Go.Proofs.YtjdbopkbfkgpdaaGreatDoor
set_option linter.unusedSimpArgs false
set_option linter.unusedVariables false
namespace Rc
open Go Go.RowKit
theorem fZ_ls:[tmE.row fZ.ts,Leaf.val (.bool (cneg fZ.c)),natL (limbs (cnum fZ.c)),natL (limbs (cden fZ.c))] = [nilL,Leaf.val (.bool false),nilL,nilL]:=by
 show [tmE.row [],Leaf.val (.bool (cneg 0)),natL (limbs (cnum 0)),natL (limbs (cden 0))] = _
 rw [cnum_zero,cden_zero,limbs_zero];rfl
theorem dq_can {x:Qr} (h:x = qOf x.q):D.agg [Leaf.val (.bool x.neg),natL x.n,natL x.d] = D.agg (qL x.q):=by
 rw [h,qOf_q];rfl
theorem cneg_nonneg {q:Rat} (h:0≤q):cneg q = false:=by unfold cneg;exact decide_eq_false (Int.not_lt.2 (Rat.num_nonneg.2 h))
theorem abs_ls (q:Rat):D.agg [Leaf.val (.bool false),natL (limbs (cnum q)),natL (limbs (cden q))] = D.agg (qL (rq false (cnum q) (cden q))):=by
 have h0:=abs_nonneg q
 rw [abs_eq] at h0 ⊢
 split
 ·rename_i h
  rw [if_pos h] at h0
  unfold qL
  rw [cnum_neg,cden_neg,cneg_nonneg h0]
 ·rename_i h
  rw [if_neg h] at h0
  unfold qL
  rw [cneg_nonneg h0]
theorem toNat_cast (n:Nat):((n:Nat):Int).toNat = n:=rfl
section
variable {s:Sc}
theorem form_lo {v:Nat} {c:Rat} (h:s.q.r.lo[v]? = some c):formM s ⟨1,(v:Int),0,0⟩ = (fSub (fV v) (fN c),true):=by
 unfold formM
 rw [if_neg (by show ¬ (5:Int)≤1;decide),if_neg (by show ¬ ((0:Int)≠0 ∨ (0:Int)≠0 ∨ ((v:Nat):Int) < 0);omega),if_pos rfl]
 simp only [toNat_cast,h]
theorem form_hi {v:Nat} {c:Rat} (h:s.q.r.hi[v]? = some c):formM s ⟨2,(v:Int),0,0⟩ = (fSub (fN c) (fV v),true):=by
 unfold formM
 rw [if_neg (by show ¬ (5:Int)≤2;decide),if_neg (by show ¬ ((0:Int)≠0 ∨ (0:Int)≠0 ∨ ((v:Nat):Int) < 0);omega),if_neg (by show ¬ (2:Int) = 1;decide),if_pos rfl]
 simp only [toNat_cast,h]
theorem form_unit {k lo hi:Int} {j:Nat} {p f:Af} (hk:5≤k) (hp:s.q.g.us[j]? = some p) (h:unitF s ⟨k,(j:Int),lo,hi⟩ p = (f,true)):formM s ⟨k,(j:Int),lo,hi⟩ = (f,true):=by
 unfold formM
 rw [if_pos hk]
 exact unitM_t (by show ¬ ((j:Nat):Int) < 0;omega) hp h
theorem form_zero {j:Nat} {p:Af} (hp:s.q.g.us[j]? = some p):formM s ⟨5,(j:Int),0,0⟩ = (fV (s.q.g.inp + j),true):=
 form_unit (by decide) hp (by unfold unitF;rw [if_pos rfl];rfl)
theorem lem_at {j n:Nat} {up:Bool} {m:Lm} (hn:0 < n) (hm:s.lems[n - 1]? = some m) (hu:m.unit = (j:Int)) (hup:m.up = up):lem s.lems (n:Int) (j:Int) up = (m.v.q,true):=
 lem_yes (by omega) (by rw [show (((n:Nat):Int) - 1).toNat = n - 1 by omega];exact hm) ⟨hu,hup⟩
theorem form_on {j n:Nat} {p:Af} {m:Lm} (hp:s.q.g.us[j]? = some p) (hn:0 < n) (hm:s.lems[n - 1]? = some m) (hu:m.unit = (j:Int)) (hup:m.up = false) (hv:0≤m.v.q) :
  formM s ⟨8,(j:Int),(n:Int),0⟩ = (fSub p (fV (s.q.g.inp + j)),true):=
 form_unit (by decide) hp (by
  unfold unitF
  rw [if_neg (by simp),if_neg (by simp),if_neg (by simp),if_pos rfl]
  unfold onB lowB lowQ
  simp only [lem_at hn hm hu hup,sg_ge.2 hv]
  simp)
theorem form_off {j n:Nat} {p:Af} {m:Lm} (hp:s.q.g.us[j]? = some p) (hn:0 < n) (hm:s.lems[n - 1]? = some m) (hu:m.unit = (j:Int)) (hup:m.up = true) (hv:m.v.q≤0) :
  formM s ⟨10,(j:Int),0,(n:Int)⟩ = (fSc (fV (s.q.g.inp + j)) ((-1:Int):Rat),true):=
 form_unit (by decide) hp (by
  unfold unitF
  rw [if_neg (by simp),if_neg (by simp),if_neg (by simp),if_neg (by simp),if_neg (by simp),if_pos rfl]
  unfold offB topB topQ
  simp only [lem_at hn hm hu hup,sg_le.2 hv]
  simp)
theorem form_up {j n:Nat} {p:Af} {m:Lm} (hp:s.q.g.us[j]? = some p) (hn:0 < n) (hm:s.lems[n - 1]? = some m) (hu:m.unit = (j:Int)) (hup:m.up = true) :
  formM s ⟨12,(j:Int),0,(n:Int)⟩ = (fSub (fN m.v.q) p,true):=
 form_unit (by decide) hp (by
  unfold unitF
  rw [if_neg (by simp),if_neg (by simp),if_neg (by simp),if_neg (by simp),if_neg (by simp),if_neg (by simp),if_neg (by simp),if_pos rfl]
  unfold topB topQ
  simp only [lem_at hn hm hu hup]
  simp)
theorem form_tri {j n n':Nat} {p:Af} {m m':Lm} (hp:s.q.g.us[j]? = some p) (hn:0 < n) (hm:s.lems[n - 1]? = some m) (hu:m.unit = (j:Int)) (hup:m.up = false)
  (hn':0 < n') (hm':s.lems[n' - 1]? = some m') (hu':m'.unit = (j:Int)) (hup':m'.up = true) (hv:m.v.q < 0) (hv':0 < m'.v.q) :
  formM s ⟨13,(j:Int),(n:Int),(n':Int)⟩ = (fSub (fSc (fSub p (fN m.v.q)) m'.v.q) (fSc (fV (s.q.g.inp + j)) (m'.v.q - m.v.q)),true):=
 form_unit (by decide) hp (by
  unfold unitF
  rw [if_neg (by simp),if_neg (by simp),if_neg (by simp),if_neg (by simp),if_neg (by simp),if_neg (by simp),if_neg (by simp),if_neg (by simp),if_pos rfl]
  unfold lowB lowQ topB topQ
  simp only [lem_at hn hm hu hup,lem_at hn' hm' hu' hup',sg_lt.2 hv,sg_gt.2 hv']
  simp)
structure StepOk (s:Sc) (B:Nat) (l:List Mu):Prop where
 ok:∀ m∈l,(formM s m.r).2 = true
 pos:∀ m∈l,0 < m.c.q
 bd:MB B l
 len:l.length≤2
theorem one_step {r:Rw} {B:Nat} (h:(formM s r).2 = true):StepOk s (2 * B + 12) [⟨r,qOf ((1:Int):Rat)⟩]:=
 ⟨fun m hm=>by simp at hm;subst hm;exact h,fun m hm=>by simp at hm;subst hm;rw [qOf_q];decide,fun m hm=>by rw [List.mem_singleton] at hm;subst hm;exact Fq.of.mono (by omega),by simp⟩
theorem atLeast_ok {v B:Nat} (hq:QOk s.q) (hv:v < s.q.g.inp + s.q.g.us.length):StepOk s (2 * B + 12) (atLeast s.q.g.inp v):=by
 unfold atLeast
 split
 ·rename_i h
  have:=hq.r.lo
  obtain ⟨c,hc⟩:∃ c,s.q.r.lo[v]? = some c:=⟨_,List.getElem?_eq_getElem (by omega)⟩
  exact one_step (by rw [form_lo hc])
 ·obtain ⟨p,hp⟩:∃ p,s.q.g.us[v - s.q.g.inp]? = some p:=⟨_,List.getElem?_eq_getElem (by omega)⟩
  exact one_step (by rw [form_zero hp])
theorem atMost_ok {v B:Nat} {l:List Mu} (hq:QOk s.q) (hB:∀ m∈s.lems,Fq m.v B) (hv:v < s.q.g.inp + s.q.g.us.length) (h:atMost s.q.g.inp s.lems v = some l):StepOk s (4 * B + 12) l:=by
 have one:∀ {r:Rw},(formM s r).2 = true→StepOk s (4 * B + 12) [⟨r,qOf ((1:Int):Rat)⟩]:=fun h=>
  ⟨(one_step (B:=B) h).ok,(one_step (B:=B) h).pos,(one_step (B:=B) h).bd.mono (by omega),by simp⟩
 unfold atMost at h
 split at h
 ·rename_i hi
  cases h
  have:=hq.r.hi
  obtain ⟨c,hc⟩:∃ c,s.q.r.hi[v]? = some c:=⟨_,List.getElem?_eq_getElem (by omega)⟩
  exact one (by rw [form_hi hc])
 ·obtain ⟨p,hp⟩:∃ p,s.q.g.us[v - s.q.g.inp]? = some p:=⟨_,List.getElem?_eq_getElem (by omega)⟩
  split at h
  ·cases h
  ·rename_i hb
   obtain ⟨y,hy,yu,yp,hly,hy0,hyl⟩:=best_lo (fun e=>hb (.inl e))
   obtain ⟨z,hz,zu,zp,hlz,hz0,hzl⟩:=best_hi (fun e=>hb (.inr e))
   haveI:=hB y (List.mem_of_getElem? hy)
   haveI:=hB z (List.mem_of_getElem? hz)
   rw [hlz,hly] at h
   split at h
   ·rename_i hu
    cases h
    exact one (by rw [form_off hp hz0 hz zu zp hu])
   ·rename_i hu
    split at h
    ·rename_i hl
     cases h
     refine ⟨fun m hm=>?_,fun m hm=>?_,fun m hm=>?_,by simp⟩
     ·simp at hm
      rcases hm with rfl | rfl
      ·rw [form_on hp hy0 hy yu yp hl]
      ·rw [form_up hp hz0 hz zu zp]
     ·simp at hm
      rcases hm with rfl | rfl <;> rw [qOf_q] <;> decide
     ·simp only [List.mem_cons,List.not_mem_nil,or_false] at hm
      rcases hm with rfl | rfl <;> exact Fq.of.mono (by omega)
    ·rename_i hl
     cases h
     have h1:0 < z.v.q:=by grind
     have h2:0 < z.v.q - y.v.q:=by grind
     have h3:0 < ((1:Int):Rat) / (z.v.q - y.v.q):=by
      rw [Rat.div_def]
      exact Rat.mul_pos (by decide) (Rat.inv_pos.2 h2)
     refine ⟨fun m hm=>?_,fun m hm=>?_,fun m hm=>?_,by simp⟩
     ·simp at hm
      rcases hm with rfl | rfl
      ·rw [form_up hp hz0 hz zu zp]
      ·rw [form_tri hp hy0 hy yu yp hz0 hz zu zp (by grind) h1]
     ·simp only [List.mem_cons,List.not_mem_nil,or_false] at hm
      rcases hm with rfl | rfl
      ·show 0 < (qOf _).q
       rw [qOf_q];exact Rat.mul_pos h3 h1
      ·show 0 < (qOf _).q
       rw [qOf_q];exact h3
     ·simp only [List.mem_cons,List.not_mem_nil,or_false] at hm
      rcases hm with rfl | rfl <;> exact Fq.of.mono (by omega)
theorem plusM_mem {l:List Mu} {r:Rw} {c:Rat} {x:Mu} (h:x∈plusM l r c):x.r = r ∨ x∈l:=by
 unfold plusM at h
 split at h
 ·exact .inr h
 ·exact insM_mem h
theorem mergeM_ok {c:Rat} {P:Rw→Prop}:∀ {b a:List Mu},(∀ m∈a,P m.r)→(∀ m∈b,P m.r)→∀ m∈mergeM a b c,P m.r
 | [],a,h,_=>h
 | x :: b,a,h,hb=>mergeM_ok (b:=b) (a:=plusM a x.r (x.c.q * c)) (fun m hm=>by
   rcases plusM_mem hm with e | hm
   ·rw [e];exact hb x (by simp)
   ·exact h m hm) (fun m hm=>hb m (by simp [hm]))
structure DerOk (s:Sc) (B n:Nat) (l:List Mu):Prop where
 ok:∀ m∈l,(formM s m.r).2 = true
 can:CanM l
 bd:MB B l
 len:l.length≤n
theorem abst_ok {B C n:Nat} {a:List Mu × Bool} {t:Tm} (hq:QOk s.q) (hB:∀ m∈s.lems,Fq m.v B) (hv:t.1 < s.q.g.inp + s.q.g.us.length) (ht:Br t.2 6) (h:DerOk s C n a.1) :
  DerOk s (C + 8 * B + 50) (n + 2) (abst s.q.g.inp s.lems a t).1:=by
 have mg:∀ {l:List Mu},StepOk s (4 * B + 12) l→DerOk s (C + 8 * B + 50) (n + 2) (mergeM a.1 l (rq false (cnum t.2) (cden t.2))):=fun {l} hs=>
  ⟨mergeM_ok (P:=fun r=>(formM s r).2 = true) h.ok hs.ok,mergeM_can (abs_nonneg _) h.can hs.pos,(mergeM_bd h.bd hs.bd).mono (by
   have:=Nat.mul_le_mul_right (4 * B + 12 + (6 + 1) + 2) hs.len
   omega),by have:=mergeM_len l a.1 (rq false (cnum t.2) (cden t.2));have:=h.len;have:=hs.len;omega⟩
 unfold abst
 split
 ·split
  ·have h2:=atLeast_ok (B:=2 * B) hq hv
   exact mg ⟨h2.ok,h2.pos,h2.bd.mono (by omega),h2.len⟩
  ·split
   ·rename_i l hl
    exact mg (atMost_ok hq hB hv hl)
   ·exact ⟨fun m hm=>by simp at hm,trivial,fun m hm=>by simp at hm,by simp⟩
 ·exact ⟨h.ok,h.can,h.bd.mono (by omega),Nat.le_trans h.len (by omega)⟩
theorem absn_ok {B:Nat} (hq:QOk s.q) (hB:∀ m∈s.lems,Fq m.v B):∀ (ts:List Tm) (a:List Mu × Bool) (C n:Nat),(∀ t∈ts,t.1 < s.q.g.inp + s.q.g.us.length∧Br t.2 6)→DerOk s C n a.1 →
  DerOk s (C + ts.length * (8 * B + 50)) (n + 2 * ts.length) (ts.foldl (abst s.q.g.inp s.lems) a).1
 | [],a,C,n,_,h=>⟨h.ok,h.can,h.bd.mono (by omega),Nat.le_trans h.len (by omega)⟩
 | t :: ts,a,C,n,ht,h=>by
  have h1:=abst_ok (t:=t) hq hB (ht t (by simp)).1 (ht t (by simp)).2 h
  have h2:=absn_ok hq hB ts _ _ _ (fun x hx=>ht x (by simp [hx])) h1
  refine ⟨h2.ok,h2.can,h2.bd.mono ?_,Nat.le_trans h2.len ?_⟩
  ·simp only [List.length_cons,Nat.add_mul];omega
  ·simp only [List.length_cons];omega
theorem der_nil:DerOk s 0 0 []:=⟨fun m hm=>by simp at hm,trivial,fun m hm=>by simp at hm,by simp⟩
theorem abs_ok {B b:Nat} {f:Af} (hq:QOk s.q) (hB:∀ m∈s.lems,Fq m.v B) (hf:FOk b (s.q.g.inp + s.q.g.us.length) f) (hb:b≤5) (i:Nat):DerOk s (7 * (8 * B + 50)) 14 (absn s.q.g.inp s.lems (f.ts.take i)).1:=by
 have h:=absn_ok hq hB (f.ts.take i) ([],true) 0 0 (fun t ht=>⟨hf.var t (List.mem_of_mem_take ht),(hf.bd t (List.mem_of_mem_take ht)).br.mono (by omega)⟩) der_nil
 have hl:(f.ts.take i).length≤7:=by rw [List.length_take];have:=hf.len;have:=hq.g.i3;have:=hq.g.u4;omega
 refine ⟨h.ok,h.can,h.bd.mono ?_,Nat.le_trans h.len (by omega)⟩
 have:=Nat.mul_le_mul_right (8 * B + 50) hl
 omega
end
def abL (s:Sc) (f:Af):List Mu:=(absn s.q.g.inp s.lems f.ts).1
def abB (s:Sc) (f:Af):Bool:=(absn s.q.g.inp s.lems f.ts).2
def abQ (s:Sc) (f:Af):Rat:=if abB s f = true then (fSub f (sumM s (abL s f))).c else 0
theorem absn_f {inp:Nat} {lems:List Lm}:∀ (ts:List Tm) (a:List Mu × Bool),(a.2 = false→a.1 = [])→(ts.foldl (abst inp lems) a).2 = false→(ts.foldl (abst inp lems) a).1 = []
 | [],a,h,h2=>h h2
 | t :: ts,a,h,h2=>absn_f ts _ (fun h3=>by
   unfold abst at h3 ⊢
   split at h3
   ·rename_i ha
    rw [if_pos ha]
    split at h3
    ·simp at h3
    ·rename_i hs
     rw [if_neg hs]
     split at h3
     ·simp at h3
     ·rename_i he;simp only [he]
   ·rename_i ha
    rw [if_neg ha];exact h h3) h2
theorem abL_f {s:Sc} {f:Af} (h:abB s f = false):abL s f = []:=absn_f _ _ (fun h=>by simp at h) h
theorem abB_bad {s:Sc} {f:Af} {i:Nat} (h:(absn s.q.g.inp s.lems (f.ts.take i)).2 = false):abB s f = false:=absn_bad h
section
variable {inp:Nat} {lems:List Lm} {out:List Mu} {t:Tm}
theorem abst_pos (h:0 < t.2):abst inp lems (out,true) t = (mergeM out (atLeast inp t.1) (rq false (cnum t.2) (cden t.2)),true):=by
 unfold abst;rw [if_pos rfl,if_pos h]
theorem abst_some (h:¬ 0 < t.2) (hl:(atMost inp lems t.1).isSome = true):abst inp lems (out,true) t = (mergeM out ((atMost inp lems t.1).getD []) (rq false (cnum t.2) (cden t.2)),true):=by
 obtain ⟨l,hl⟩:=Option.isSome_iff_exists.1 hl
 unfold abst;rw [if_pos rfl,if_neg h,hl];rfl
theorem abst_none (h:¬ 0 < t.2) (hl:(atMost inp lems t.1).isSome = false):(abst inp lems (out,true) t).2 = false:=by
 have hl:atMost inp lems t.1 = none:=by simpa using hl
 unfold abst;rw [if_pos rfl,if_neg h,hl]
end
theorem getD_ok {s:Sc} {B v:Nat} (hq:QOk s.q) (hB:∀ m∈s.lems,Fq m.v B) (hv:v < s.q.g.inp + s.q.g.us.length):MB (4 * B + 12) ((atMost s.q.g.inp s.lems v).getD [])∧((atMost s.q.g.inp s.lems v).getD []).length≤2:=by
 cases h:atMost s.q.g.inp s.lems v with
 | none=>exact ⟨fun m hm=>by simp at hm,by simp⟩
 | some l=>have:=atMost_ok hq hB hv h;exact ⟨this.bd,this.len⟩
end Rc
set_option linter.unusedSimpArgs false
set_option linter.unusedVariables false
namespace Go.Proofs.YtjdbopkbfkgpdaaGreatDoor
open Go Go.RowKit Rc
set_option maxRecDepth 10000 in
theorem canon_r (l:List Mu) {B:Nat} (hc:CanM l) (hB:MB B l) (hB2:B≤100000000000) (hl:l.length≤100000):Ctr Tryz.prog 153 [V.one (El.row muE l)] (R.one (V.one (Leaf.val (.bool true)))):=by
 refine Ctr.of_body Tryz.func153 rfl Tryz.ntmps153 (Nat.le_of_ble_eq_true rfl) (fun w0 A0=>?_)
 refine c_a (a_ FT 1 rfl (cns (c_a (a_ FT 1 rfl (c_n (Tc_block (Tc_loopR (fun m Γ H=>∃ (i:Nat),l.length - i = m∧Γ = [(0,some (D.v (V.one (El.row muE l)))),(3,some (D.val (.int .i64 ((i:Nat):Int))))]∧H = []∧i≤l.length) ⟨0,rfl,rfl,rfl,Nat.zero_le _⟩ ⟨rfl,rfl,trivial⟩ ?_)))))))
 rintro m Γ H ⟨i,rfl,rfl,rfl,hi0⟩
 refine Tc_seq (c_a (a_ FT 2 rfl (t_q rfl (Jq_len rfl rfl un62) ?_)))
 by_cases hi:i < l.length
 ·refine t_q rfl (Jq_lss rfl rfl rfl (b:=true) (dT (by omega))) (c_n (Tc_t rfl (c_b (Tc_seq (Tc_block (Tc_seq ?_))))))
  obtain ⟨x,hx⟩:∃ x,l[i]? = some x:=⟨_,List.getElem?_eq_getElem hi⟩
  haveI hxB:=hB x (List.mem_of_getElem? hx)
  obtain ⟨hpos,hcx⟩:=hc.pos x (List.mem_of_getElem? hx)
  refine Tc_drawK 0 [none,none,none,none,none,none,none,none,none,none,none,none,none,none,none,none,none,none,none,none,none,none,none,none,none,none,none,none,none,none,none,none,none,none,none] [] follows (by kernel_rfl) (d_ FT 2 rfl (dq_ rfl rfl (Jq_indexX muE l (i) rfl rfl rfl un62 ty107 hx) (dq_ rfl rfl (Jq_fieldAddr_ref rfl rfl fo107_1 rfl) ?_)))
  refine dq_ rfl rfl (Jq_load_ref_agg rfl rfl ty34 rfl) (DK_c rfl rfl (Jd_call rfl fn70 rfl (rqvalid x.c (x.c.q) rfl (Fq.use (x:=x.c) (by omega)))) (DK_is true (isC_iff.2 hcx) (d_ FT 4 rfl (DK_q (JO_qg rfl rfl rfl rfl (Jq_indexX muE l (i) rfl rfl rfl un62 ty107 hx)) (DK_q (JO_qg rfl rfl rfl rfl (Jq_fieldAddr_ref rfl rfl fo107_1 rfl)) ?_)))))
  refine DK_q (JO_qg rfl rfl rfl rfl (Jq_load_ref_agg rfl rfl ty34 rfl)) (DK_cg rfl rfl rfl rfl (Jd_call rfl fn63 rfl (rqsign x.c (x.c.q) rfl (Fq.use (x:=x.c) (by omega)))) (DK_q (JO_qg rfl rfl rfl rfl (Jq_leq rfl rfl rfl (b:=false) (dF (by have:=sg_gt.2 hpos;omega)))) (d_ FT 3 rfl ?_)))
  by_cases hi1:0 < i
  ·refine DK_q (JO_qg rfl rfl rfl rfl (Jq_gtr rfl rfl rfl (b:=true) (dT (by omega)))) (d_ FT 1 rfl ?_)
   obtain ⟨y,hy⟩:∃ y,l[i - 1]? = some y:=⟨_,List.getElem?_eq_getElem (by omega)⟩
   refine d_ FT 2 rfl (DK_q (JO_qg rfl rfl rfl rfl (Jq_sub rfl rfl rfl (r:=((i - 1:Nat):Int)) (w64 (by omega) (by omega) (by omega)))) (DK_q (JO_qg rfl rfl rfl rfl (Jq_indexX muE l (i - 1) rfl rfl rfl un62 ty107 hy)) (DK_q (JO_qg rfl rfl rfl rfl (Jq_fieldAddr_refT rfl rfl fo107_0 rfl rfl)) (DK_q (JO_qg rfl rfl rfl rfl (Jq_load_ref_agg rfl rfl ty105 rfl)) (d_ FT 2 rfl ?_)))))
   refine DK_q (JO_qg rfl rfl rfl rfl (Jq_indexX muE l (i) rfl rfl rfl un62 ty107 hx)) (DK_q (JO_qg rfl rfl rfl rfl (Jq_fieldAddr_refT rfl rfl fo107_0 rfl rfl)) (DK_q (JO_qg rfl rfl rfl rfl (Jq_load_ref_agg rfl rfl ty105 rfl)) (DK_cg rfl rfl rfl rfl (Jd_call rfl fn114 rfl (less_r y.r x.r)) (DK_is true (hc.prev hi1 hx hy) (d_ FT 3 rfl (DK_nil (At_then (Tc_f rfl (Tc_skipA ?_)))))))))
   refine At_block (At_then (Tc_region (a_ FT 1 rfl (t_q rfl (Jq_add rfl rfl rfl (r:=((i + 1:Nat):Int)) (w64 (by omega) (by omega) (by omega))) (a_ FT 1 rfl (Tl_end ?_))))))
   exact At_next (m':=l.length - (i + 1)) (by omega) ⟨i + 1,rfl,rfl,rfl,hi⟩ ⟨rfl,rfl,trivial⟩
  ·refine DK_q (JO_qg rfl rfl rfl rfl (Jq_gtr rfl rfl rfl (b:=false) (dF (by omega)))) (d_ FT 16 rfl (DK_nil (At_then (Tc_f rfl (Tc_skipA (At_block (At_then (Tc_region (a_ FT 1 rfl ?_)))))))))
   refine t_q rfl (Jq_add rfl rfl rfl (r:=((i + 1:Nat):Int)) (w64 (by omega) (by omega) (by omega))) (a_ FT 1 rfl (Tl_end ?_))
   exact At_next (m':=l.length - (i + 1)) (by omega) ⟨i + 1,rfl,rfl,rfl,hi⟩ ⟨rfl,rfl,trivial⟩
 ·refine t_q rfl (Jq_lss rfl rfl rfl (b:=false) (dF (by omega))) (c_n (Tc_f rfl (Tc_exitA (At_then_exit (At_then_exit (At_block_exit (At_then (c_a (a_ FT 1 rfl ?_)))))))))
  refine c_n ?_
  exact Tc_ret1 hq_ rfl rfl rfl
set_option maxRecDepth 10000 in
set_option maxHeartbeats 2000000 in
theorem sum_r (s:Sc) {B:Nat} (hB:∀ m∈s.lems,Fq m.v B) (hB2:B≤10000000) (hl:s.lems.length≤1000000) {b:Nat} (hq:QOk s.q) (hd:∀ d∈s.path,DOk b s.q d) (hb:b≤1000000) (hpl:s.path.length≤1000) (l:List Mu) {C:Nat} (hc:CanM l) (hm:MB C l) (hC:C≤600000000) (hok:∀ m∈l,(formM s m.r).2 = true) (hll:l.length≤50):Ctr Tryz.prog 120 [scV s,V.one (El.row muE l)] (R.tup [afV (sumM s l),V.one (Leaf.val (.int .i64 0))]):=by
 refine Ctr.of_body Tryz.func120 rfl Tryz.ntmps120 (Nat.le_of_ble_eq_true rfl) (fun w0 A0=>?_)
 have hg:=hq.g;have hr:=hq.r;have hlo:=hr.lo;have hhi:=hr.hi
 have h1:=hg.i1;have h2:=hg.i3;have h3:=hg.u4;have h4:=hg.o1;have h5:=hg.o3
 refine c_a (t_f rfl (Je_box (n:=0) rfl rfl rfl) (t_f rfl (Je_alloc (n:=1) rfl tz36 rfl) (a_ FT 1 rfl (cns (c_a (a_ FT 1 rfl (t_f rfl (Je_call rfl fn153 rfl (canon_r l (by assumption) (by assumption) (by omega) (by omega))) (a_ FT 1 rfl (c_n ?_)))))))))
 refine Tc_f rfl (c_b (c_a (t_f rfl (Je_alloc (n:=2) rfl tz36 rfl) (cns (c_a (a_ FT 1 rfl (c_n (Tc_block ?_))))))))
 refine Tc_loopR (fun m Γ H=>∃ (i:Nat) (out:Af),l.length - i = m∧Γ = [(1,some (D.v (V.one (El.row muE l)))),(2,some (D.ptr 0 0)),(4,some (D.ptr 1 0)),(6,some (D.ptr 2 0)),(7,some (D.val (.int .i64 ((i:Nat):Int))))]∧H = [hb_ 42 (scL s),hb_ 36 [El.row tmE ([]),Leaf.val (.bool false),natL ([]),natL ([])],hb_ 36 (afL out)]∧i≤l.length∧out = sumM s (l.take i)) ⟨0,fZ,rfl,rfl,(by unfold afL;rw [fZ_ls];rfl),Nat.zero_le _,rfl⟩ ⟨rfl,rfl,rfl,rfl,rfl,trivial⟩ ?_
 rintro m Γ H ⟨i,out,rfl,rfl,rfl,hi0,hout⟩
 refine Tc_seq (c_a (a_ FT 2 rfl (t_q rfl (Jq_len rfl rfl un62) ?_)))
 by_cases hi:i < l.length
 ·refine t_q rfl (Jq_lss rfl rfl rfl (b:=true) (dT (by omega))) (c_n (Tc_t rfl (c_b (Tc_seq (Tc_block (Tc_seq ?_))))))
  obtain ⟨x,hx⟩:∃ x,l[i]? = some x:=⟨_,List.getElem?_eq_getElem hi⟩
  have hxm:=List.mem_of_getElem? hx
  haveI hxB:=hm x hxm
  have hf:=formM_fl (r:=x.r) hq hd hB
  have hsc:=FL.sc (c:=x.c.q) hf
  have ho:FL (50 * (4 * B + b + C + 42)) (s.q.g.inp + s.q.g.us.length) out:=by
   rw [hout]
   refine (sumM_fl hq hd hB hm.take).mono ?_ (Nat.le_refl _)
   exact Nat.mul_le_mul_right _ (by rw [List.length_take];omega)
  haveI:=hf.fm (by omega);haveI:=hf.cb
  haveI:=hsc.fm (by omega);haveI:=hsc.cb
  haveI:=ho.fm (by omega);haveI:=ho.cb
  refine Tc_drawK 1 [none,none,none,none,none,none,none,none,none,none,some 3,some 3,none] [3] follows (by kernel_rfl) (d_ FT 3 rfl (dq_ rfl rfl (Jq_indexX muE l (i) rfl rfl rfl un62 ty107 hx) (dq_ rfl rfl (Jq_fieldAddr_refT rfl rfl fo107_0 rfl rfl) (dq_ rfl rfl (Jq_load_ref_agg rfl rfl ty105 rfl) ?_))))
  refine DK_c rfl rfl (Jd_call rfl fn72 rfl (form_r s hB (by omega) (by omega) hq hd (by omega) (by omega) x.r)) (d_ FT 3 rfl (DK_is true (hok x hxm) (DK_s 3 rfl rfl rfl (Jd_alloc (i:=3) rfl tz36 rfl) (DK_s 3 rfl rfl rfl (Jd_store rfl rfl rfl rfl ty36 rfl (by decide) (Nat.le_of_ble_eq_true rfl) rfl) (d_ FT 1 rfl (DK_nil (At_then (Tc_seq (c_a ?_)))))))))
  refine a_ FT 2 rfl (c_n (Tc_f rfl (c_b (Tc_drawK 0 [none,none,none,none,none,none,none,none,none,some 2] [2] follows (by kernel_rfl) (DK_qp [] (JO_q rfl rfl (Jq_load_agg rfl rfl rfl (by decide) ty36 (by decide) (Nat.le_of_ble_eq_true rfl) rfl)) (by kernel_rfl) (d_ FT 3 rfl (dq_ rfl rfl (Jq_indexX muE l (i) rfl rfl rfl un62 ty107 hx) ?_)))))))
  refine dq_ rfl rfl (Jq_fieldAddr_ref rfl rfl fo107_1 rfl) (dq_ rfl rfl (Jq_load_ref_agg rfl rfl ty34 rfl) (DK_eq (D.agg (qL x.c.q)) (dq_can (hc.pos x hxm).2) (DK_c rfl rfl (Jd_call rfl fn48 rfl (rscale_w (formM s x.r).1 x.c.q (by omega) (by omega))) (DK_c rfl rfl (Jd_call rfl fn111 rfl (radd7_w out (fSc (formM s x.r).1 x.c.q) (by omega) (by omega) (by omega))) ?_))))
  refine DK_s 2 rfl rfl rfl (Jd_store rfl rfl rfl rfl ty36 rfl (by decide) (Nat.le_of_ble_eq_true rfl) rfl) (DK_nil (At_block (At_then (Tc_region (a_ FT 1 rfl (t_q rfl (Jq_add rfl rfl rfl (r:=((i + 1:Nat):Int)) (w64 (by omega) (by omega) (by omega))) (a_ FT 1 rfl (Tl_end (At_free 3 ?_)))))))))
  refine trim_ 3 rfl ?_
  exact At_next (m':=l.length - (i + 1)) (by omega) ⟨i + 1,_,rfl,rfl,rfl,hi,by rw [hout];exact (sumM_take hx).symm⟩ ⟨rfl,rfl,rfl,rfl,rfl,trivial⟩
 ·refine t_q rfl (Jq_lss rfl rfl rfl (b:=false) (dF (by omega))) (c_n (Tc_f rfl (Tc_exitA (At_then_exit (At_then_exit (At_block_exit (At_then (Tc_seq ?_))))))))
  have hie:i = l.length:=by omega
  rw [hie,List.take_length] at hout
  refine Tc_region (a_ FT 3 rfl (c_n ?_))
  exact Tc_ret2 hq_ rfl (rA ty36 rfl rfl rfl rfl) rfl (by rw [← hout];rfl)
end Go.Proofs.YtjdbopkbfkgpdaaGreatDoor
set_option linter.unusedSimpArgs false
set_option linter.unusedVariables false
namespace Go.Proofs.YtjdbopkbfkgpdaaGreatDoor
open Go Go.RowKit Rc
theorem merge_w (a b:List Mu) (c:Rat) {B C K:Nat} (hA:MB B a) (hB:MB C b) [Br c K] (h1:B≤10000000000) (h2:C≤1000000000) (h3:K≤1000000000) (hl:a.length≤10000) (hlb:b.length≤2):Ctr Tryz.prog 119 [V.one (El.row muE a),V.one (El.row muE b),V.agg (qL (c))] (R.one (V.one (El.row muE (mergeM a b c)))):=
 merge_r a b c hA hB (by have:=Nat.mul_le_mul_right (C + K + 2) hlb;omega) hl (by omega)
set_option maxRecDepth 10000 in
set_option maxHeartbeats 2000000 in
theorem above_r (s:Sc) {B:Nat} (hB:∀ m∈s.lems,Fq m.v B) (hB2:B≤10000000) (hl:s.lems.length≤1000000) {b:Nat} (hq:QOk s.q) (hd:∀ d∈s.path,DOk b s.q d) (hb:b≤1000000) (hpl:s.path.length≤1000) (f:Af) {bf:Nat} (hf:FOk bf (s.q.g.inp + s.q.g.us.length) f) (hb5:bf≤5):Ctr Tryz.prog 79 [scV s,afV f] (R.tup [qV (qOf (abQ s f)),V.one (El.row muE (abL s f)),V.one (Leaf.val (.bool (abB s f)))]):=by
 refine Ctr.of_body Tryz.func79 rfl Tryz.ntmps79 (Nat.le_of_ble_eq_true rfl) (fun w0 A0=>?_)
 have hg:=hq.g;have hr:=hq.r;have hlo:=hr.lo;have hhi:=hr.hi
 have h1:=hg.i1;have h2:=hg.i3;have h3:=hg.u4;have h4:=hg.o1;have h5:=hg.o3
 have hfl:=hf.len
 refine c_a (t_f rfl (Je_box (n:=0) rfl rfl rfl) (t_f rfl (Je_box (n:=1) rfl rfl rfl) (t_f rfl (Je_alloc (n:=2) rfl tz34 rfl) (t_q rfl (Jq_assign_nil rfl) (a_ FT 1 rfl (cna (t_q rfl (Jq_assign_nil rfl) (cns (c_a ?_)))))))))
 refine a_ FT 1 rfl (c_n (Tc_block ?_))
 refine Tc_loopR (fun m Γ H=>∃ (i:Nat) (out:List Mu),f.ts.length - i = m∧Γ = [(2,some (D.ptr 0 0)),(3,some (D.ptr 1 0)),(4,some (D.ptr 2 0)),(7,some (D.v (V.one (El.row muE out)))),(8,some (D.val (.int .i64 ((i:Nat):Int))))]∧H = [hb_ 42 (scL s),hb_ 36 (afL f),hb_ 34 [Leaf.val (.bool false),natL ([]),natL ([])]]∧i≤f.ts.length∧absn s.q.g.inp s.lems (f.ts.take i) = (out,true)) ⟨0,[],rfl,rfl,rfl,Nat.zero_le _,rfl⟩ ⟨rfl,rfl,rfl,rfl,rfl,trivial⟩ ?_
 rintro m Γ H ⟨i,out,rfl,rfl,rfl,hi0,habs⟩
 refine Tc_seq (c_a (a_ FT 3 rfl (t_q rfl (Jq_len rfl rfl un30) ?_)))
 by_cases hi:i < f.ts.length
 ·refine t_q rfl (Jq_lss rfl rfl rfl (b:=true) (dT (by omega))) (c_n (Tc_t rfl (c_b (Tc_seq (Tc_block (Tc_seq ?_))))))
  obtain ⟨x,hx⟩:∃ x,f.ts[i]? = some x:=⟨_,List.getElem?_eq_getElem hi⟩
  have hxm:=List.mem_of_getElem? hx
  haveI hxb:=(hf.bd x hxm).br
  have hxv:=hf.var x hxm
  have hder:=abs_ok hq hB hf hb5 i
  rw [habs] at hder
  have hMB:MB (7 * (8 * B + 50)) out:=hder.bd
  have hol:out.length≤14:=hder.len
  have hsl:=atLeast_ok (B:=B) hq hxv
  have hM1:MB (2 * B + 12) (atLeast s.q.g.inp x.1):=hsl.bd
  have hM1l:(atLeast s.q.g.inp x.1).length≤2:=hsl.len
  obtain ⟨hM2,hM2l⟩:=getD_ok (v:=x.1) hq hB hxv
  refine Tc_region (a_ FT 3 rfl (t_q rfl (Jq_indexX tmE f.ts (i) rfl rfl rfl un30 ty68 hx) (t_q rfl (Jq_load_ref_agg rfl rfl ty68 rfl) (t_f rfl (Je_alloc (n:=3) rfl tz68 rfl) (a_ FT 1 rfl (cna (a_ FT 3 rfl (t_f rfl (Je_call rfl fn117 rfl (atmost_r s (by assumption) (by omega) (by omega) (by omega) x.1 (by omega))) (a_ FT 5 rfl ?_)))))))))
  refine cns (c_a (a_ FT 2 rfl (t_f rfl (Je_call rfl fn63 rfl (rqsign (qOf (x.2)) (x.2) (qOf_q _) (Br.use (by omega)))) ?_)))
  by_cases hpos:0 < x.2
  ·refine t_q rfl (Jq_gtr rfl rfl rfl (b:=true) (dT (sg_gt.2 hpos))) (c_n (Tc_t rfl (Tc_region (a_ FT 3 rfl (t_f rfl (Je_call rfl fn118 rfl (atleast_r s (by omega) x.1 (by omega))) (a_ FT 2 rfl (cns (c_a (a_ FT 2 rfl ?_)))))))))
   refine c_n (Tc_f rfl (c_b (c_a (a_ FT 2 rfl (t_f rfl (Je_alloc (n:=4) rfl tz34 rfl) (a_ FT 1 rfl (cna (a_ FT 2 rfl (c_n ?_)))))))))
   refine Tc_region (a_ FT 3 rfl (Tl_eq (D.agg (qL (rq false (cnum x.2) (cden x.2)))) (abs_ls x.2) (t_f rfl (Je_call rfl fn119 rfl (merge_w out (atLeast s.q.g.inp x.1) (rq false (cnum x.2) (cden x.2)) (by assumption) (by assumption) (by omega) (by omega) (by omega) (by omega) (by omega))) (a_ FT 1 rfl (Tl_end (At_block (At_then (Tc_region (a_ FT 1 rfl ?_)))))))))
   refine t_q rfl (Jq_add rfl rfl rfl (r:=((i + 1:Nat):Int)) (w64 (by omega) (by omega) (by omega))) (a_ FT 1 rfl (Tl_end (At_free 3 (At_free 4 (trim_ 3 rfl ?_)))))
   exact At_next (m':=f.ts.length - (i + 1)) (by omega) ⟨i + 1,_,rfl,rfl,rfl,hi,by rw [absn_take hx,habs];exact abst_pos hpos⟩ ⟨rfl,rfl,rfl,rfl,rfl,trivial⟩
  ·refine t_q rfl (Jq_gtr rfl rfl rfl (b:=false) (dF (fun e=>hpos (sg_gt.1 e)))) (c_n (Tc_f rfl (c_b (Tc_seq (Tc_seq ?_)))))
   by_cases hm:(atMost s.q.g.inp s.lems x.1).isSome = true
   ·refine Tc_region (a_ FT 1 rfl (Tl_is true (hm) (a_ FT 1 rfl (c_n (Tc_f rfl (c_b (c_a (a_ FT 2 rfl (t_f rfl (Je_alloc (n:=4) rfl tz34 rfl) ?_)))))))))
    refine a_ FT 1 rfl (cna (a_ FT 2 rfl (c_n (Tc_region (a_ FT 3 rfl (Tl_eq (D.agg (qL (rq false (cnum x.2) (cden x.2)))) (abs_ls x.2) (t_f rfl (Je_call rfl fn119 rfl (merge_w out ((atMost s.q.g.inp s.lems x.1).getD []) (rq false (cnum x.2) (cden x.2)) (by assumption) (by assumption) (by omega) (by omega) (by omega) (by omega) (by omega))) (a_ FT 1 rfl (Tl_end ?_)))))))))
    refine At_block (At_then (Tc_region (a_ FT 1 rfl (t_q rfl (Jq_add rfl rfl rfl (r:=((i + 1:Nat):Int)) (w64 (by omega) (by omega) (by omega))) (a_ FT 1 rfl (Tl_end (At_free 3 (At_free 4 (trim_ 3 rfl ?_)))))))))
    exact At_next (m':=f.ts.length - (i + 1)) (by omega) ⟨i + 1,_,rfl,rfl,rfl,hi,by rw [absn_take hx,habs];exact abst_some hpos hm⟩ ⟨rfl,rfl,rfl,rfl,rfl,trivial⟩
   ·refine Tc_region (a_ FT 1 rfl (Tl_is false (by simpa using hm) (a_ FT 1 rfl (c_n (Tc_t rfl (Tc_seq ?_))))))
    have hbad:abB s f = false:=abB_bad (i:=i + 1) (by rw [absn_take hx,habs];exact abst_none hpos (by simpa using hm))
    refine Tc_region (t_q rfl (Jq_build rfl tz34 rfl pl34 rfl) (a_ FT 1 rfl (t_q rfl (Jq_assign_nil rfl) (a_ FT 1 rfl (c_n ?_)))))
    exact Tc_ret3 hq_ rfl (rA ty34 rfl rfl rfl rfl) rfl rfl (by unfold abQ;rw [abL_f hbad,hbad,if_neg (by decide)];show _ = R.tup [qV (qOf 0),_,_];rw [← qV_zero];rfl)
 ·refine t_q rfl (Jq_lss rfl rfl rfl (b:=false) (dF (by omega))) (c_n (Tc_f rfl (Tc_exitA (At_then_exit (At_then_exit (At_block_exit (At_then (Tc_seq ?_))))))))
  have hie:i = f.ts.length:=by omega
  rw [hie,List.take_length] at habs
  have hder:=abs_ok hq hB hf hb5 f.ts.length
  rw [List.take_length,habs] at hder
  have hMB:MB (7 * (8 * B + 50)) out:=hder.bd
  have hol:out.length≤14:=hder.len
  have hcan:CanM out:=hder.can
  have hok:∀ m∈out,(formM s m.r).2 = true:=hder.ok
  have hB3:abB s f = true:=by unfold abB;rw [habs]
  have hL:abL s f = out:=by unfold abL;rw [habs]
  have hfm:=hf.fl
  have hsm:FL (14 * (4 * B + b + 7 * (8 * B + 50) + 42)) (s.q.g.inp + s.q.g.us.length) (sumM s out):=(sumM_fl hq hd hB hMB).mono (Nat.mul_le_mul_right _ hol) (Nat.le_refl _)
  haveI:=hfm.fm (by omega);haveI:=hfm.cb
  haveI:=hsm.fm (by omega);haveI:=hsm.cb
  refine Tc_region (a_ FT 2 rfl (t_f rfl (Je_call rfl fn120 rfl (sum_r s hB (by omega) (by omega) hq hd (by omega) (by omega) out (by assumption) (by assumption) (by omega) (by assumption) (by omega))) (a_ FT 3 rfl (t_f rfl (Je_alloc (n:=3) rfl tz36 rfl) (a_ FT 2 rfl (cna (a_ FT 2 rfl (t_f rfl (Je_call rfl fn73 rfl (rsub7 f (sumM s out) (by omega) (by omega) (by omega))) ?_))))))))
  refine t_q rfl (Jq_fieldTA rfl rfl ft36_1 ty34 rfl) (a_ FT 4 rfl (c_n ?_))
  exact Tc_ret3 hq_ rfl (rA ty34 rfl rfl rfl rfl) rfl rfl (by rw [hL,hB3];unfold abQ;rw [hB3,if_pos rfl,hL];rfl)
end Go.Proofs.YtjdbopkbfkgpdaaGreatDoor
set_option linter.unusedSimpArgs false
set_option linter.unusedVariables false
namespace Rc
open Go Go.RowKit
def W (φ:Rw→Rat):List Mu→Rat
 | []=>0
 | m :: l=>m.c.q * φ m.r + W φ l
theorem W_ins (φ:Rw→Rat) (r:Rw) (c:Rat):∀ l:List Mu,W φ (insM l r c) = W φ l + c * φ r
 | []=>by simp only [insM,W,qOf_q];grind
 | m :: l=>by
  unfold insM
  split
  ·simp only [W,W_ins φ r c l];grind
  ·split
   ·rename_i h;simp only [W,qOf_q,h];grind
   ·simp only [W,qOf_q];grind
theorem W_plus (φ:Rw→Rat) (r:Rw) (c:Rat) (l:List Mu):W φ (plusM l r c) = W φ l + c * φ r:=by
 unfold plusM;split
 ·rename_i h;subst h;grind
 ·exact W_ins φ r c l
theorem W_merge (φ:Rw→Rat) (c:Rat):∀ (b a:List Mu),W φ (mergeM a b c) = W φ a + c * W φ b
 | [],a=>by simp only [mergeM,List.foldl_nil,W];grind
 | m :: b,a=>by
  have e:mergeM a (m :: b) c = mergeM (plusM a m.r (m.c.q * c)) b c:=rfl
  rw [e,W_merge φ c b,W_plus]
  simp only [W];grind
def rowC (s:Sc) (r:Rw):Rat:=(formM s r).1.c
theorem sumC_foldl (s:Sc):∀ (l:List Mu) (a:Af),(l.foldl (fun a m=>fAdd a (fSc (formM s m.r).1 m.c.q)) a).c = a.c + W (rowC s) l
 | [],a=>by simp only [List.foldl_nil,W];grind
 | m :: l,a=>by
  rw [List.foldl_cons,sumC_foldl s l]
  simp only [W,fAdd,fSc,rowC];grind
theorem sumM_c (s:Sc) (l:List Mu):(sumM s l).c = W (rowC s) l:=by
 unfold sumM;rw [sumC_foldl];simp only [fZ];grind
def lb (s:Sc) (v:Nat):Rat:=if v < s.q.g.inp then (s.q.r.lo[v]?).getD 0 else 0
def ub (s:Sc) (v:Nat):Rat:=if v < s.q.g.inp then (s.q.r.hi[v]?).getD 0 else if (best s.lems ((v - s.q.g.inp:Nat):Int)).2 = 0 ∨ lv s.lems (best s.lems ((v - s.q.g.inp:Nat):Int)).2≤0 then 0 else lv s.lems (best s.lems ((v - s.q.g.inp:Nat):Int)).2
theorem m1:((-1:Int):Rat) = -1:=by decide
theorem p1:((1:Int):Rat) = 1:=by decide
section
variable {s:Sc}
theorem W_least (hq:QOk s.q) {v:Nat} (hv:v < s.q.g.inp + s.q.g.us.length):W (rowC s) (atLeast s.q.g.inp v) = - lb s v:=by
 unfold atLeast lb
 split
 ·have:=hq.r.lo
  obtain ⟨c,hc⟩:∃ c,s.q.r.lo[v]? = some c:=⟨_,List.getElem?_eq_getElem (by omega)⟩
  simp only [W,rowC,form_lo hc,hc,qOf_q,fSub,fV,fN,m1,p1,Option.getD_some];grind
 ·obtain ⟨p,hp⟩:∃ p,s.q.g.us[v - s.q.g.inp]? = some p:=⟨_,List.getElem?_eq_getElem (by omega)⟩
  simp only [W,rowC,form_zero hp,qOf_q,fV,p1];grind
theorem W_most (hq:QOk s.q) {v:Nat} {l:List Mu} (hv:v < s.q.g.inp + s.q.g.us.length) (h:atMost s.q.g.inp s.lems v = some l):W (rowC s) l = ub s v:=by
 unfold atMost at h
 unfold ub
 split at h
 ·rename_i hi
  cases h
  rw [if_pos hi]
  have:=hq.r.hi
  obtain ⟨c,hc⟩:∃ c,s.q.r.hi[v]? = some c:=⟨_,List.getElem?_eq_getElem (by omega)⟩
  simp only [W,rowC,form_hi hc,hc,qOf_q,fSub,fV,fN,m1,p1,Option.getD_some];grind
 ·rename_i hi
  rw [if_neg hi]
  obtain ⟨p,hp⟩:∃ p,s.q.g.us[v - s.q.g.inp]? = some p:=⟨_,List.getElem?_eq_getElem (by omega)⟩
  split at h
  ·cases h
  ·rename_i hb
   obtain ⟨y,hy,yu,yp,hly,hy0,hyl⟩:=best_lo (fun e=>hb (.inl e))
   obtain ⟨z,hz,zu,zp,hlz,hz0,hzl⟩:=best_hi (fun e=>hb (.inr e))
   rw [hlz,hly] at h
   rw [hlz]
   split at h
   ·rename_i hu
    cases h
    rw [if_pos (.inr hu)]
    simp only [W,rowC,form_off hp hz0 hz zu zp hu,qOf_q,fSc,fV,m1,p1];grind
   ·rename_i hu
    rw [if_neg (fun e=>e.elim (fun e=>hb (.inr e)) hu)]
    split at h
    ·rename_i hl
     cases h
     simp only [W,rowC,form_on hp hy0 hy yu yp hl,form_up hp hz0 hz zu zp,qOf_q,fSub,fV,fN,m1,p1];grind
    ·rename_i hl
     cases h
     have h1:0 < z.v.q:=by grind
     have h2:z.v.q - y.v.q≠0:=by grind
     simp only [W,rowC,form_up hp hz0 hz zu zp,form_tri hp hy0 hy yu yp hz0 hz zu zp (by grind) h1,qOf_q,fSub,fSc,fV,fN,m1,p1]
     have h3:(z.v.q - y.v.q) * (1 / (z.v.q - y.v.q)) = 1:=by rw [Rat.div_def,Rat.one_mul];exact Rat.mul_inv_cancel _ h2
     generalize 1 / (z.v.q - y.v.q) = k at *
     grind
def bndT (s:Sc) (t:Tm):Rat:=if 0 < t.2 then lb s t.1 else ub s t.1
def bndS (s:Sc):List Tm→Rat
 | []=>0
 | t :: ts=>t.2 * bndT s t + bndS s ts
theorem abst_W (hq:QOk s.q) {a:List Mu × Bool} {t:Tm} (hv:t.1 < s.q.g.inp + s.q.g.us.length) (h:(abst s.q.g.inp s.lems a t).2 = true):W (rowC s) (abst s.q.g.inp s.lems a t).1 = W (rowC s) a.1 - t.2 * bndT s t:=by
 unfold abst at h ⊢
 unfold bndT
 split at h
 ·rename_i ha
  rw [if_pos ha]
  split at h
  ·rename_i hp
   rw [if_pos hp,if_pos hp]
   simp only []
   rw [W_merge,W_least hq hv,abs_eq,if_neg (by grind)];grind
  ·rename_i hp
   rw [if_neg hp,if_neg hp]
   split at h
   ·rename_i l hl
    simp only [hl]
    rw [W_merge,W_most hq hv hl,abs_eq]
    split
    ·grind
    ·have:t.2 = 0:=by grind
     rw [this];grind
   ·simp at h
 ·rename_i ha;exact absurd h ha
theorem absn_W (hq:QOk s.q):∀ (ts:List Tm) (a:List Mu × Bool),(∀ t∈ts,t.1 < s.q.g.inp + s.q.g.us.length)→(ts.foldl (abst s.q.g.inp s.lems) a).2 = true→W (rowC s) (ts.foldl (abst s.q.g.inp s.lems) a).1 = W (rowC s) a.1 - bndS s ts
 | [],a,_,_=>by simp only [List.foldl_nil,bndS];grind
 | t :: ts,a,hv,h=>by
  have h2:(abst s.q.g.inp s.lems a t).2 = true:=by
   cases e:(abst s.q.g.inp s.lems a t).2
   ·have:=absn_no (inp:=s.q.g.inp) (lems:=s.lems) ts _ e
    rw [List.foldl_cons] at h
    rw [this] at h;simp at h
   ·rfl
  rw [List.foldl_cons,absn_W hq ts _ (fun x hx=>hv x (by simp [hx])) h,abst_W hq (hv t (by simp)) h2]
  simp only [bndS];grind
theorem abQ_eq {f:Af} (hq:QOk s.q) (hv:∀ t∈f.ts,t.1 < s.q.g.inp + s.q.g.us.length) (h:abB s f = true):abQ s f = f.c + bndS s f.ts:=by
 have h1:=absn_W hq f.ts ([],true) hv h
 unfold abQ
 rw [if_pos h]
 show f.c + (sumM s (abL s f)).c * ((-1:Int):Rat) = _
 rw [sumM_c,m1]
 have h2:W (rowC s) (abL s f) = 0 - bndS s f.ts:=h1
 rw [h2];grind
end
def KB (j:Nat):Nat:=4300 * 2 ^ j
structure LOk (q:Qu) (m:Lm):Prop where
 u0:0≤m.unit
 u:m.unit.toNat < q.g.us.length
 can:m.v = qOf m.v.q
 hb:Hb m.v.q (KB m.unit.toNat)
structure SOk (s:Sc):Prop where
 q:QOk s.q
 d:∀ d∈s.path,DOk 200 s.q d
 pl:s.path.length≤100
 l:∀ m∈s.lems,LOk s.q m
 ll:s.lems.length≤100
theorem KB_le {j:Nat} (h:j < 4):KB j≤34400:=by
 unfold KB
 have:2 ^ j≤2 ^ 3:=Nat.pow_le_pow_right (by decide) (by omega)
 omega
theorem SOk.B {s:Sc} (h:SOk s):∀ m∈s.lems,Fq m.v 34401:=by
 intro m hm
 have h1:=h.l m hm
 rw [h1.can]
 have h2:=h.q.g.u4
 have h3:=KB_le (j:=m.unit.toNat) (by have:=h1.u;omega)
 haveI:=(h1.hb.mono h3).br
 exact Fq.of
def wgt (inp v:Nat):Nat:=if v < inp then 11 else KB (v - inp) + 4
def wS (inp:Nat):Nat→Nat
 | 0=>0
 | n + 1=>wS inp n + wgt inp n
theorem wS_mono (inp:Nat) {a b:Nat} (h:a≤b):wS inp a≤wS inp b:=by
 induction b with
 | zero=>
      have:a = 0:=by omega
      subst this;exact Nat.le_refl _
 | succ b ih=>
  by_cases e:a = b + 1
  ·subst e;exact Nat.le_refl _
  ·have:=ih (by omega)
   show _≤wS inp b + wgt inp b
   omega
theorem wS_inp (inp:Nat):∀ n,n≤inp→wS inp n = 11 * n
 | 0,_=>rfl
 | n + 1,h=>by
  show wS inp n + wgt inp n = _
  rw [wS_inp inp n (by omega)]
  unfold wgt
  rw [if_pos (by omega)];omega
theorem wS_unit (inp:Nat):∀ j,wS inp (inp + j) + 4300 = 11 * inp + 4 * j + 4300 * 2 ^ j
 | 0=>by
  show wS inp inp + 4300 = _
  rw [wS_inp inp inp (Nat.le_refl _)]
 | j + 1=>by
  have ih:=wS_unit inp j
  show wS inp (inp + j) + wgt inp (inp + j) + 4300 = _
  unfold wgt
  rw [if_neg (by omega),show inp + j - inp = j by omega,Nat.pow_succ]
  unfold KB
  omega
theorem Hb.z {n:Nat}:Hb 0 n:=Hb.zero.mono (Nat.zero_le _)
theorem bndT_hb {s:Sc} (h:SOk s) {t:Tm} (hv:t.1 < s.q.g.inp + s.q.g.us.length):Hb (bndT s t) (wgt s.q.g.inp t.1 - 4):=by
 have hl:=h.q.r.lo
 have hh:=h.q.r.hi
 unfold bndT lb ub wgt
 by_cases hi:t.1 < s.q.g.inp
 ·obtain ⟨x,hx⟩:∃ x,s.q.r.lo[t.1]? = some x:=⟨_,List.getElem?_eq_getElem (by omega)⟩
  obtain ⟨y,hy⟩:∃ y,s.q.r.hi[t.1]? = some y:=⟨_,List.getElem?_eq_getElem (by omega)⟩
  obtain ⟨h1,h2,_⟩:=h.q.r.bd _ _ _ hx hy
  simp only [if_pos hi,hx,hy,Option.getD_some]
  split
  ·exact h1.mono (by omega)
  ·exact h2.mono (by omega)
 ·simp only [if_neg hi]
  split
  ·exact Hb.z
  ·split
   ·exact Hb.z
   ·rename_i hne
    obtain ⟨z,hz,zu,zp,hlz,hz0,hzl⟩:=best_hi (fun e=>hne (.inl e))
    rw [hlz]
    have:=(h.l z (List.mem_of_getElem? hz)).hb
    rw [zu] at this
    exact this.mono (by show KB (t.1 - s.q.g.inp)≤_;omega)
theorem bndS_hb {s:Sc} (h:SOk s) {n:Nat} (hn:n≤s.q.g.inp + s.q.g.us.length):∀ (ts:List Tm) (a:Nat),CanT ts→(∀ t∈ts,Hb t.2 3)→(∀ t∈ts,a≤t.1∧t.1 < n)→Hb (bndS s ts) (wS s.q.g.inp n - wS s.q.g.inp a)
 | [],a,_,_,_=>Hb.z
 | t :: ts,a,hc,hb,hv=>by
  obtain ⟨c1,c2,c3⟩:=hc
  have ht:=hv t (by simp)
  have ih:=bndS_hb h hn ts (t.1 + 1) c3 (fun x hx=>hb x (by simp [hx])) (fun x hx=>⟨c2 x hx,(hv x (by simp [hx])).2⟩)
  haveI h1:=hb t (by simp)
  haveI h2:=bndT_hb h (t:=t) (by omega)
  haveI h3:=ih
  have h4:Hb (t.2 * bndT s t + bndS s ts) (3 + (wgt s.q.g.inp t.1 - 4) + (wS s.q.g.inp n - wS s.q.g.inp (t.1 + 1)) + 1):=Hb.add
  refine h4.mono ?_
  have e1:=wS_mono s.q.g.inp (show t.1 + 1≤n by omega)
  have e2:=wS_mono s.q.g.inp ht.1
  have e3:wS s.q.g.inp (t.1 + 1) = wS s.q.g.inp t.1 + wgt s.q.g.inp t.1:=rfl
  have e4:4≤wgt s.q.g.inp t.1:=by unfold wgt;split <;> omega
  omega
theorem abQ_hb {s:Sc} (h:SOk s) {f:Af} {n:Nat} (hn:n≤s.q.g.inp + s.q.g.us.length) (hf:FOk 3 n f) (hb:abB s f = true):Hb (abQ s f) (wS s.q.g.inp n + 4):=by
 rw [abQ_eq h.q (fun t ht=>by have:=hf.var t ht;omega) hb]
 haveI:=hf.cb
 haveI:=bndS_hb h hn f.ts 0 hf.can hf.bd (fun t ht=>⟨Nat.zero_le _,hf.var t ht⟩)
 have h4:Hb (f.c + bndS s f.ts) (3 + (wS s.q.g.inp n - wS s.q.g.inp 0) + 1):=Hb.add
 exact h4.mono (by have:wS s.q.g.inp 0 = 0:=rfl;omega)
theorem unit_hb {s:Sc} (h:SOk s) {f:Af} {j:Nat} (hj:j < s.q.g.us.length) (hf:FOk 3 (s.q.g.inp + j) f) (hb:abB s f = true):Hb (abQ s f) (KB j - 4200):=by
 refine (abQ_hb h (by omega) hf hb).mono ?_
 have h1:=wS_unit s.q.g.inp j
 have h2:=h.q.g.i3
 have h3:=h.q.g.u4
 unfold KB
 omega
end Rc
