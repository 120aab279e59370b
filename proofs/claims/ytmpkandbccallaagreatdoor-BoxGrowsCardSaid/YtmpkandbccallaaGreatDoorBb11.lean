/- Parts of the proof, 11: the texts Ev, Mem, BoxB, BoxC, BoxW, WlB2, WlC2, WlD2, WlY, WlE2, WlF2, WlS, Awk, Awb, WlG2, as far as they are used. -/
import Derived.Test.YtmpkandbccallaaGreatDoorBb10
set_option linter.unusedSimpArgs false
set_option linter.unusedVariables false
namespace Rc
open Go Go.RowKit
def evN (f:Af) (v:List Rat) (n:Nat):Rat:=(f.ts.take n).foldl (fun s t=>s + t.2 * (v[t.1]?).getD 0) f.c
def evM (f:Af) (v:List Rat):Rat:=evN f v f.ts.length
theorem evN_succ {f:Af} {v:List Rat} {n:Nat} {t:Tm} {y:Rat} (h:f.ts[n]? = some t) (hy:v[t.1]? = some y):evN f v (n + 1) = evN f v n + t.2 * y:=by
 unfold evN;rw [take_snoc h,List.foldl_append];simp only [List.foldl_cons,List.foldl_nil,hy,Option.getD_some]
def VB (K:Nat) (v:List Rat):Prop:=∀ y∈v,Br y K
theorem VB.mono {K L:Nat} {v:List Rat} (h:VB K v) (hl:K≤L):VB L v:=fun y hy=>(h y hy).mono hl
theorem evN_br {f:Af} {v:List Rat} {m K:Nat} (hf:FOk 3 m f) (hv:VB K v) (hm:m≤v.length):∀ n,n≤f.ts.length→Br (evN f v n) (4 + n * (K + 6))
 | 0,_=>by have:=hf.br;exact this.mono (by omega)
 | n + 1,hn=>by
  obtain ⟨t,ht⟩:∃ t,f.ts[n]? = some t:=⟨_,List.getElem?_eq_getElem (by omega)⟩
  have htm:=List.mem_of_getElem? ht
  have htv:=hf.var t htm
  obtain ⟨y,hy⟩:∃ y,v[t.1]? = some y:=⟨_,List.getElem?_eq_getElem (by omega)⟩
  haveI:=evN_br hf hv hm n (by omega)
  haveI:Br t.2 4:=(hf.bd t htm).br
  haveI:=hv y (List.mem_of_getElem? hy)
  rw [evN_succ ht hy]
  exact (inferInstance:Br (evN f v n + t.2 * y) (4 + n * (K + 6) + (4 + K + 1) + 1)).mono (by rw [Nat.add_mul];omega)
theorem evM_br {f:Af} {v:List Rat} {m K:Nat} (hf:FOk 3 m f) (hv:VB K v) (hm:m≤v.length) (h7:m≤7):Br (evM f v) (4 + 7 * (K + 6)):=
 (evN_br hf hv hm f.ts.length (Nat.le_refl _)).mono (by have:=hf.len;have:=Nat.mul_le_mul_right (K + 6) (show f.ts.length≤7 by omega);omega)
def actN (us:List Af) (x:List Rat):Nat→List Rat
 | 0=>x
 | n + 1=>match us[n]? with
  | some p=>actN us x n ++ [mx (evM p (actN us x n)) 0]
  | none=>actN us x n
theorem actN_succ {us:List Af} {x:List Rat} {n:Nat} {p:Af} (h:us[n]? = some p):actN us x (n + 1) = actN us x n ++ [mx (evM p (actN us x n)) 0]:=by
 rw [actN,h]
theorem actN_len {us:List Af} {x:List Rat}:∀ n,n≤us.length→(actN us x n).length = x.length + n
 | 0,_=>rfl
 | n + 1,h=>by
  obtain ⟨p,hp⟩:∃ p,us[n]? = some p:=⟨_,List.getElem?_eq_getElem (by omega)⟩
  rw [actN_succ hp,List.length_append,actN_len n (by omega)];rfl
def KV:Nat→Nat
 | 0=>100
 | n + 1=>8 * KV n + 50
theorem KV_le {n:Nat} (h:n≤4):KV n≤500000:=by
 have:n = 0 ∨ n = 1 ∨ n = 2 ∨ n = 3 ∨ n = 4:=by omega
 rcases this with rfl | rfl | rfl | rfl | rfl <;> decide
theorem KV_pos:∀ n,100≤KV n
 | 0=>Nat.le_refl _
 | n + 1=>by have:=KV_pos n;simp only [KV];omega
theorem mx_br {y:Rat} {K:Nat} (h:Br y K):Br (mx y 0) K:=by
 by_cases h0:0≤cmpq y 0
 ·rw [mx_ge h0];exact h
 ·rw [mx_lt h0];exact Br.zero.mono (Nat.zero_le _)
theorem actN_br {g:Gr} (hg:GOk g) {x:List Rat} (hx:VB 100 x) (hl:x.length = g.inp):∀ n,n≤g.us.length→VB (KV n) (actN g.us x n)
 | 0,_=>hx
 | n + 1,h=>by
  obtain ⟨p,hp⟩:∃ p,g.us[n]? = some p:=⟨_,List.getElem?_eq_getElem (by omega)⟩
  have ih:=actN_br hg hx hl n (by omega)
  have h4:=hg.u4;have h3:=hg.i3
  rw [actN_succ hp]
  intro y hy
  rcases List.mem_append.1 hy with hy | hy
  ·exact (ih y hy).mono (by simp only [KV];omega)
  ·rw [List.mem_singleton] at hy;subst hy
   have:=evM_br (hg.us n p hp) ih (by rw [actN_len n (by omega),hl];exact Nat.le_refl _) (by omega)
   exact (mx_br this).mono (by simp only [KV];have:=KV_pos n;omega)
def actM (g:Gr) (x:List Rat):List Rat:=actN g.us x g.us.length
def preM (g:Gr) (x:List Rat):List Rat:=g.us.map fun p=>evM p (actM g x)
def contB (r:Rg) (x:List Rat):Bool:=r.rows.all fun f=>decide (0≤sg (evM f x))
def holdB (q:Qu) (d:Dc) (x:List Rat):Bool:=
 if d.kind = 3 then decide (0≤cmpq ((x[d.idx]?).getD 0) d.pt) else if d.kind = 4 then decide (cmpq ((x[d.idx]?).getD 0) d.pt≤0)
 else if d.kind = 1 then decide (0≤sg (((preM q.g x)[d.idx]?).getD 0)) else decide (sg (((preM q.g x)[d.idx]?).getD 0)≤0)
def memB (s:Sc) (x:List Rat):Bool:=contB s.q.r x && s.path.all fun d=>holdB s.q d x
theorem all_take {α:Type} {f:α→Bool} {l:List α} {i:Nat} {x:α} (hx:l[i]? = some x) (h:(l.take i).all f = true) (hp:f x = true):(l.take (i + 1)).all f = true:=by
 rw [take_snoc hx,List.all_append,h];simp [hp]
theorem all_no {α:Type} {f:α→Bool} {l:List α} {i:Nat} {x:α} (hx:l[i]? = some x) (hp:f x = false):l.all f = false:=by
 cases h:l.all f
 ·rfl
 ·have:=List.all_eq_true.1 h x (List.mem_of_getElem? hx);rw [hp] at this;simp at this
structure InB (r:Rg) (x:List Rat):Prop where
 len:x.length = r.lo.length
 bd:VB 100 x
 in_:∀ (i:Nat) (y a b:Rat),x[i]? = some y→r.lo[i]? = some a→r.hi[i]? = some b→a≤y∧y≤b
def insQ (r:Rg) (l:List Nat) (i:Nat):Rat:=(r.lo[i]?).getD 0 + ((((l[i]?).getD 0 % 9:Nat):Int):Rat) / ((8:Int):Rat) * ((r.hi[i]?).getD 0 - (r.lo[i]?).getD 0)
def insN (r:Rg) (l:List Nat) (n:Nat):List Rat:=(List.range n).map (insQ r l)
theorem insN_succ (r:Rg) (l:List Nat) (n:Nat):insN r l (n + 1) = insN r l n ++ [insQ r l n]:=by unfold insN;rw [List.range_succ,List.map_append];rfl
theorem insN_len (r:Rg) (l:List Nat) (n:Nat):(insN r l n).length = n:=by simp [insN]
theorem eighth_hb {k:Nat} (h:k≤8):Hb (((k:Int):Rat) / ((8:Int):Rat)) 10∧0≤((k:Int):Rat) / ((8:Int):Rat)∧((k:Int):Rat) / ((8:Int):Rat)≤1:=by
 have:k = 0 ∨ k = 1 ∨ k = 2 ∨ k = 3 ∨ k = 4 ∨ k = 5 ∨ k = 6 ∨ k = 7 ∨ k = 8:=by omega
 rcases this with rfl | rfl | rfl | rfl | rfl | rfl | rfl | rfl | rfl <;> exact ⟨⟨by decide +kernel,by decide +kernel⟩,by decide +kernel,by decide +kernel⟩
theorem insQ_ok {n:Nat} {r:Rg} (hr:ROk n r) {l:List Nat} {i:Nat} {a b:Rat} (ha:r.lo[i]? = some a) (hb:r.hi[i]? = some b):Br (insQ r l i) 100∧a≤insQ r l i∧insQ r l i≤b:=by
 obtain ⟨h1,h2,h3⟩:=hr.bd i a b ha hb
 unfold insQ
 rw [ha,hb]
 simp only [Option.getD_some]
 obtain ⟨k,hk⟩:∃ k,(l[i]?).getD 0 % 9 = k:=⟨_,rfl⟩
 rw [hk]
 obtain ⟨e1,e2,e3⟩:=eighth_hb (k:=k) (by omega)
 obtain ⟨c,hc⟩:∃ c:Rat,((k:Int):Rat) / ((8:Int):Rat) = c:=⟨_,rfl⟩
 rw [hc] at e1 e2 e3 ⊢
 refine ⟨(inferInstance:Hb (a + c * (b - a)) (3 + (10 + (7 + 3 + 1)) + 1)).br.mono (by omega),?_,?_⟩
 ·have:0≤c * (b - a):=Rat.mul_nonneg e2 (by grind)
  grind
 ·have:0≤(1 - c) * (b - a):=Rat.mul_nonneg (by grind) (by grind)
  grind
theorem insN_in {n:Nat} {r:Rg} (hr:ROk n r) (l:List Nat):InB r (insN r l r.lo.length):=by
 refine ⟨insN_len _ _ _,fun y hy=>?_,fun i y a b hy ha hb=>?_⟩
 ·obtain ⟨i,hi,rfl⟩:=List.mem_map.1 hy
  have hi:=List.mem_range.1 hi
  exact (insQ_ok hr (List.getElem?_eq_getElem hi) (List.getElem?_eq_getElem (by rw [hr.hi,← hr.lo];exact hi))).1
 ·have:y = insQ r l i:=by
   unfold insN at hy
   rw [List.getElem?_map] at hy
   have hi:i < r.lo.length:=(List.getElem?_eq_some_iff.1 ha).1
   rw [List.getElem?_range hi] at hy
   simpa using hy.symm
  subst this
  exact (insQ_ok hr ha hb).2
theorem mx_le {a b:Rat}:a≤mx a b∧b≤mx a b∧(mx a b = a ∨ mx a b = b):=by
 by_cases h:0≤cmpq a b
 ·rw [mx_ge h];exact ⟨Rat.le_refl,cmpq_ge.1 h,.inl rfl⟩
 ·rw [mx_lt h]
  have h2:cmpq a b < 0:=by omega
  exact ⟨Rat.le_of_lt (cmpq_lt.1 h2),Rat.le_refl,.inr rfl⟩
theorem actN_get {us:List Af} {x:List Rat}:∀ n,n≤us.length→∀ i,i < x.length + n→(actN us x us.length)[i]? = (actN us x n)[i]?:=by
 intro n hn i hi
 have key:∀ k,n + k≤us.length→(actN us x (n + k))[i]? = (actN us x n)[i]?:=by
  intro k
  induction k with
  | zero=>intro _;rfl
  | succ k ih=>
   intro hk
   obtain ⟨p,hp⟩:∃ p,us[n + k]? = some p:=⟨_,List.getElem?_eq_getElem (by omega)⟩
   rw [show n + (k + 1) = (n + k) + 1 by omega,actN_succ hp,List.getElem?_append_left (by rw [actN_len _ (by omega)];omega),ih (by omega)]
 have:=key (us.length - n) (by omega)
 rwa [show n + (us.length - n) = us.length by omega] at this
theorem evN_eq {f:Af} {v v':List Rat} {m:Nat} (hf:∀ t∈f.ts,t.1 < m) (h:∀ i,i < m→v[i]? = v'[i]?):∀ n,n≤f.ts.length→evN f v n = evN f v' n
 | 0,_=>rfl
 | n + 1,hn=>by
  obtain ⟨t,ht⟩:∃ t,f.ts[n]? = some t:=⟨_,List.getElem?_eq_getElem (by omega)⟩
  have ih:=evN_eq hf h n (by omega)
  unfold evN at ih ⊢
  rw [take_snoc ht,List.foldl_append,List.foldl_append,ih]
  simp only [List.foldl_cons,List.foldl_nil]
  rw [h t.1 (hf t (List.mem_of_getElem? ht))]
theorem evM_eq {f:Af} {v v':List Rat} {m:Nat} (hf:∀ t∈f.ts,t.1 < m) (h:∀ i,i < m→v[i]? = v'[i]?):evM f v = evM f v':=evN_eq hf h _ (Nat.le_refl _)
def Holds (g:Gr) (x:List Rat) (l:List Lm):Prop:=∀ m∈l,∀ p,g.us[m.unit.toNat]? = some p→(m.up = true→evM p (actM g x)≤m.v.q)∧(m.up = false→m.v.q≤evM p (actM g x))
theorem evS {f:Af} {v:List Rat}:∀ (ts:List Tm) (c:Rat),ts.foldl (fun s t=>s + t.2 * (v[t.1]?).getD 0) c = c + ts.foldl (fun s t=>s + t.2 * (v[t.1]?).getD 0) 0
 | [],c=>by simp only [List.foldl_nil];grind
 | t :: ts,c=>by
  rw [List.foldl_cons,List.foldl_cons,evS (f:=f) ts (c + _),evS (f:=f) ts (0 + _)];grind
theorem bnd_le {s:Sc} (hs:SOk s) {x:List Rat} (hx:InB s.q.r x) (hl:Holds s.q.g x s.lems):∀ (ts:List Tm) (a:List Mu × Bool),a.2 = true→(∀ t∈ts,t.1 < s.q.g.inp + s.q.g.us.length)→(ts.foldl (abst s.q.g.inp s.lems) a).2 = true →
  bndS s ts≤ts.foldl (fun r t=>r + t.2 * ((actM s.q.g x)[t.1]?).getD 0) 0
 | [],_,_,_,_=>by simp only [bndS,List.foldl_nil];exact Rat.le_refl
 | t :: ts,a,ha,hv,h=>by
  have h2:(abst s.q.g.inp s.lems a t).2 = true:=by
   cases e:(abst s.q.g.inp s.lems a t).2
   ·have:=absn_no (inp:=s.q.g.inp) (lems:=s.lems) ts _ e
    rw [List.foldl_cons] at h
    rw [this] at h;simp at h
   ·rfl
  have ih:=bnd_le hs hx hl ts _ h2 (fun y hy=>hv y (by simp [hy])) h
  rw [List.foldl_cons,evS (f:=fZ) ts]
  simp only [bndS]
  have htv:=hv t (by simp)
  have hr:=hs.q.r
  have hlen:(actM s.q.g x).length = s.q.g.inp + s.q.g.us.length:=by unfold actM;rw [actN_len _ (Nat.le_refl _),hx.len,hr.lo]
  obtain ⟨y,hy⟩:∃ y,(actM s.q.g x)[t.1]? = some y:=⟨_,List.getElem?_eq_getElem (by omega)⟩
  rw [hy]
  simp only [Option.getD_some]
  have key:t.2 * bndT s t≤t.2 * y:=by
   unfold bndT
   by_cases hin:t.1 < s.q.g.inp
   ·have hxy:x[t.1]? = some y:=by rw [← hy];exact (actN_get 0 (Nat.zero_le _) t.1 (by rw [hx.len,hr.lo];omega)).symm
    obtain ⟨c,hc⟩:∃ c,s.q.r.lo[t.1]? = some c:=⟨_,List.getElem?_eq_getElem (by rw [hr.lo];exact hin)⟩
    obtain ⟨d,hd⟩:∃ d,s.q.r.hi[t.1]? = some d:=⟨_,List.getElem?_eq_getElem (by rw [hr.hi];exact hin)⟩
    obtain ⟨i1,i2⟩:=hx.in_ t.1 y c d hxy hc hd
    split
    ·rename_i hp
     unfold lb;rw [if_pos hin,hc]
     exact Rat.mul_le_mul_of_nonneg_left i1 (Rat.le_of_lt hp)
    ·rename_i hp
     unfold ub;rw [if_pos hin,hd]
     simp only [Option.getD_some]
     have:0≤(-t.2) * (d - y):=Rat.mul_nonneg (by grind) (by grind)
     grind
   ·obtain ⟨j,hj⟩:∃ j,t.1 = s.q.g.inp + j:=⟨t.1 - s.q.g.inp,by omega⟩
    have hju:j < s.q.g.us.length:=by omega
    obtain ⟨p,hp⟩:∃ p,s.q.g.us[j]? = some p:=⟨_,List.getElem?_eq_getElem hju⟩
    have hyv:y = mx (evM p (actM s.q.g x)) 0:=by
     have e1:(actM s.q.g x)[t.1]? = (actN s.q.g.us x (j + 1))[t.1]?:=actN_get (j + 1) (by omega) t.1 (by rw [hx.len,hr.lo];omega)
     rw [hy,actN_succ hp,List.getElem?_append_right (by rw [actN_len j (by omega),hx.len,hr.lo];omega),actN_len j (by omega),hx.len,hr.lo,hj,Nat.sub_self] at e1
     simp only [List.getElem?_cons_zero,Option.some.injEq] at e1
     rw [e1]
     congr 1
     exact (evM_eq (m:=s.q.g.inp + j) (hs.q.g.us j p hp).var (fun i hi=>actN_get j (by omega) i (by rw [hx.len,hr.lo];omega))).symm
    obtain ⟨k1,k2,k3⟩:=mx_le (a:=evM p (actM s.q.g x)) (b:=0)
    rw [← hyv] at k1 k2 k3
    split
    ·rename_i hpos
     unfold lb;rw [if_neg hin]
     have:0≤t.2 * y:=Rat.mul_nonneg (Rat.le_of_lt hpos) k2
     grind
    ·rename_i hneg
     have hub:y≤ub s t.1:=by
      unfold ub
      rw [if_neg hin,show t.1 - s.q.g.inp = j by omega]
      have hbest:(best s.lems (j:Int)).2≠0:=by
       intro e
       unfold abst at h2
       rw [if_pos ha,if_neg hneg] at h2
       have:atMost s.q.g.inp s.lems t.1 = none:=by
        unfold atMost;rw [if_neg hin,show t.1 - s.q.g.inp = j by omega,if_pos (.inr e)]
       rw [this] at h2;simp at h2
      obtain ⟨m,m1,m2,m3,m4,_⟩:=best_hi hbest
      have hh:=(hl m (List.mem_of_getElem? m1) p (by rw [m2];exact hp)).1 m3
      rw [← m4] at hh
      split
      ·rename_i hz
       rcases hz with hz | hz
       ·exact absurd hz hbest
       ·rcases k3 with k3 | k3
        ·rw [k3];exact Rat.le_trans hh hz
        ·rw [k3];exact Rat.le_refl
      ·rename_i hz
       have hz:¬ lv s.lems (best s.lems (j:Int)).2≤0:=fun e=>hz (.inr e)
       rcases k3 with k3 | k3
       ·rw [k3];exact hh
       ·rw [k3];exact Rat.le_of_lt (Rat.not_le.1 hz)
     have:0≤(-t.2) * (ub s t.1 - y):=Rat.mul_nonneg (by grind) (by grind)
     grind
  grind
theorem abQ_le {s:Sc} (hs:SOk s) {x:List Rat} (hx:InB s.q.r x) (hl:Holds s.q.g x s.lems) {f:Af} {n:Nat} (hf:FOk 3 n f) (hn:n≤s.q.g.inp + s.q.g.us.length) (hb:abB s f = true):abQ s f≤evM f (actM s.q.g x):=by
 rw [abQ_eq hs.q (fun t ht=>Nat.lt_of_lt_of_le (hf.var t ht) hn) hb]
 unfold evM evN
 rw [List.take_length,evS (f:=f)]
 have:=bnd_le hs hx hl f.ts ([],true) rfl (fun t ht=>Nat.lt_of_lt_of_le (hf.var t ht) hn) hb
 grind
end Rc
set_option linter.unusedSimpArgs false
set_option linter.unusedVariables false
namespace Rc
open Go Go.RowKit
theorem ev_scR {v:List Rat} {c:Rat}:∀ ts:List Tm,(scR c ts).foldl (fun s t=>s + t.2 * (v[t.1]?).getD 0) 0 = c * ts.foldl (fun s t=>s + t.2 * (v[t.1]?).getD 0) 0
 | []=>by simp only [scR,List.foldl_nil];grind
 | t :: ts=>by
  have ih:=ev_scR (v:=v) (c:=c) ts
  rw [List.foldl_cons,evS (f:=fZ) ts]
  unfold scR
  split
  ·rename_i h
   rw [ih]
   have:c * (t.2 * (v[t.1]?).getD 0) = 0:=by
    have e:c * (t.2 * (v[t.1]?).getD 0) = (t.2 * c) * (v[t.1]?).getD 0:=by grind
    rw [e,h];grind
   grind
  ·rw [List.foldl_cons,evS (f:=fZ) (scR c ts),ih];grind
theorem ev_neg (p:Af) (v:List Rat):evM (negF p) v = -(evM p v):=by
 unfold evM evN
 rw [List.take_length,List.take_length,evS (f:=fZ) _ (negF p).c,evS (f:=fZ) _ p.c]
 show p.c * ((-1:Int):Rat) + (scT p.ts ((-1:Int):Rat)).foldl _ 0 = _
 rw [scT_eq,ev_scR,m1];grind
section
variable {s:Sc} {x:List Rat}
theorem Holds.app {g:Gr} {l r:List Lm} (h1:Holds g x l) (h2:Holds g x r):Holds g x (l ++ r):=fun m hm=>by
 rcases List.mem_append.1 hm with hm | hm
 ·exact h1 m hm
 ·exact h2 m hm
theorem holds_one {g:Gr} {j:Nat} {up:Bool} {c:Rat} {pf:List Mu} {p:Af} (hp:g.us[j]? = some p) (h:(up = true→evM p (actM g x)≤c)∧(up = false→c≤evM p (actM g x))):Holds g x [⟨(j:Int),up,qOf c,pf⟩]:=fun m hm q hq=>by
 rw [List.mem_singleton] at hm;subst hm
 have:q = p:=by
  have e:g.us[j]? = some q:=hq
  rw [hp] at e;exact (Option.some.inj e).symm
 subst this
 rw [qOf_q];exact h
theorem abs_both {s:Sc} (hs:SOk s) {x:List Rat} (hx:InB s.q.r x) (hl:Holds s.q.g x s.lems) {j:Nat} {p:Af} (hp:s.q.g.us[j]? = some p):(abB s p = true→abQ s p≤evM p (actM s.q.g x))∧(abB s (negF p) = true→evM p (actM s.q.g x)≤-(abQ s (negF p))):=by
 have hf:=unit_fok hs.q hp
 refine ⟨fun h=>abQ_le hs hx hl hf (Nat.le_refl _) h,fun h=>?_⟩
 have:=abQ_le hs hx hl hf.neg (Nat.le_refl _) h
 have e:=ev_neg p (actM s.q.g x)
 have:abQ s (negF p)≤-(evM p (actM s.q.g x)):=by rw [← e];exact this
 grind
theorem side_holds (hs:SOk s) (hx:InB s.q.r x) (hl:Holds s.q.g x s.lems) {bits:Int} (h0:0≤bits) (h4:bits≤4096) {j:Nat} {up:Bool} {p:Af} (hp:s.q.g.us[j]? = some p):Holds s.q.g x (sideN absD s bits j up p):=by
 have hj:=(List.getElem?_eq_some_iff.1 hp).1
 have hK:=KB_le (j:=j) (by have:=hs.q.g.u4;omega)
 obtain ⟨b1,b2⟩:=abs_both hs hx hl hp
 have hpo:=hs.q.g.us j p hp
 unfold sideN
 split
 ·rename_i hb
  rw [Bool.and_eq_true] at hb
  have hb1:=hb.1
  unfold sideB at hb1
  refine holds_one hp ⟨fun hu=>?_,fun hu=>?_⟩
  ·rw [if_pos hu] at hb1
   have hb1:abB s (negF p) = true:=hb1
   unfold sideV;rw [if_pos hu]
   haveI h1:=unit_hb hs hj hpo.neg hb1
   have h2:Hb (-(abQ s (negF p))) (KB j - 4200):=Hb.neg
   exact Rat.le_trans (b2 hb1) (rndB_le h2 (by omega) h0 h4).2
  ·have hu':¬ up = true:=by rw [hu];decide
   rw [if_neg hu'] at hb1
   have hb1:abB s p = true:=hb1
   unfold sideV;rw [if_neg hu']
   exact Rat.le_trans (rndB_le (unit_hb hs hj hpo hb1) (by omega) h0 h4).1 (b1 hb1)
 ·exact fun m hm=>by simp at hm
theorem runN_holds (hs:SOk s) (h80:s.lems.length≤80) (hx:InB s.q.r x) (hl:Holds s.q.g x s.lems) {bits:Int} (h0:0≤bits) (h4:bits≤4096):∀ n,n≤s.q.g.us.length→Holds s.q.g x (Rc.runN absD s bits n)
 | 0,_=>hl
 | n + 1,hn=>by
  obtain ⟨p,hp⟩:∃ p,s.q.g.us[n]? = some p:=⟨_,List.getElem?_eq_getElem (by omega)⟩
  have ih:=runN_holds hs h80 hx hl h0 h4 n (by omega)
  have h1:=runN_sok absD_ok hs h80 (bits:=bits) (n:=n) (by omega)
  have h2:=runN_ok absD_ok hs h80 bits n (by omega)
  have h3:=runA_ok absD_ok hs (bits:=bits) h1 hp
  have h4':=hs.q.g.u4
  have hA:Holds s.q.g x (runA absD s bits (Rc.runN absD s bits n) n p):=ih.app (side_holds h1 hx ih h0 h4 (by exact hp))
  rw [runN_get hp]
  exact hA.app (side_holds (s:=withL s (runA absD s bits (Rc.runN absD s bits n) n p)) (LOk.withL hs h3.1 (by omega)) hx hA h0 h4 (by exact hp))
theorem bdN_holds (hs:SOk s) (h80:s.lems.length≤80) (hx:InB s.q.r x) (hl:Holds s.q.g x s.lems):∀ n,n≤s.q.g.us.length→Holds s.q.g x (bdN s n)
 | 0,_=>hl
 | n + 1,hn=>by
  obtain ⟨p,hp⟩:∃ p,s.q.g.us[n]? = some p:=⟨_,List.getElem?_eq_getElem (by omega)⟩
  have ih:=bdN_holds hs h80 hx hl n (by omega)
  have h1:=bdN_sok hs h80 (n:=n) (by omega)
  obtain ⟨b1,b2⟩:=abs_both (s:=withL s (bdN s n)) h1 hx ih (by exact hp)
  rw [bdN_get hp]
  refine (ih.app ?_).app ?_
  ·unfold bdA
   split
   ·rename_i hb
    exact holds_one hp ⟨fun h=>by simp at h,fun _=>b1 hb⟩
   ·exact fun m hm=>by simp at hm
  ·unfold bdB
   split
   ·rename_i hb
    exact holds_one hp ⟨fun _=>b2 hb,fun h=>by simp at h⟩
   ·exact fun m hm=>by simp at hm
theorem extM_holds (l:List Nat) {x:List Rat} (hx:InB (extM l).q.r x):Holds (extM l).q.g x (extM l).lems:=by
 by_cases hp:0 < sumB l % 3
 ·have e:extM l = boundedM (partM l):=if_pos hp
  rw [e] at hx ⊢
  exact bdN_holds (s:=partM l) (partM_ok l) (Nat.zero_le _) hx (fun m hm=>by simp [partM] at hm) _ (Nat.le_refl _)
 ·have e:extM l = partM l:=if_neg hp
  rw [e]
  exact fun m hm=>by simp [partM] at hm
end
end Rc
set_option linter.unusedSimpArgs false
set_option linter.unusedVariables false
namespace Rc
open Go Go.RowKit
theorem SOk.sb {s:Sc} (h:SOk s):SB 40001 s:=⟨h.q,h.d,h.pl,h.B,by have:=h.ll;omega⟩
theorem af_ext {f g:Af} (h1:f.ts = g.ts) (h2:f.c = g.c):f = g:=by cases f;cases g;simp at *;exact ⟨h1,h2⟩
theorem sum_coB {B:Nat} {s:Sc} (hs:SB B s) {v:Nat}:∀ (l:List Mu) (a:Af),CanT a.ts→CanT (l.foldl (fun a m=>fAdd a (fSc (formM s m.r).1 m.c.q)) a).ts∧co (l.foldl (fun a m=>fAdd a (fSc (formM s m.r).1 m.c.q)) a).ts v = co a.ts v + W (coR s v) l
 | [],a,h=>⟨h,by simp only [List.foldl_nil,W];grind⟩
 | m :: l,a,h=>by
  have hc:=(formM_fl (r:=m.r) hs.q hs.d hs.B).can
  obtain ⟨i1,i2⟩:=sum_coB hs (v:=v) l (fAdd a (fSc (formM s m.r).1 m.c.q)) (sumT_can h)
  refine ⟨i1,?_⟩
  rw [List.foldl_cons,i2,co_add h (can_sc hc),co_fsc hc]
  simp only [W,coR];grind
def DerOf (s:Sc) (f:Af) (x:Rat) (l:List Mu):Prop:=sumM s l = fSub f (fN x)
theorem der_of {B:Nat} {s:Sc} (hs:SB B s) {f:Af} {x:Rat} {l:List Mu} (hf:CanT f.ts) (h1:∀ w,W (coR s w) l = co f.ts w) (h2:W (rowC s) l = f.c - x):DerOf s f x l:=by
 refine af_ext (co_ext (sum_coB hs (v:=0) l fZ trivial).1 (can_sub hf) (fun w=>?_)) ?_
 ·have:=(sum_coB hs (v:=w) l fZ trivial).2
  rw [show (sumM s l).ts = (l.foldl (fun a m=>fAdd a (fSc (formM s m.r).1 m.c.q)) fZ).ts from rfl,this,h1,co_sub hf (can_n _),co_n]
  show (0:Rat) + _ = _
  grind
 ·rw [sumM_c,h2]
  show _ = f.c + x * ((-1:Int):Rat)
  rw [m1];grind
theorem boxO_all {B F:Nat} {s:Sc} (hs:SB B s) {f:Af} (hf:FL F (s.q.g.inp + s.q.g.us.length) f) {x:Rat} {l:List Mu} (h:boxO s f = some (x,l)):BoxOk s B F f f.ts x l:=by
 have:=box_ok hs hf f.ts.length (Nat.le_refl _) x l h
 rwa [List.take_length] at this
theorem FL.len7 {F:Nat} {s:Sc} (hq:QOk s.q) {f:Af} (hf:FL F (s.q.g.inp + s.q.g.us.length) f):f.ts.length≤7:=by
 have:=hq.g.i3;have:=hq.g.u4
 have:=(hf.fm (by omega)).len;have:=hq.g.i3;have:=hq.g.u4;omega
structure Bnd (s:Sc) (B F:Nat) (f:Af) (x:Rat) (l:List Mu):Prop where
 der:DerOk s (7 * (8 * B + 2 * F + 40)) 14 l
 sum:DerOf s f x l
 br:Br x (F + 7 * (B + F + 210))
theorem box_bnd {B F:Nat} {s:Sc} (hs:SB B s) {f:Af} (hf:FL F (s.q.g.inp + s.q.g.us.length) f) {x:Rat} {l:List Mu} (h:boxO s f = some (x,l)):Bnd s B F f x l:=by
 have h1:=boxO_all hs hf h
 have h7:=hf.len7 hs.q
 have h8:=Nat.mul_le_mul_right (8 * B + 2 * F + 40) h7
 have h9:=Nat.mul_le_mul_right (B + F + 210) h7
 exact ⟨⟨h1.der.ok,h1.der.can,h1.der.bd.mono h8,Nat.le_trans h1.der.len (by omega)⟩,der_of hs hf.can (fun w=>by rw [h1.co w,coS_co hf.can]) h1.wc,h1.br.mono (by omega)⟩
theorem boxD_br {B F:Nat} {s:Sc} (hs:SB B s) {f:Af} (hf:FL F (s.q.g.inp + s.q.g.us.length) f):Br (boxD s f).1 (F + 7 * (B + F + 210)):=by
 cases h:boxO s f with
 | none=>rw [boxD_none h];exact Br.zero.mono (Nat.zero_le _)
 | some a=>obtain ⟨x,l⟩:=a;rw [boxD_some h];exact (box_bnd hs hf h).br
def wgB (inp v:Nat):Nat:=if v < inp then 204 else KB (v - inp) + 4
def wB (inp:Nat):Nat→Nat
 | 0=>0
 | n + 1=>wB inp n + wgB inp n
theorem wB_mono (inp:Nat) {a b:Nat} (h:a≤b):wB inp a≤wB inp b:=by
 induction b with
 | zero=>
      have:a = 0:=by omega
      subst this;exact Nat.le_refl _
 | succ b ih=>
  by_cases e:a = b + 1
  ·subst e;exact Nat.le_refl _
  ·have:=ih (by omega);simp only [wB];omega
theorem wB_inp (inp:Nat):∀ n,n≤inp→wB inp n = 204 * n
 | 0,_=>rfl
 | n + 1,h=>by have:=wB_inp inp n (by omega);simp only [wB,wgB,this];rw [if_pos (by omega)];omega
theorem wB_unit (inp:Nat):∀ j,wB inp (inp + j) + 5000 = 204 * inp + 4 * j + 5000 * 2 ^ j
 | 0=>by
  have:=wB_inp inp inp (Nat.le_refl _)
  show wB inp inp + 5000 = _
  omega
 | j + 1=>by
  have:=wB_unit inp j
  show wB inp (inp + j) + wgB inp (inp + j) + 5000 = _
  unfold wgB KB
  rw [if_neg (by omega),show inp + j - inp = j by omega,Nat.pow_succ]
  omega
theorem bnd_hb {s:Sc} (hs:SOk s) {v:Nat} (hv:v < s.q.g.inp + s.q.g.us.length) {up:Bool} {b:Qr} {l:List Mu} (h:bndM s v up = some (b,l)):Hb b.q (wgB s.q.g.inp v - 4):=by
 have lvh:∀ {n:Nat} {m:Lm},s.lems[n - 1]? = some m→m.unit = ((v - s.q.g.inp:Nat):Int)→Hb (lvr s.lems n).q (KB (v - s.q.g.inp)):=fun {n m} hm hu=>by
  rw [lvr_get hm]
  have:=(hs.l m (List.mem_of_getElem? hm)).hb
  rw [hu] at this;exact this
 unfold bndM at h
 unfold wgB
 split at h
 ·rename_i hi
  simp only [Option.some.injEq,Prod.mk.injEq] at h
  obtain ⟨rfl,rfl⟩:=h
  rw [if_pos hi,qOf_q]
  exact (inp_ok hs.sb hi up s.path.length (Nat.le_refl _)).hb
 ·rename_i hi
  rw [if_neg hi,Nat.add_sub_cancel]
  split at h
  ·unfold highM at h
   split at h
   ·cases h;rw [qZero_q];exact Hb.z
   ·split at h
    ·cases h
    ·rename_i hh
     obtain ⟨z,hz,zu,_⟩:=best_hi hh
     split at h
     ·simp only [Option.some.injEq,Prod.mk.injEq] at h
      rw [← h.1];exact lvh hz zu
     ·split at h
      ·cases h
      ·simp only [Option.some.injEq,Prod.mk.injEq] at h
       rw [← h.1];exact lvh hz zu
  ·simp only [Option.some.injEq] at h
   unfold lowM at h
   split at h
   ·rename_i hl
    obtain ⟨y,hy,yu,_⟩:=best_lo hl.1
    simp only [Prod.mk.injEq] at h
    rw [← h.1];exact lvh hy yu
   ·simp only [Prod.mk.injEq] at h
    rw [← h.1,qZero_q];exact Hb.z
def lastV (ts:List Tm) (n:Nat):Nat:=match n with | 0=>0 | k + 1=>match ts[k]? with | some t=>t.1 + 1 | none=>0
theorem box_hb {s:Sc} (hs:SOk s) {f:Af} {m:Nat} (hm:m≤s.q.g.inp + s.q.g.us.length) (hf:FOk 3 m f):∀ n,n≤f.ts.length→∀ x l,boxN s f n = some (x,l)→Hb x (4 + wB s.q.g.inp (lastV f.ts n))
 | 0,_,x,l,h=>by
  simp only [boxN,List.take_zero,List.foldl_nil,Option.some.injEq,Prod.mk.injEq] at h
  obtain ⟨rfl,rfl⟩:=h
  exact hf.cb.mono (by omega)
 | n + 1,hn,x,l,h=>by
  obtain ⟨t,ht⟩:∃ t,f.ts[n]? = some t:=⟨_,List.getElem?_eq_getElem (by omega)⟩
  have htm:=List.mem_of_getElem? ht
  rw [boxN_succ ht] at h
  cases ho:boxN s f n with
  | none=>rw [ho] at h;simp [boxT] at h
  | some a=>
   obtain ⟨x0,l0⟩:=a
   rw [ho] at h
   have ih:=box_hb hs hm hf n (by omega) x0 l0 ho
   unfold boxT at h
   simp only at h
   cases hbn:bndM s t.1 (decide (t.2 < 0)) with
   | none=>rw [hbn] at h;simp at h
   | some a=>
    obtain ⟨c,k⟩:=a
    rw [hbn] at h
    simp only [Option.some.injEq,Prod.mk.injEq] at h
    obtain ⟨rfl,rfl⟩:=h
    have hv:=hf.var t htm
    haveI:=ih
    haveI:=bnd_hb hs (Nat.lt_of_lt_of_le hv hm) hbn
    haveI:=hf.bd t htm
    have hw:lastV f.ts n≤t.1:=by
     cases n with
     | zero=>exact Nat.zero_le _
     | succ k=>
      obtain ⟨y,hy⟩:∃ y,f.ts[k]? = some y:=⟨_,List.getElem?_eq_getElem (by omega)⟩
      simp only [lastV,hy]
      exact hf.can.prev (by omega) ht hy
    have h1:=wB_mono s.q.g.inp hw
    have h2:4≤wgB s.q.g.inp t.1:=by unfold wgB;split <;> omega
    have h3:lastV f.ts (n + 1) = t.1 + 1:=by simp only [lastV,ht]
    rw [h3]
    refine (inferInstance:Hb (x0 + t.2 * c.q) _).mono ?_
    simp only [wB];omega
theorem boxD_ok:DomOk boxD:=by
 intro s hs j f hj hf hb
 cases ho:boxO s f with
 | none=>rw [boxD_none ho] at hb;simp at hb
 | some a=>
  obtain ⟨x,l⟩:=a
  rw [boxD_some ho]
  have h:=box_hb hs (m:=s.q.g.inp + j) (by omega) hf f.ts.length (Nat.le_refl _) x l ho
  refine h.mono ?_
  have h1:lastV f.ts f.ts.length≤s.q.g.inp + j:=by
   unfold lastV
   split
   ·exact Nat.zero_le _
   ·rename_i k hk
    obtain ⟨t,ht⟩:∃ t,f.ts[k]? = some t:=⟨_,List.getElem?_eq_getElem (by omega)⟩
    rw [ht]
    exact hf.var t (List.mem_of_getElem? ht)
  have h2:=wB_mono s.q.g.inp h1
  have h3:=wB_unit s.q.g.inp j
  have h4:=hs.q.g.i3;have h5:=hs.q.g.u4
  unfold KB
  have:=Nat.one_le_two_pow (n:=j)
  omega
def PathAt (s:Sc) (x:List Rat):Prop:=∀ d∈s.path,holdB s.q d x = true
theorem mem_path {s:Sc} {x:List Rat} (h:memB s x = true):PathAt s x:=by
 unfold memB at h
 rw [Bool.and_eq_true] at h
 exact List.all_eq_true.1 h.2
theorem inp_val {s:Sc} (hs:SOk s) {x:List Rat} (hx:InB s.q.r x) (hp:PathAt s x) {i:Nat} {y:Rat} (hi:i < s.q.g.inp) (hy:x[i]? = some y) (up:Bool):∀ n,n≤s.path.length→if up = true then y≤(inpN s i up n).1 else (inpN s i up n).1≤y
 | 0,_=>by
  have hl:=hs.q.r.lo;have hh:=hs.q.r.hi
  obtain ⟨a,ha⟩:∃ a,s.q.r.lo[i]? = some a:=⟨_,List.getElem?_eq_getElem (by omega)⟩
  obtain ⟨c,hc⟩:∃ c,s.q.r.hi[i]? = some c:=⟨_,List.getElem?_eq_getElem (by omega)⟩
  obtain ⟨h1,h2⟩:=hx.in_ i y a c hy ha hc
  show if up = true then y≤(inp0 s i up).1 else (inp0 s i up).1≤y
  unfold inp0
  cases up
  ·simp only [Bool.false_eq_true,if_false,ha,Option.getD_some];exact h1
  ·simp only [if_true,hc,Option.getD_some];exact h2
 | n + 1,hn=>by
  have ih:=inp_val hs hx hp hi hy up n (by omega)
  obtain ⟨d,hd⟩:∃ d,s.path[n]? = some d:=⟨_,List.getElem?_eq_getElem (by omega)⟩
  have hh:=hp d (List.mem_of_getElem? hd)
  rw [inpN_succ hd]
  by_cases hc:d.kind = (if up = true then 4 else 3)∧d.idx = i∧(if up = true then d.pt < (inpN s i up n).1 else (inpN s i up n).1 < d.pt)
  ·have e:inpS up i (inpN s i up n) n d = (d.pt,⟨4,(n:Int),0,0⟩):=if_pos hc
   rw [e]
   obtain ⟨hk,hix,_⟩:=hc
   unfold holdB at hh
   rw [hix,hy] at hh
   cases up
   ·have hk:d.kind = 3:=by simpa using hk
    rw [if_pos hk] at hh
    exact cmpq_ge.1 (of_decide_eq_true hh)
   ·have hk:d.kind = 4:=by simpa using hk
    rw [if_neg (by omega),if_pos hk] at hh
    exact cmpq_le.1 (of_decide_eq_true hh)
  ·have e:inpS up i (inpN s i up n) n d = inpN s i up n:=if_neg hc
   rw [e];exact ih
theorem dec_at {s:Sc} (hs:SOk s) {x:List Rat} (hp:PathAt s x) {j:Nat} {p:Af} (hpj:s.q.g.us[j]? = some p):(decO s j = true→0≤evM p (actM s.q.g x))∧(decF s j = true→evM p (actM s.q.g x)≤0):=by
 have hpp:(preM s.q.g x)[j]? = some (evM p (actM s.q.g x)):=by unfold preM;rw [List.getElem?_map,hpj];rfl
 constructor
 ·intro h
  have h:s.path.any (fun d=>((d.kind:Int) == ((1:Nat):Int)) && ((d.idx:Int) == ((j:Nat):Int))) = true:=h
  obtain ⟨d,hd,h1⟩:=List.any_eq_true.1 h
  rw [Bool.and_eq_true,beq_iff_eq,beq_iff_eq] at h1
  have hh:=hp d hd
  unfold holdB at hh
  rw [if_neg (by omega),if_neg (by omega),if_pos (by omega),show d.idx = j by omega,hpp] at hh
  exact sg_ge.1 (of_decide_eq_true hh)
 ·intro h
  have h:s.path.any (fun d=>((d.kind:Int) == ((2:Nat):Int)) && ((d.idx:Int) == ((j:Nat):Int))) = true:=h
  obtain ⟨d,hd,h1⟩:=List.any_eq_true.1 h
  rw [Bool.and_eq_true,beq_iff_eq,beq_iff_eq] at h1
  have hh:=hp d hd
  unfold holdB at hh
  rw [if_neg (by omega),if_neg (by omega),if_neg (by omega),show d.idx = j by omega,hpp] at hh
  exact sg_le.1 (of_decide_eq_true hh)
theorem act_unit {s:Sc} (hs:SOk s) {x:List Rat} (hx:InB s.q.r x) {j:Nat} {p:Af} (hp:s.q.g.us[j]? = some p):(actM s.q.g x)[s.q.g.inp + j]? = some (mx (evM p (actM s.q.g x)) 0):=by
 have hr:=hs.q.r
 have hju:=(List.getElem?_eq_some_iff.1 hp).1
 have e1:(actM s.q.g x)[s.q.g.inp + j]? = (actN s.q.g.us x (j + 1))[s.q.g.inp + j]?:=actN_get (j + 1) (by omega) _ (by rw [hx.len,hr.lo];omega)
 rw [e1,actN_succ hp,List.getElem?_append_right (by rw [actN_len j (by omega),hx.len,hr.lo];omega),actN_len j (by omega),hx.len,hr.lo,Nat.sub_self]
 simp only [List.getElem?_cons_zero,Option.some.injEq]
 congr 1
 exact (evM_eq (m:=s.q.g.inp + j) (hs.q.g.us j p hp).var (fun i hi=>actN_get j (by omega) i (by rw [hx.len,hr.lo];omega))).symm
theorem act_inp {s:Sc} (hs:SOk s) {x:List Rat} (hx:InB s.q.r x) {i:Nat} (hi:i < s.q.g.inp):(actM s.q.g x)[i]? = x[i]?:=
 actN_get 0 (Nat.zero_le _) i (by rw [hx.len,hs.q.r.lo];omega)
theorem bnd_val {s:Sc} (hs:SOk s) {x:List Rat} (hx:InB s.q.r x) (hp:PathAt s x) (hl:Holds s.q.g x s.lems) {v:Nat} (hv:v < s.q.g.inp + s.q.g.us.length) {y:Rat} (hy:(actM s.q.g x)[v]? = some y) {up:Bool} {b:Qr} {l:List Mu}
  (h:bndM s v up = some (b,l)):if up = true then y≤b.q else b.q≤y:=by
 unfold bndM at h
 split at h
 ·rename_i hi
  simp only [Option.some.injEq,Prod.mk.injEq] at h
  obtain ⟨rfl,rfl⟩:=h
  rw [qOf_q]
  rw [act_inp hs hx hi] at hy
  exact inp_val hs hx hp hi hy up s.path.length (Nat.le_refl _)
 ·rename_i hi
  obtain ⟨j,hj⟩:∃ j,v = s.q.g.inp + j:=⟨v - s.q.g.inp,by omega⟩
  subst hj
  rw [show s.q.g.inp + j - s.q.g.inp = j by omega] at h
  obtain ⟨p,hpj⟩:∃ p,s.q.g.us[j]? = some p:=⟨_,List.getElem?_eq_getElem (by omega)⟩
  rw [act_unit hs hx hpj] at hy
  have hy:mx (evM p (actM s.q.g x)) 0 = y:=Option.some.inj hy
  obtain ⟨k1,k2,k3⟩:=mx_le (a:=evM p (actM s.q.g x)) (b:=0)
  rw [hy] at k1 k2 k3
  obtain ⟨d1,d2⟩:=dec_at hs hp hpj
  have hiB:bHi s j≠0→evM p (actM s.q.g x)≤lv s.lems (bHi s j):=fun hn=>by
   obtain ⟨m,m1,m2,m3,m4,_⟩:=best_hi hn
   have hh:=(hl m (List.mem_of_getElem? m1) p (by rw [m2];exact hpj)).1 m3
   rw [m4];exact hh
  have loB:bLo s j≠0→lv s.lems (bLo s j)≤evM p (actM s.q.g x):=fun hn=>by
   obtain ⟨m,m1,m2,m3,m4,_⟩:=best_lo hn
   have hh:=(hl m (List.mem_of_getElem? m1) p (by rw [m2];exact hpj)).2 m3
   rw [m4];exact hh
  have hr:∀ {n:Nat} {m:Lm},s.lems[n - 1]? = some m→(lvr s.lems n).q = lv s.lems n:=fun {n m} hm=>by rw [lvr_get hm,lv_get hm]
  split at h
  ·rename_i hu
   subst hu
   simp only [if_true]
   unfold highM at h
   split at h
   ·rename_i hoff
    cases h
    rw [qZero_q]
    have:evM p (actM s.q.g x)≤0:=by
     rcases hoff with e | ⟨e1,e2⟩
     ·exact d2 e
     ·exact Rat.le_trans (hiB e1) e2
    rcases k3 with k3 | k3
    ·rw [k3];exact this
    ·rw [k3];exact Rat.le_refl
   ·rename_i hoff
    split at h
    ·cases h
    ·rename_i hh
     obtain ⟨m,m1,_⟩:=best_hi hh
     have hpos:¬ lv s.lems (bHi s j)≤0:=fun e=>hoff (.inr ⟨hh,e⟩)
     have key:y≤lv s.lems (bHi s j):=by
      rcases k3 with k3 | k3
      ·rw [k3];exact hiB hh
      ·rw [k3];exact Rat.le_of_lt (Rat.not_le.1 hpos)
     split at h
     ·simp only [Option.some.injEq,Prod.mk.injEq] at h
      rw [← h.1,hr m1];exact key
     ·split at h
      ·cases h
      ·simp only [Option.some.injEq,Prod.mk.injEq] at h
       rw [← h.1,hr m1];exact key
  ·rename_i hu
   rw [if_neg hu]
   simp only [Option.some.injEq] at h
   unfold lowM at h
   split at h
   ·rename_i hc
    obtain ⟨m,m1,_⟩:=best_lo hc.1
    simp only [Prod.mk.injEq] at h
    rw [← h.1,hr m1];exact Rat.le_trans (loB hc.1) k1
   ·simp only [Prod.mk.injEq] at h
    rw [← h.1,qZero_q];exact k2
theorem box_le {s:Sc} (hs:SOk s) {x:List Rat} (hx:InB s.q.r x) (hp:PathAt s x) (hl:Holds s.q.g x s.lems) {f:Af} (hv:∀ t∈f.ts,t.1 < s.q.g.inp + s.q.g.us.length):∀ n,n≤f.ts.length→∀ b l,boxN s f n = some (b,l)→b≤evN f (actM s.q.g x) n
 | 0,_,b,l,h=>by
  simp only [boxN,List.take_zero,List.foldl_nil,Option.some.injEq,Prod.mk.injEq] at h
  rw [← h.1];exact Rat.le_refl
 | n + 1,hn,b,l,h=>by
  obtain ⟨t,ht⟩:∃ t,f.ts[n]? = some t:=⟨_,List.getElem?_eq_getElem (by omega)⟩
  have htv:=hv t (List.mem_of_getElem? ht)
  have hlen:(actM s.q.g x).length = s.q.g.inp + s.q.g.us.length:=by unfold actM;rw [actN_len _ (Nat.le_refl _),hx.len,hs.q.r.lo]
  obtain ⟨y,hy⟩:∃ y,(actM s.q.g x)[t.1]? = some y:=⟨_,List.getElem?_eq_getElem (by omega)⟩
  rw [boxN_succ ht] at h
  cases ho:boxN s f n with
  | none=>rw [ho] at h;simp [boxT] at h
  | some a=>
   obtain ⟨x0,l0⟩:=a
   rw [ho] at h
   have ih:=box_le hs hx hp hl hv n (by omega) x0 l0 ho
   unfold boxT at h
   simp only at h
   cases hbn:bndM s t.1 (decide (t.2 < 0)) with
   | none=>rw [hbn] at h;simp at h
   | some a=>
    obtain ⟨c,k⟩:=a
    rw [hbn] at h
    simp only [Option.some.injEq,Prod.mk.injEq] at h
    obtain ⟨rfl,rfl⟩:=h
    have hb:=bnd_val hs hx hp hl htv hy hbn
    rw [evN_succ ht hy]
    have key:t.2 * c.q≤t.2 * y:=by
     by_cases hneg:t.2 < 0
     ·rw [decide_eq_true hneg] at hb
      have hb:y≤c.q:=hb
      have:0≤(-t.2) * (c.q - y):=Rat.mul_nonneg (by grind) (by grind)
      grind
     ·rw [decide_eq_false hneg] at hb
      have hb:c.q≤y:=hb
      have:0≤t.2 * (y - c.q):=Rat.mul_nonneg (by grind) (by grind)
      grind
    grind
theorem boxD_le {s:Sc} (hs:SOk s) {x:List Rat} (hx:InB s.q.r x) (hp:PathAt s x) (hl:Holds s.q.g x s.lems) {f:Af} (hv:∀ t∈f.ts,t.1 < s.q.g.inp + s.q.g.us.length) (h:(boxD s f).2.2 = true):(boxD s f).1≤evM f (actM s.q.g x):=by
 cases ho:boxO s f with
 | none=>rw [boxD_none ho] at h;simp at h
 | some a=>
  obtain ⟨b,l⟩:=a
  rw [boxD_some ho]
  exact box_le hs hx hp hl hv f.ts.length (Nat.le_refl _) b l ho
end Rc
set_option linter.unusedSimpArgs false
set_option linter.unusedVariables false
namespace Rc
open Go Go.RowKit
theorem inpS_tight {up:Bool} {i k:Nat} {b:Rat × Rw} {d:Dc}:if up = true then (inpS up i b k d).1≤b.1 else b.1≤(inpS up i b k d).1:=by
 unfold inpS
 cases up
 ·simp only [Bool.false_eq_true,if_false]
  split
  ·rename_i h;exact Rat.le_of_lt h.2.2
  ·exact Rat.le_refl
 ·simp only [if_true]
  split
  ·rename_i h;exact Rat.le_of_lt h.2.2
  ·exact Rat.le_refl
theorem inpN_tight {s:Sc} {i:Nat} {up:Bool} {n:Nat}:∀ k,n + k≤s.path.length→if up = true then (inpN s i up (n + k)).1≤(inpN s i up n).1 else (inpN s i up n).1≤(inpN s i up (n + k)).1
 | 0,_=>by cases up <;> exact Rat.le_refl
 | k + 1,h=>by
  have ih:=inpN_tight (s:=s) (i:=i) (up:=up) (n:=n) k (by omega)
  obtain ⟨d,hd⟩:∃ d,s.path[n + k]? = some d:=⟨_,List.getElem?_eq_getElem (by omega)⟩
  have e:inpN s i up (n + (k + 1)) = inpS up i (inpN s i up (n + k)) (n + k) d:=inpN_succ hd
  rw [e]
  have h2:=inpS_tight (up:=up) (i:=i) (k:=n + k) (b:=inpN s i up (n + k)) (d:=d)
  cases up
  ·simp only [Bool.false_eq_true,if_false] at *;exact Rat.le_trans ih h2
  ·simp only [if_true] at *;exact Rat.le_trans h2 ih
@[reducible] def moreS (s:Sc) (e:List Dc) (r:List Lm):Sc:=⟨s.q,s.path ++ e,s.lems ++ r⟩
section
variable {s:Sc} {e:List Dc} {r:List Lm}
theorem inpN_more {i:Nat} {up:Bool}:∀ n,n≤s.path.length→inpN (moreS s e r) i up n = inpN s i up n
 | 0,_=>rfl
 | n + 1,h=>by
  obtain ⟨d,hd⟩:∃ d,s.path[n]? = some d:=⟨_,List.getElem?_eq_getElem (by omega)⟩
  have hd2:(moreS s e r).path[n]? = some d:=by show (s.path ++ e)[n]? = _;rw [List.getElem?_append_left (by omega)];exact hd
  rw [inpN_succ hd,inpN_succ hd2,inpN_more n (by omega)]
theorem inp_more {i:Nat} {up:Bool}:if up = true then (inpM (moreS s e r) i up).1≤(inpM s i up).1 else (inpM s i up).1≤(inpM (moreS s e r) i up).1:=by
 have hl:(moreS s e r).path.length = s.path.length + e.length:=by show (s.path ++ e).length = _;rw [List.length_append]
 have:=inpN_tight (s:=moreS s e r) (i:=i) (up:=up) (n:=s.path.length) e.length (by omega)
 rw [inpN_more s.path.length (Nat.le_refl _)] at this
 unfold inpM
 rw [hl];exact this
theorem dec_more {k:Nat} {j:Int} (h:decM s.path k j = true):decM (moreS s e r).path k j = true:=by
 show decM (s.path ++ e) k j = true
 unfold decM at *
 rw [List.any_append,h];rfl
theorem low_more {j:Nat}:(lowM s j).1.q≤(lowM (moreS s e r) j).1.q:=by
 obtain ⟨b1,_⟩:=best_more (l:=s.lems) (r:=r) (u:=(j:Int))
 have hr:∀ {l:List Lm} {u:Int},(best l u).1≠0→(lvr l (best l u).1).q = lv l (best l u).1:=fun {l u} h=>by
  obtain ⟨m,hm,_⟩:=best_lo h;rw [lvr_get hm,lv_get hm]
 unfold lowM
 by_cases h:bLo s j≠0∧0 < lv s.lems (bLo s j)
 ·obtain ⟨c1,c2⟩:=b1 h.1
  have h2:bLo (moreS s e r) j≠0∧0 < lv (moreS s e r).lems (bLo (moreS s e r) j):=⟨c1,by have h3:=h.2;have c2:lv s.lems (bLo s j)≤lv (moreS s e r).lems (bLo (moreS s e r) j):=c2;grind⟩
  rw [if_pos h,if_pos h2]
  simp only []
  rw [hr h.1,hr h2.1];exact c2
 ·rw [if_neg h]
  simp only [qZero_q]
  split
  ·rename_i h2
   simp only []
   rw [hr h2.1];exact Rat.le_of_lt h2.2
  ·simp only [qZero_q];exact Rat.le_refl
theorem high_more {j:Nat} {b:Qr} {l:List Mu} (h:highM s j = some (b,l)):∃ b' l',highM (moreS s e r) j = some (b',l')∧b'.q≤b.q:=by
 obtain ⟨b1,b2⟩:=best_more (l:=s.lems) (r:=r) (u:=(j:Int))
 have hr:∀ {l:List Lm} {u:Int},(best l u).2≠0→(lvr l (best l u).2).q = lv l (best l u).2:=fun {l u} h=>by
  obtain ⟨m,hm,_⟩:=best_hi h;rw [lvr_get hm,lv_get hm]
 by_cases hoff':decF (moreS s e r) j = true ∨ (bHi (moreS s e r) j≠0∧lv (moreS s e r).lems (bHi (moreS s e r) j)≤0)
 ·refine ⟨qZero,_,by unfold highM;rw [if_pos hoff'],?_⟩
  rw [qZero_q]
  unfold highM at h
  split at h
  ·cases h;rw [qZero_q];exact Rat.le_refl
  ·rename_i hoff
   split at h
   ·cases h
   ·rename_i hh
    have hpos:0≤lv s.lems (bHi s j):=Rat.le_of_lt (Rat.not_le.1 (fun e=>hoff (.inr ⟨hh,e⟩)))
    split at h
    ·simp only [Option.some.injEq,Prod.mk.injEq] at h;rw [← h.1,hr hh];exact hpos
    ·split at h
     ·cases h
     ·simp only [Option.some.injEq,Prod.mk.injEq] at h;rw [← h.1,hr hh];exact hpos
 ·have hoff:¬ (decF s j = true ∨ (bHi s j≠0∧lv s.lems (bHi s j)≤0)):=by
   rintro (q | ⟨q1,q2⟩)
   ·exact hoff' (.inl (dec_more q))
   ·obtain ⟨c1,c2⟩:=b2 q1
    exact hoff' (.inr ⟨c1,Rat.le_trans c2 q2⟩)
  unfold highM at h
  rw [if_neg hoff] at h
  split at h
  ·cases h
  ·rename_i hh
   obtain ⟨c1,c2⟩:=b2 hh
   have hb:b = lvr s.lems (bHi s j):=by
    split at h
    ·simp only [Option.some.injEq,Prod.mk.injEq] at h;exact h.1.symm
    ·split at h
     ·cases h
     ·simp only [Option.some.injEq,Prod.mk.injEq] at h;exact h.1.symm
   have hex:decO s j = true ∨ bLo s j≠0:=by
    split at h
    ·rename_i hon;exact hon.imp id (fun q=>q.1)
    ·split at h
     ·cases h
     ·rename_i hl;exact .inr hl
   have hle:(lvr (moreS s e r).lems (bHi (moreS s e r) j)).q≤b.q:=by rw [hb,hr hh,hr c1];exact c2
   unfold highM
   rw [if_neg hoff',if_neg c1]
   by_cases hon':decO (moreS s e r) j = true ∨ (bLo (moreS s e r) j≠0∧0≤lv (moreS s e r).lems (bLo (moreS s e r) j))
   ·rw [if_pos hon'];exact ⟨_,_,rfl,hle⟩
   ·rw [if_neg hon']
    have hlo':bLo (moreS s e r) j≠0:=by
     rcases hex with q | q
     ·exact absurd (.inl (dec_more q)) hon'
     ·exact (b1 q).1
    rw [if_neg hlo'];exact ⟨_,_,rfl,hle⟩
theorem bnd_more {v:Nat} {up:Bool} {b:Qr} {l:List Mu} (h:bndM s v up = some (b,l)):∃ b' l',bndM (moreS s e r) v up = some (b',l')∧if up = true then b'.q≤b.q else b.q≤b'.q:=by
 unfold bndM at *
 split at h
 ·rename_i hi
  simp only [Option.some.injEq,Prod.mk.injEq] at h
  have hi2:v < (moreS s e r).q.g.inp:=hi
  rw [if_pos hi2]
  refine ⟨_,_,rfl,?_⟩
  rw [← h.1,qOf_q,qOf_q]
  exact inp_more
 ·rename_i hi
  have hi2:¬ v < (moreS s e r).q.g.inp:=hi
  rw [if_neg hi2]
  split at h
  ·rename_i hu
   rw [if_pos hu]
   subst hu
   exact high_more h
  ·rename_i hu
   rw [if_neg hu]
   simp only [Option.some.injEq] at h
   refine ⟨_,_,rfl,?_⟩
   rw [if_neg hu]
   have:b = (lowM s (v - s.q.g.inp)).1:=by rw [h]
   rw [this];exact low_more
theorem box_more {f:Af}:∀ n,n≤f.ts.length→∀ x l,boxN s f n = some (x,l)→∃ x' l',boxN (moreS s e r) f n = some (x',l')∧x≤x'
 | 0,_,x,l,h=>by
  simp only [boxN,List.take_zero,List.foldl_nil,Option.some.injEq,Prod.mk.injEq] at h
  exact ⟨f.c,[],rfl,by rw [h.1];exact Rat.le_refl⟩
 | n + 1,hn,x,l,h=>by
  obtain ⟨t,ht⟩:∃ t,f.ts[n]? = some t:=⟨_,List.getElem?_eq_getElem (by omega)⟩
  rw [boxN_succ ht] at h ⊢
  cases ho:boxN s f n with
  | none=>rw [ho] at h;simp [boxT] at h
  | some a=>
   obtain ⟨x0,l0⟩:=a
   rw [ho] at h
   obtain ⟨x1,l1,h1,h2⟩:=box_more n (by omega) x0 l0 ho
   rw [h1]
   unfold boxT at h ⊢
   simp only at h ⊢
   cases hbn:bndM s t.1 (decide (t.2 < 0)) with
   | none=>rw [hbn] at h;simp at h
   | some a=>
    obtain ⟨c,k⟩:=a
    rw [hbn] at h
    simp only [Option.some.injEq,Prod.mk.injEq] at h
    obtain ⟨c',k',h3,h4⟩:=bnd_more (e:=e) (r:=r) hbn
    rw [h3]
    refine ⟨_,_,rfl,?_⟩
    rw [← h.1]
    have key:t.2 * c.q≤t.2 * c'.q:=by
     by_cases hneg:t.2 < 0
     ·rw [decide_eq_true hneg] at h4
      have h4:c'.q≤c.q:=h4
      have:0≤(-t.2) * (c.q - c'.q):=Rat.mul_nonneg (by grind) (by grind)
      grind
     ·rw [decide_eq_false hneg] at h4
      have h4:c.q≤c'.q:=h4
      have:0≤t.2 * (c'.q - c.q):=Rat.mul_nonneg (by grind) (by grind)
      grind
    grind
theorem boxD_more {f:Af} (h:(boxD s f).2.2 = true):(boxD (moreS s e r) f).2.2 = true∧(boxD s f).1≤(boxD (moreS s e r) f).1:=by
 cases ho:boxO s f with
 | none=>rw [boxD_none ho] at h;simp at h
 | some a=>
  obtain ⟨x,l⟩:=a
  obtain ⟨x',l',h1,h2⟩:=box_more (e:=e) (r:=r) f.ts.length (Nat.le_refl _) x l ho
  rw [boxD_some ho,boxD_some h1]
  exact ⟨rfl,h2⟩
end
theorem runM_app (d:Dom) (s:Sc) (bits:Int):∃ r,(runM d s bits).lems = s.lems ++ r:=by
 obtain ⟨r,h,_⟩:=runN_more d s bits 0 s.q.g.us.length
 rw [Nat.zero_add] at h
 exact ⟨r,h⟩
end Rc
set_option linter.unusedSimpArgs false
set_option linter.unusedVariables false
namespace Rc
open Go Go.RowKit
def boE:El Bool:=⟨fun b=>[Leaf.val (.bool b)],1,fun _=>rfl,fun _=>rfl⟩
@[reducible] def vwL (s:Sc):List Leaf:=[Leaf.val (.int .i64 (s.q.g.inp:Int)),afE.row s.q.g.us,afE.row s.q.g.os,ratE.row s.q.r.lo,ratE.row s.q.r.hi,afE.row s.q.r.rows,tmE.row s.q.goal.ts,Leaf.val (.bool (cneg s.q.goal.c)),natL (limbs (cnum s.q.goal.c)),natL (limbs (cden s.q.goal.c)),dcE.row s.path,lmE.row s.lems,boE.row (List.replicate s.path.length true)]
@[reducible] def vwV (s:Sc):V:=V.one (Leaf.rep (ptrRep (vwL s)))
theorem rep_get {n i:Nat} (h:i < n):(List.replicate n true)[i]? = some true:=by rw [List.getElem?_replicate,if_pos h]
theorem rep_snoc (n:Nat):List.replicate n true ++ [true] = List.replicate (n + 1) true:=by rw [← List.replicate_succ']
theorem lvr_q (l:List Lm) (n:Nat):(lvr l n).q = lv l n:=by
 unfold lvr lv;split <;> rename_i h
 ·rw [h]
 ·rw [h];exact qZero_q
theorem lvr_fq {B:Nat} {l:List Lm} (h:∀ m∈l,Fq m.v B) (n:Nat):Fq (lvr l n) B:=by
 unfold lvr;split
 ·rename_i m hm;exact h m (List.mem_of_getElem? hm)
 ·exact ⟨qZero_fit⟩
def highP (s:Sc) (j:Nat):Qr × List Mu × Bool:=match highM s j with | some (b,l)=>(b,l,true) | none=>(qZero,[],false)
def bndP (s:Sc) (v:Nat) (up:Bool):Qr × List Mu × Bool:=match bndM s v up with | some (b,l)=>(b,l,true) | none=>(qZero,[],false)
def hiOff (s:Sc) (j:Nat):Bool:=decF s j || (decide (bHi s j≠0) && decide (lv s.lems (bHi s j)≤0))
def hiOn (s:Sc) (j:Nat):Bool:=decO s j || (decide (bLo s j≠0) && decide (0≤lv s.lems (bLo s j)))
theorem hiOff_iff {s:Sc} {j:Nat}:hiOff s j = true↔(decF s j = true ∨ (bHi s j≠0∧lv s.lems (bHi s j)≤0)):=by
 unfold hiOff;rw [Bool.or_eq_true,Bool.and_eq_true,decide_eq_true_iff,decide_eq_true_iff]
theorem hiOn_iff {s:Sc} {j:Nat}:hiOn s j = true↔(decO s j = true ∨ (bLo s j≠0∧0≤lv s.lems (bLo s j))):=by
 unfold hiOn;rw [Bool.or_eq_true,Bool.and_eq_true,decide_eq_true_iff,decide_eq_true_iff]
section
variable {s:Sc} {j:Nat}
@[reducible] def offRow (s:Sc) (j:Nat):Rw:=⟨10,(j:Int),0,if decF s j = true then 0 else (bHi s j:Int)⟩
@[reducible] def onRow (s:Sc) (j:Nat):Rw:=⟨8,(j:Int),if decO s j = true then 0 else (bLo s j:Int),0⟩
theorem offRow_t (h:decF s j = true):offRow s j = ⟨10,(j:Int),0,0⟩:=by unfold offRow;rw [if_pos h]
theorem offRow_f (h:decF s j = false):offRow s j = ⟨10,(j:Int),0,(bHi s j:Int)⟩:=by unfold offRow;rw [if_neg (by rw [h];decide)]
theorem onRow_t (h:decO s j = true):onRow s j = ⟨8,(j:Int),0,0⟩:=by unfold onRow;rw [if_pos h]
theorem onRow_f (h:decO s j = false):onRow s j = ⟨8,(j:Int),(bLo s j:Int),0⟩:=by unfold onRow;rw [if_neg (by rw [h];decide)]
theorem highM_off (h:hiOff s j = true):highM s j = some (qZero,one1 (offRow s j)):=by
 unfold highM;rw [if_pos (hiOff_iff.1 h)]
theorem highM_n1 (h:hiOff s j = false) (h1:bHi s j = 0):highM s j = none:=by
 unfold highM;rw [if_neg (fun e=>by rw [hiOff_iff.2 e] at h;cases h),if_pos h1]
theorem highM_on (h:hiOff s j = false) (h1:bHi s j≠0) (h2:hiOn s j = true):highM s j = some (lvr s.lems (bHi s j),[⟨onRow s j,qOf ((1:Int):Rat)⟩,⟨⟨12,(j:Int),0,(bHi s j:Int)⟩,qOf ((1:Int):Rat)⟩]):=by
 unfold highM;rw [if_neg (fun e=>by rw [hiOff_iff.2 e] at h;cases h),if_neg h1,if_pos (hiOn_iff.1 h2)]
theorem highM_n2 (h:hiOff s j = false) (h1:bHi s j≠0) (h2:hiOn s j = false) (h3:bLo s j = 0):highM s j = none:=by
 unfold highM;rw [if_neg (fun e=>by rw [hiOff_iff.2 e] at h;cases h),if_neg h1,if_neg (fun e=>by rw [hiOn_iff.2 e] at h2;cases h2),if_pos h3]
theorem highM_tri (h:hiOff s j = false) (h1:bHi s j≠0) (h2:hiOn s j = false) (h3:bLo s j≠0):highM s j = some (lvr s.lems (bHi s j),[⟨⟨12,(j:Int),0,(bHi s j:Int)⟩,qOf ((lvr s.lems (bHi s j)).q * (((1:Int):Rat) / ((lvr s.lems (bHi s j)).q - (lvr s.lems (bLo s j)).q)))⟩,⟨⟨13,(j:Int),(bLo s j:Int),(bHi s j:Int)⟩,qOf (((1:Int):Rat) / ((lvr s.lems (bHi s j)).q - (lvr s.lems (bLo s j)).q))⟩]):=by
 rw [lvr_q,lvr_q]
 unfold highM;rw [if_neg (fun e=>by rw [hiOff_iff.2 e] at h;cases h),if_neg h1,if_neg (fun e=>by rw [hiOn_iff.2 e] at h2;cases h2),if_neg h3]
theorem highP_some {b:Qr} {l:List Mu} (h:highM s j = some (b,l)):highP s j = (b,l,true):=by unfold highP;rw [h]
theorem highP_none (h:highM s j = none):highP s j = (qZero,[],false):=by unfold highP;rw [h]
theorem tri_ne (h:hiOff s j = false) (h1:bHi s j≠0) (h2:hiOn s j = false) (h3:bLo s j≠0):(lvr s.lems (bHi s j)).q - (lvr s.lems (bLo s j)).q≠0:=by
 rw [lvr_q,lvr_q]
 have a1:¬ lv s.lems (bHi s j)≤0:=fun e=>by rw [hiOff_iff.2 (.inr ⟨h1,e⟩)] at h;cases h
 have a2:¬ 0≤lv s.lems (bLo s j):=fun e=>by rw [hiOn_iff.2 (.inr ⟨h3,e⟩)] at h2;cases h2
 grind
theorem bndP_in {v:Nat} {up:Bool} (h:v < s.q.g.inp):bndP s v up = (qOf (inpM s v up).1,one1 (inpM s v up).2,true):=by unfold bndP bndM;rw [if_pos h]
theorem bndP_up {v:Nat} (h:¬ v < s.q.g.inp):bndP s v true = highP s (v - s.q.g.inp):=by unfold bndP bndM highP;rw [if_neg h,if_pos rfl]
theorem bndP_lo {v:Nat} (h:¬ v < s.q.g.inp):bndP s v false = ((lowM s (v - s.q.g.inp)).1,(lowM s (v - s.q.g.inp)).2,true):=by unfold bndP bndM;rw [if_neg h,if_neg (by decide)]
theorem bndP_t {v:Nat} {up:Bool} (h:(bndP s v up).2.2 = true):bndM s v up = some ((bndP s v up).1,(bndP s v up).2.1):=by
 unfold bndP at *;split at h
 ·rename_i b l e;rw [e]
 ·cases h
theorem bndP_f {v:Nat} {up:Bool} (h:(bndP s v up).2.2 = false):bndM s v up = none:=by
 unfold bndP at *;split at h
 ·cases h
 ·rename_i e;rw [e]
theorem lowM_t (h:bLo s j≠0∧0 < lv s.lems (bLo s j)):lowM s j = (lvr s.lems (bLo s j),[⟨⟨6,(j:Int),0,0⟩,qOf ((1:Int):Rat)⟩,⟨⟨11,(j:Int),(bLo s j:Int),0⟩,qOf ((1:Int):Rat)⟩]):=if_pos h
theorem lowM_f (h:¬ (bLo s j≠0∧0 < lv s.lems (bLo s j))):lowM s j = (qZero,one1 ⟨5,(j:Int),0,0⟩):=if_neg h
end
theorem inpN_t {s:Sc} {i n:Nat} {up:Bool} {d:Dc} (hd:s.path[n]? = some d) (h:d.kind = (if up = true then 4 else 3)∧d.idx = i∧(if up = true then d.pt < (inpN s i up n).1 else (inpN s i up n).1 < d.pt)):inpN s i up (n + 1) = (d.pt,⟨4,(n:Int),0,0⟩):=by rw [inpN_succ hd];exact if_pos h
theorem inpN_f {s:Sc} {i n:Nat} {up:Bool} {d:Dc} (hd:s.path[n]? = some d) (h:¬ (d.kind = (if up = true then 4 else 3)∧d.idx = i∧(if up = true then d.pt < (inpN s i up n).1 else (inpN s i up n).1 < d.pt))):inpN s i up (n + 1) = inpN s i up n:=by rw [inpN_succ hd];exact if_neg h
theorem inpN_hb {B:Nat} {s:Sc} (hs:SB B s) {i:Nat} (hi:i < s.q.g.inp) (up:Bool) {n:Nat} (hn:n≤s.path.length):Br (inpN s i up n).1 201:=(inp_ok hs hi up n hn).hb.br
@[reducible] def absM (c:Rat):Rat:=mx c (-c)
theorem absM_eq (c:Rat):absM c = rq false (cnum c) (cden c):=by
 obtain ⟨a1,a2⟩:=abs_cases c
 by_cases h:c < 0
 ·rw [a1 h];unfold absM mx;split <;> grind
 ·rw [a2 h];unfold absM mx;split <;> grind
def boxQ (s:Sc) (a:Option (Rat × List Mu)) (t:Tm):Option (Rat × List Mu):=
 match a with
 | none=>none
 | some (x,l)=>match bndM s t.1 (decide (t.2 < 0)) with
  | none=>none
  | some (b,m)=>some (x + t.2 * b.q,l ++ sclM (absM t.2) m)
def boxR (s:Sc) (f:Af) (n:Nat):Option (Rat × List Mu):=(f.ts.take n).foldl (boxQ s) (some (f.c,[]))
theorem boxR_succ {s:Sc} {f:Af} {n:Nat} {t:Tm} (h:f.ts[n]? = some t):boxR s f (n + 1) = boxQ s (boxR s f n) t:=by
 unfold boxR;rw [take_snoc h,List.foldl_append];rfl
theorem boxQ_coll {s:Sc} {a:Option (Rat × List Mu)} {t:Tm}:(boxQ s a t).map (fun p=>(p.1,collM p.2)) = boxT s (a.map fun p=>(p.1,collM p.2)) t:=by
 cases a with
 | none=>rfl
 | some p=>
  obtain ⟨x,l⟩:=p
  unfold boxQ boxT
  simp only [Option.map_some]
  cases bndM s t.1 (decide (t.2 < 0)) with
  | none=>rfl
  | some b=>simp only [Option.map_some];rw [coll_scl,absM_eq]
theorem boxR_coll {s:Sc} {f:Af} (n:Nat):(boxR s f n).map (fun p=>(p.1,collM p.2)) = boxN s f n:=by
 unfold boxR boxN
 have:∀ (ts:List Tm) (a:Option (Rat × List Mu)),(ts.foldl (boxQ s) a).map (fun p=>(p.1,collM p.2)) = ts.foldl (boxT s) (a.map fun p=>(p.1,collM p.2)):=by
  intro ts
  induction ts with
  | nil=>intro a;rfl
  | cons t ts ih=>intro a;rw [List.foldl_cons,List.foldl_cons,ih,boxQ_coll]
 exact this _ _
structure PlOk (B F n:Nat) (l:List Mu):Prop where
 len:l.length≤2 * n
 mb:MB (4 * B + F + 20) l
 cof:CofOk l
theorem abs_nn (c:Rat):0≤absM c:=by rw [absM_eq];exact abs_nonneg c
theorem absM_br {c:Rat} {B:Nat} (h:Br c B):Br (absM c) (B + 1):=by
 unfold absM mx;split
 ·exact h.mono (by omega)
 ·haveI:=h;exact (inferInstance:Br (-c) _).mono (by omega)
theorem scl_mem {c:Rat} {m:Mu} {l:List Mu} (h:m∈sclM c l):∃ x∈l,m = ⟨x.r,qOf (c * x.c.q)⟩:=by
 obtain ⟨x,hx,rfl⟩:=List.mem_map.1 h;exact ⟨x,hx,rfl⟩
theorem PlOk.next {B F n:Nat} {l:List Mu} (h:PlOk B F n l) {s:Sc} {m:List Mu} (hm:StepOk s (4 * B + 12) m) {c:Rat} (hc:Br c F):PlOk B F (n + 1) (l ++ sclM (absM c) m):=by
 refine ⟨?_,fun x hx=>?_,fun x hx=>?_⟩
 ·have h1:=h.len;have h2:=hm.len
  simp only [List.length_append,sclM,List.length_map];omega
 ·rcases List.mem_append.1 hx with hx | hx
  ·exact h.mb x hx
  ·obtain ⟨y,hy,rfl⟩:=scl_mem hx
   haveI:=absM_br hc;haveI:=hm.bd y hy
   exact (Fq.of (r:=absM c * y.c.q)).mono (by omega)
 ·rcases List.mem_append.1 hx with hx | hx
  ·exact h.cof x hx
  ·obtain ⟨y,hy,rfl⟩:=scl_mem hx
   show qOf _ = qOf (qOf _).q∧0≤(qOf _).q
   rw [qOf_q]
   exact ⟨rfl,Rat.mul_nonneg (abs_nn c) (Rat.le_of_lt (hm.pos y hy))⟩
theorem scl_take {c:Rat} {m:List Mu} {k:Nat} {x:Mu} (h:m[k]? = some x):sclM c (m.take k) ++ [⟨x.r,qOf (c * x.c.q)⟩] = sclM c (m.take (k + 1)):=by
 unfold sclM;rw [take_snoc h,List.map_append];rfl
theorem boxR_get {s:Sc} {f:Af} {n:Nat} {x:Rat} {l:List Mu} (h:boxR s f n = some (x,l)):boxN s f n = some (x,collM l):=by rw [← boxR_coll,h];rfl
theorem boxR_step {s:Sc} {f:Af} {n:Nat} {t:Tm} {x:Rat} {l:List Mu} (ht:f.ts[n]? = some t) (h:boxR s f n = some (x,l)) (hb:(bndP s t.1 (decide (t.2 < 0))).2.2 = true) :
  boxR s f (n + 1) = some (x + t.2 * (bndP s t.1 (decide (t.2 < 0))).1.q,l ++ sclM (absM t.2) (bndP s t.1 (decide (t.2 < 0))).2.1):=by
 rw [boxR_succ ht,h];unfold boxQ;simp only [bndP_t hb]
theorem boxR_stop {s:Sc} {f:Af} {n:Nat} {t:Tm} {x:Rat} {l:List Mu} (ht:f.ts[n]? = some t) (h:boxR s f n = some (x,l)) (hb:(bndP s t.1 (decide (t.2 < 0))).2.2 = false):boxD s f = (0,[],false):=by
 refine boxD_none (boxO_none (n:=n + 1) ?_)
 rw [boxN_succ ht,boxR_get h];unfold boxT;simp only [bndP_f hb]
theorem boxR_end {s:Sc} {f:Af} {x:Rat} {l:List Mu} (h:boxR s f f.ts.length = some (x,l)):boxD s f = (x,collM l,true):=boxD_some (boxR_get h)
theorem inp_sg {up:Bool} {a b:Rat}:cmpq a b = (if up = true then (-1:Int) else 1)↔(if up = true then a < b else b < a):=by
 cases up
 ·simp only [Bool.false_eq_true,if_false];exact cmpq_gt1
 ·simp only [if_true];exact cmpq_lt1
theorem PlOk.start {B F:Nat}:PlOk B F 0 []:=⟨by simp,fun m hm=>by simp at hm,fun m hm=>by simp at hm⟩
end Rc
set_option linter.unusedSimpArgs false
set_option linter.unusedVariables false
namespace Go.Proofs.YtmpkandbccallaaGreatDoor
open Go Go.RowKit Rc
set_option maxRecDepth 10000 in
theorem qsub (x:Qr) (r:Rat) (hr:x.q = r) (hfx:Fit 200000000000 x) (y:Qr) (s:Rat) (hs:y.q = s) (hfy:Fit 200000000000 y):Ctr Tryz.prog 151 [qV x,qV y] (R.one (qV (qOf (r - s)))):=by
 refine bd_ Tryz.func151 Tryz.ntmps151 rfl (fun w0 A0=>?_)
 haveI ixn:Bn (val x.n) 200000000000:=Bn.val x.hn hfx.n
 haveI ixd:Bn (val x.d) 200000000000:=Bn.val x.hd hfx.d
 haveI iyn:Bn (val y.n) 200000000000:=Bn.val y.hn hfy.n
 haveI iyd:Bn (val y.d) 200000000000:=Bn.val y.hd hfy.d
 haveI ir:Br r 200000000000:=hr ▸ Br.q hfx
 haveI is:Br s 200000000000:=hs ▸ Br.q hfy
 refine zc 20 rfl (tc_ fn44 rfl (qadd x (r) hr (hfx.mono (by omega)) (Qr.mk (!y.neg) y.n y.d y.hn y.hd) (-(s)) (qr_neg hs) (Fit.neg (hfy.mono (by omega)))) (zl 3 rfl ?_))
 exact r1_ hq_ rfl (by rw [Rat.sub_eq_add_neg] <;> rfl)
set_option maxRecDepth 10000 in
theorem qdiv (x:Qr) (r:Rat) (hr:x.q = r) (hfx:Fit 1000000000000 x) (y:Qr) (s:Rat) (hs:y.q = s) (hfy:Fit 1000000000000 y) (hs0:s≠0):Ctr Tryz.prog 150 [qV x,qV y] (R.tup [qV (qOf (r / s)),V.one (Leaf.val (.int .i64 0))]):=by
 refine bd_ Tryz.func150 Tryz.ntmps150 rfl (fun w0 A0=>?_)
 haveI ixn:Bn (val x.n) 1000000000000:=Bn.val x.hn hfx.n
 haveI ixd:Bn (val x.d) 1000000000000:=Bn.val x.hd hfx.d
 haveI iyn:Bn (val y.n) 1000000000000:=Bn.val y.hn hfy.n
 haveI iyd:Bn (val y.d) 1000000000000:=Bn.val y.hd hfy.d
 have hyn:val y.n≠0:=fun e=>hs0 (by rw [← hs];unfold Qr.q;rw [rq_eq_zero];exact e)
 refine zc 12 rfl (tc_ fn43 rfl (qsign y (s) hs (hfy.mono (by omega))) (tq_ rfl (eqF rfl (sg_ne hs0)) (zl 6 rfl (dr_ 0 [(16,2)] [2] (dz 4 rfl (kq_ rfl (Jq_neq_bool rfl rfl rfl un4 (d:=_) (rfl)) (dz 3 rfl (kc_ fn101 rfl (qunder y (hfy.mono (by omega))) ?_))))))))
 refine kc_ fn100 rfl (mul_w x.n x.hn (hfx.mono (by omega)).n (dl y.d) (small_dl y.hd) (len_dl hfy.d (by omega)) (val x.n) rfl (dn (val y.d)) (val_dl _)) (dz 1 rfl (kc_ fn101 rfl (qunder x (hfx.mono (by omega))) (dz 2 rfl (kc_ fn100 rfl (mul_w (dl x.d) (small_dl x.hd) (len_dl hfx.d (by omega)) y.n y.hn (hfy.mono (by omega)).n (dn (val x.d)) (val_dl _) (val y.n) rfl) ?_))))
 refine kc_ fn99 rfl (qquot (x.neg != y.neg) (limbs ((val x.n) * (dn (val y.d)))) (limbs ((dn (val x.d)) * (val y.n))) (small_limbs _) (small_limbs _) (Bn.use (by omega)) (Bn.use (by omega)) ((val x.n) * (dn (val y.d))) ((dn (val x.d)) * (val y.n)) (val_limbs _) (val_limbs _) (Nat.mul_ne_zero (dn_ne _) hyn)) (dz 2 rfl (DK_nil (za 1 rfl ?_)))
 exact r2_ hq_ rfl (by subst hr;subst hs;rw [rq_quo _ _ _ _ _ _ hyn] <;> rfl)
set_option maxRecDepth 10000 in
theorem zero_p (x:Rat) (h:x = 0):Ctr Tryz.prog 189 [V.agg (qL (x))] (R.one (V.one (Leaf.val (.bool true)))):=by
 refine bd_ Tryz.func189 Tryz.ntmps189 rfl (fun w0 A0=>?_)
 refine zc 11 rfl (is_ true rfl (by rw [h];rfl) (zl 3 rfl (tq_ rfl (jln rfl) (tq_ rfl (eqT rfl (by rw [h,cnum_zero,limbs_zero];rfl)) (zl 4 rfl (tq_ rfl (jln rfl) (tq_ rfl (eqT rfl (by rw [h,cden_zero,limbs_zero];rfl)) (zl 4 rfl ?_))))))))
 exact r1_ hq_ rfl rfl
set_option maxRecDepth 10000 in
theorem fits_i (q:Qu) (d:Dc) {b:Nat} (hd:DOk b q d) (hb:b≤1000000):Ctr Tryz.prog 144 [quV q,dcV d] (R.one (V.one (Leaf.val (.bool true)))):=by
 refine bd_ Tryz.func144 Tryz.ntmps144 rfl (fun w0 A0=>?_)
 obtain ⟨hk,hbt⟩:=hd
 haveI:=hbt.br
 have hkk:d.kind = 1 ∨ d.kind = 2 ∨ d.kind = 3 ∨ d.kind = 4:=by rcases hk with ⟨h,_⟩ | ⟨h,_⟩ <;> omega
 refine zc 18 rfl ?_
 by_cases h1:d.kind = 1
 ·refine tq_ rfl (eqT rfl) (zl 8 rfl ?_)
  have hp0:d.idx < q.g.us.length∧d.pt = 0:=by rcases hk with ⟨_,h⟩ | ⟨h,_⟩ <;> first | exact h | omega
  refine zc 3 rfl (tq_ rfl (geT rfl) (zl 6 rfl (tq_ rfl (jln rfl) (tq_ rfl (ltT rfl) (zl 4 rfl (tc_ fn189 rfl (zero_p d.pt hp0.2) (zl 4 rfl ?_)))))))
  exact r1_ hq_ rfl rfl
 ·refine tq_ rfl (eqF rfl) (zl 5 rfl ?_)
  by_cases h2:d.kind = 2
  ·refine tq_ rfl (eqT rfl) (zl 5 rfl ?_)
   have hp0:d.idx < q.g.us.length∧d.pt = 0:=by rcases hk with ⟨_,h⟩ | ⟨h,_⟩ <;> first | exact h | omega
   refine zc 3 rfl (tq_ rfl (geT rfl) (zl 6 rfl (tq_ rfl (jln rfl) (tq_ rfl (ltT rfl) (zl 4 rfl (tc_ fn189 rfl (zero_p d.pt hp0.2) (zl 4 rfl ?_)))))))
   exact r1_ hq_ rfl rfl
  ·refine tq_ rfl (eqF rfl) (zl 7 rfl ?_)
   by_cases h3:d.kind = 3
   ·refine tq_ rfl (eqT rfl) (zl 8 rfl ?_)
    have hp0:d.idx < q.g.inp:=by rcases hk with ⟨h,_⟩ | ⟨_,h⟩ <;> first | exact h | omega
    refine zc 3 rfl (tq_ rfl (geT rfl) (zl 6 rfl (tq_ rfl (ltT rfl) (zl 4 rfl (tc_ fn90 rfl (qvalid (qOf (d.pt)) (d.pt) (qOf_q _) (Br.use (by omega))) (is_ true rfl (isC_of _) (zl 4 rfl ?_)))))))
    exact r1_ hq_ rfl rfl
   ·refine tq_ rfl (eqF rfl) (zl 5 rfl (tq_ rfl (eqT rfl) (zl 5 rfl ?_)))
    have hp0:d.idx < q.g.inp:=by rcases hk with ⟨h,_⟩ | ⟨_,h⟩ <;> first | exact h | omega
    refine zc 3 rfl (tq_ rfl (geT rfl) (zl 6 rfl (tq_ rfl (ltT rfl) (zl 4 rfl (tc_ fn90 rfl (qvalid (qOf (d.pt)) (d.pt) (qOf_q _) (Br.use (by omega))) (is_ true rfl (isC_of _) (zl 4 rfl ?_)))))))
    exact r1_ hq_ rfl rfl
set_option maxRecDepth 10000 in
theorem fits_p (q:Qu) (hq:QOk q) (d:Dc) {b:Nat} (hd:DOk b q d) (hb:b≤1000000):Ctr Tryz.prog 89 [quV q,dcV d] (R.one (V.one (Leaf.val (.bool true)))):=by
 refine bd_ Tryz.func89 Tryz.ntmps89 rfl (fun w0 A0=>?_)
 refine zc 10 rfl (tc_ fn75 rfl (qvalid_p q hq) (zl 3 rfl (tc_ fn144 rfl (fits_i q d hd hb) (zl 4 rfl ?_))))
 exact r1_ hq_ rfl rfl
set_option maxRecDepth 10000 in
theorem gvars_p (g:Gr) (hg:GOk g):Ctr Tryz.prog 41 [grV g] (R.one (V.one (Leaf.val (.int .i64 (((g.inp + g.us.length:Nat):Int)))))):=by
 refine bd_ Tryz.func41 Tryz.ntmps41 rfl (fun w0 A0=>?_)
 have h1:=hg.i1;have h2:=hg.i3;have h3:=hg.u4;have h4:=hg.o1;have h5:=hg.o3
 refine zc 10 rfl (tc_ fn91 rfl (gvalid_p g (by assumption)) (zl 12 rfl (tq_ rfl (jln rfl) (tq_ rfl (jad (g.inp + g.us.length) rfl) (zl 3 rfl ?_)))))
 exact r1_ hq_ rfl rfl
set_option maxRecDepth 10000 in
theorem look_p (s:Sc) (hs:SB 40001 s):Ctr Tryz.prog 39 [scV s] (R.tup [vwV s,V.one (Leaf.val (.bool true))]):=by
 refine bd_ Tryz.func39 Tryz.ntmps39 rfl (fun w0 A0=>?_)
 have hB:=hs.B;have hq:=hs.q;have hd:=hs.d;have hpl:=hs.pl;have hl:=hs.ll
 have hg:=hq.g;have hr:=hq.r;have hlo:=hr.lo;have hhi:=hr.hi
 have h1:=hg.i1;have h2:=hg.i3;have h3:=hg.u4;have h4:=hg.o1;have h5:=hg.o3
 refine zc 12 rfl (tc_ fn75 rfl (qvalid_p s.q hq) (zl 9 rfl (tq_ rfl (Jq_build rfl tx144 rfl pl144 rfl) (zl 6 rfl ?_))))
 refine Tc_growB 1 4 1 (ls':=[Leaf.val (.int .i64 ((s.q.g.inp:Nat):Int)),El.row afE s.q.g.us,El.row afE s.q.g.os,El.row ratE s.q.r.lo,El.row ratE s.q.r.hi,El.row afE s.q.r.rows,El.row tmE s.q.goal.ts,Leaf.val (.bool (cneg s.q.goal.c)),natL (limbs (cnum s.q.goal.c)),natL (limbs (cden s.q.goal.c)),El.row dcE s.path,El.row lmE s.lems,Leaf.own 2 0]) rfl rfl rfl ⟨.inl rfl,.inl rfl,.inl rfl,.inl rfl,.inl rfl,.inl rfl,.inl rfl,.inl rfl,.inl rfl,.inl rfl,.inl rfl,.inl rfl,.inr ⟨rfl,rfl⟩,trivial⟩ ?_
 refine zc 3 rfl (tq_ rfl (jln rfl) (zl 4 rfl ?_))
 refine lpR_ (fun m Γ H=>∃ (i:Nat) (n:Nat) (out:List Bool),s.path.length - i = m∧Γ = [(1,some (D.ptr 0 0)),(4,some (D.ptr 1 0)),(15,some (D.v (V.one (El.row dcE s.path)))),(16,some (D.val (.int .i64 ((s.path.length:Nat):Int)))),(17,some (D.val (.int .i64 ((i:Nat):Int))))]∧H = [hb_ 42 (scL s),hb_ 144 (quL s.q ++ [El.row dcE s.path,El.row lmE s.lems,Leaf.own 2 n]),hgr 4 1 boE out n]∧i≤s.path.length∧out = List.replicate i true) ⟨0,0,[],rfl,rfl,rfl,Nat.zero_le _,rfl⟩ rfl ?_
 rintro m Γ H ⟨i,n,out,rfl,rfl,rfl,hi0,hout⟩
 refine zc 2 rfl ?_
 by_cases hi:i < s.path.length
 ·refine tq_ rfl (ltT rfl) (zl 9 rfl ?_)
  obtain ⟨d,hdx⟩:∃ d,s.path[i]? = some d:=⟨_,List.getElem?_eq_getElem hi⟩
  have hdo:=hd d (List.mem_of_getElem? hdx)
  have hol:out.length≤100:=by rw [hout,List.length_replicate];omega
  refine zc 1 rfl (tq_ rfl (jix i hdx rfl) (tq_ rfl (jlr rfl) (zl 4 rfl (dr_ 0 [(10,2),(13,1)] [2,1] (dz 4 rfl (kp_ [2] rfl (jld rfl) (dz 3 rfl (kc_ fn89 rfl (fits_p s.q hq d hdo (by omega)) (ke_ rfl (fun _=>Je_buildSlice rfl un142 ty4 tz4 rfl (by decide) (by decide) rfl (by decide) rfl) ?_)))))))))
  refine ki_ 2 rfl (dap true rfl rfl) (dz 3 rfl (DK_nil (za 3 rfl (tq_ rfl (jad (i + 1) rfl) (zl 2 rfl (At_free 3 (trim_ 3 rfl ?_)))))))
  exact nx_ ⟨i + 1,_,_,rfl,rfl,rfl,hi,(by rw [hout,rep_snoc])⟩ rfl
 ·refine tq_ rfl (ltF rfl) (zl 10 rfl ?_)
  have hie:i = s.path.length:=by omega
  rw [hie] at hout
  refine Tc_viewB 1 (ls':=[Leaf.val (.int .i64 ((s.q.g.inp:Nat):Int)),El.row afE s.q.g.us,El.row afE s.q.g.os,El.row ratE s.q.r.lo,El.row ratE s.q.r.hi,El.row afE s.q.r.rows,El.row tmE s.q.goal.ts,Leaf.val (.bool (cneg s.q.goal.c)),natL (limbs (cnum s.q.goal.c)),natL (limbs (cden s.q.goal.c)),El.row dcE s.path,El.row lmE s.lems,El.row boE out]) rfl rfl (RowAt.ofE boE out rfl (by decide)) ⟨.inl rfl,.inl rfl,.inl rfl,.inl rfl,.inl rfl,.inl rfl,.inl rfl,.inl rfl,.inl rfl,.inl rfl,.inl rfl,.inl rfl,.inr ⟨rfl,rfl⟩,trivial⟩ ?_
  refine zc 1 rfl (Tl_freeze 4 rfl rfl rfl (zl 5 rfl ?_))
  exact r2_ hq_ rfl (by rw [hout])
set_option maxRecDepth 10000 in
theorem mult_p (r:Rw) (c:Qr):Ctr Tryz.prog 48 [rwV r,qV c] (R.one (muV ⟨r,c⟩)):=by
 refine bd_ Tryz.func48 Tryz.ntmps48 rfl (fun w0 A0=>?_)
 refine zc 15 rfl ?_
 exact r1_ hq_ rfl rfl
set_option maxRecDepth 10000 in
theorem value_p (s:Sc) (hs:SB 40001 s) (n:Nat) (h0:0 < n) (hn:n≤s.lems.length):Ctr Tryz.prog 149 [vwV s,V.one (Leaf.val (.int .i64 ((n:Int))))] (R.one (qV (lvr s.lems n))):=by
 refine bd_ Tryz.func149 Tryz.ntmps149 rfl (fun w0 A0=>?_)
 have hB:=hs.B;have hq:=hs.q;have hd:=hs.d;have hpl:=hs.pl;have hl:=hs.ll
 have hg:=hq.g;have hr:=hq.r;have hlo:=hr.lo;have hhi:=hr.hi
 have h1:=hg.i1;have h2:=hg.i3;have h3:=hg.u4;have h4:=hg.o1;have h5:=hg.o3
 refine zc 6 rfl ?_
 obtain ⟨y,hy⟩:∃ y,s.lems[n - 1]? = some y:=⟨_,List.getElem?_eq_getElem (by omega)⟩
 refine zc 2 rfl (tq_ rfl (Jq_nilCheckR rfl rfl) (tq_ rfl (jft rfl) (tq_ rfl (jfr rfl) (tq_ rfl (jli rfl) (zl 1 rfl (tq_ rfl (jsb (n - 1) rfl) (tq_ rfl (jix (n - 1) hy rfl) (tq_ rfl (jft rfl) (tq_ rfl (jlr rfl) ?_)))))))))
 refine zl 3 rfl ?_
 exact r1_ hq_ rfl (by rw [lvr_get hy])
set_option maxRecDepth 10000 in
theorem dec_p (s:Sc) (hs:SB 40001 s) (k:Nat) (j:Int):Ctr Tryz.prog 148 [vwV s,V.one (Leaf.val (.int .i64 ((k:Int)))),V.one (Leaf.val (.int .i64 (j)))] (R.one (V.one (Leaf.val (.bool (decM s.path k j))))):=by
 refine bd_ Tryz.func148 Tryz.ntmps148 rfl (fun w0 A0=>?_)
 have hB:=hs.B;have hq:=hs.q;have hd:=hs.d;have hpl:=hs.pl;have hl:=hs.ll
 have hg:=hq.g;have hr:=hq.r;have hlo:=hr.lo;have hhi:=hr.hi
 have h1:=hg.i1;have h2:=hg.i3;have h3:=hg.u4;have h4:=hg.o1;have h5:=hg.o3
 refine zc 9 rfl (tq_ rfl (Jq_nilCheckR rfl rfl) (tq_ rfl (jft rfl) (tq_ rfl (jfr rfl) (tq_ rfl (jli rfl) (tq_ rfl (jln rfl) (zl 4 rfl ?_))))))
 refine lpR_ (fun m Γ H=>∃ (i:Nat),s.path.length - i = m∧Γ = [(0,some (D.rep (ptrRep (vwL s)))),(1,some (D.val (.int .i64 ((k:Nat):Int)))),(2,some (D.val (.int .i64 j))),(13,some (D.v (V.one (El.row dcE s.path)))),(14,some (D.val (.int .i64 ((s.path.length:Nat):Int)))),(15,some (D.val (.int .i64 ((i:Nat):Int))))]∧H = []∧i≤s.path.length∧decN s.path k j i = false) ⟨0,rfl,rfl,rfl,Nat.zero_le _,rfl⟩ rfl ?_
 rintro m Γ H ⟨i,rfl,rfl,rfl,hi0,hno⟩
 refine zc 2 rfl ?_
 by_cases hi:i < s.path.length
 ·refine tq_ rfl (ltT rfl) (zl 9 rfl ?_)
  obtain ⟨x,hx⟩:∃ x,s.path[i]? = some x:=⟨_,List.getElem?_eq_getElem hi⟩
  refine zc 2 rfl (tq_ rfl (jix i hx rfl) (tq_ rfl (jlr rfl) (zl 8 rfl (tq_ rfl (Jq_nilCheckR rfl rfl) (tq_ rfl (jfr rfl) (tq_ rfl (jli rfl) (zl 1 rfl (tq_ rfl (jix i (rep_get hi) rfl) (tq_ rfl (jli rfl) ?_)))))))))
  refine zl 7 rfl ?_
  refine two_ rfl (fun hk1=>?_) (fun hk1=>?_)
  ·refine zl 12 rfl (tq_ rfl (jad (i + 1) rfl) (zl 2 rfl (At_free 0 (trim_ 0 rfl ?_))))
   exact nx_ ⟨i + 1,rfl,rfl,rfl,hi,by rw [decN_succ hx,hno,hk1];rfl⟩ rfl
  ·refine zl 7 rfl ?_
   refine Tc_cond rfl (fun hk2=>?_) (fun hk2=>?_)
   ·refine zc 5 rfl ?_
    exact r1_ hq_ rfl (by rw [decM_t hx hk1 hk2])
   ·refine zc 4 rfl (tq_ rfl (jad (i + 1) rfl) (zl 2 rfl (At_free 0 (trim_ 0 rfl ?_))))
    exact nx_ ⟨i + 1,rfl,rfl,rfl,hi,by rw [decN_succ hx,hno,hk1,hk2];rfl⟩ rfl
 ·refine tq_ rfl (ltF rfl) (zl 14 rfl ?_)
  exact r1_ hq_ rfl (by rw [← decM_end,← show i = s.path.length by omega,hno])
end Go.Proofs.YtmpkandbccallaaGreatDoor
set_option linter.unusedSimpArgs false
set_option linter.unusedVariables false
namespace Go.Proofs.YtmpkandbccallaaGreatDoor
open Go Go.RowKit Rc
set_option maxRecDepth 10000 in
theorem input_p (s:Sc) (hs:SB 40001 s) (i:Nat) (hi:i < s.q.g.inp) (up:Bool):Ctr Tryz.prog 92 [vwV s,V.one (Leaf.val (.int .i64 ((i:Int)))),V.one (Leaf.val (.bool up))] (R.tup [qV (qOf (inpM s i up).1),V.one (El.row muE (one1 (inpM s i up).2)),V.one (Leaf.val (.bool true))]):=by
 refine bd_ Tryz.func92 Tryz.ntmps92 rfl (fun w0 A0=>?_)
 have hB:=hs.B;have hq:=hs.q;have hd:=hs.d;have hpl:=hs.pl;have hl:=hs.ll
 have hg:=hq.g;have hr:=hq.r;have hlo:=hr.lo;have hhi:=hr.hi
 have h1:=hg.i1;have h2:=hg.i3;have h3:=hg.u4;have h4:=hg.o1;have h5:=hg.o3
 obtain ⟨a0,ha0⟩:∃ a,s.q.r.lo[i]? = some a:=⟨_,List.getElem?_eq_getElem (by omega)⟩
 obtain ⟨c0,hc0⟩:∃ a,s.q.r.hi[i]? = some a:=⟨_,List.getElem?_eq_getElem (by omega)⟩
 have ha:s.q.r.lo[i]? = some ((s.q.r.lo[i]?).getD 0):=by rw [ha0];rfl
 have hc_:s.q.r.hi[i]? = some ((s.q.r.hi[i]?).getD 0):=by rw [hc0];rfl
 obtain ⟨hb1,hb2,_⟩:=hr.bd i a0 c0 ha0 hc0
 haveI:Br ((s.q.r.lo[i]?).getD 0) 4:=by rw [ha0];exact hb1.br
 haveI:Br ((s.q.r.hi[i]?).getD 0) 8:=by rw [hc0];exact hb2.br.mono (by omega)
 refine zc 10 rfl (tq_ rfl (Jq_nilCheckR rfl rfl) (tq_ rfl (jft rfl) (tq_ rfl (jft rfl) (tq_ rfl (jft rfl) (tq_ rfl (jlr rfl) (zl 5 rfl ?_))))))
 refine nz_ [so 0 (D.rep (ptrRep (vwL s))),so 1 (D.val (.int .i64 ((i:Nat):Int))),so 2 (D.bool up),so 6 (D.ptr 0 0),so 9 (D.ptr 1 0)] [hb_ 27 [Leaf.val (.bool false),natL ([]),natL ([])],hb_ 36 [El.row ratE s.q.r.lo,El.row ratE s.q.r.hi,El.row afE s.q.r.rows]] rfl rfl (zc 4 rfl (tq_ rfl (jix i ha rfl) (tq_ rfl (jlr rfl) (zl 10 rfl ?_))))
 refine mt_ [so 0 (D.rep (ptrRep (vwL s))),so 1 (D.val (.int .i64 ((i:Nat):Int))),so 6 (D.ptr 0 0),so 10 (D.ptr 2 0),so 11 (D.ptr 3 0),so 12 (D.val (.int .i64 (((if up = true then 4 else 3):Nat):Int))),so 13 (D.val (.int .i64 (if up = true then -1 else 1)))] [hb_ 27 [Leaf.val (.bool false),natL ([]),natL ([])],none,hb_ 27 (qL ((inp0 s i up).1)),hb_ 103 [Leaf.val (.int .i64 ((inp0 s i up).2.kind)),Leaf.val (.int .i64 ((inp0 s i up).2.idx)),Leaf.val (.int .i64 ((inp0 s i up).2.lo)),Leaf.val (.int .i64 ((inp0 s i up).2.hi))]] ?_ ?_
 ·refine zc 1 rfl (nz_ [so 0 _,so 1 _,so 2 _,so 6 _,so 9 _,so 10 (D.ptr 2 0),so 11 (D.ptr 3 0),so 12 (D.val (.int .i64 3)),so 13 (D.val (.int .i64 1))] [_,_,hb_ 27 (qL ((s.q.r.lo[i]?).getD 0)),hb_ 103 [Leaf.val (.int .i64 1),Leaf.val (.int .i64 ((i:Nat):Int)),Leaf.val (.int .i64 0),Leaf.val (.int .i64 0)]] rfl rfl (zc 4 rfl ?_))
  refine Tc_cond rfl (fun hup=>?_) (fun hup=>?_)
  ·subst hup
   refine zc 4 rfl (tq_ rfl (jix i hc_ rfl) (tq_ rfl (jlr rfl) (zl 7 rfl (At_free 1 ?_))))
   exact mx_ rfl
  ·subst hup
   refine zc 1 rfl (At_free 1 ?_)
   exact mx_ rfl
 ·refine zc 4 rfl (tq_ rfl (Jq_nilCheckR rfl rfl) (tq_ rfl (jft rfl) (tq_ rfl (jfr rfl) (tq_ rfl (jli rfl) (tq_ rfl (jln rfl) (zl 4 rfl ?_))))))
  refine lpR_ (fun m Γ H=>∃ (n:Nat) (b:Rat × Rw),s.path.length - n = m∧Γ = [(0,some (D.rep (ptrRep (vwL s)))),(1,some (D.val (.int .i64 ((i:Nat):Int)))),(6,some (D.ptr 0 0)),(10,some (D.ptr 2 0)),(11,some (D.ptr 3 0)),(12,some (D.val (.int .i64 (((if up = true then 4 else 3):Nat):Int)))),(13,some (D.val (.int .i64 (if up = true then -1 else 1)))),(41,some (D.v (V.one (El.row dcE s.path)))),(42,some (D.val (.int .i64 ((s.path.length:Nat):Int)))),(43,some (D.val (.int .i64 ((n:Nat):Int))))]∧H = [hb_ 27 [Leaf.val (.bool false),natL ([]),natL ([])],none,hb_ 27 (qL b.1),hb_ 103 [Leaf.val (.int .i64 b.2.kind),Leaf.val (.int .i64 b.2.idx),Leaf.val (.int .i64 b.2.lo),Leaf.val (.int .i64 b.2.hi)]]∧n≤s.path.length∧b = inpN s i up n) ⟨0,inp0 s i up,rfl,rfl,rfl,Nat.zero_le _,rfl⟩ rfl ?_
  rintro m Γ H ⟨n,b,rfl,rfl,rfl,hn0,hb⟩
  refine zc 2 rfl ?_
  by_cases hn:n < s.path.length
  ·refine tq_ rfl (ltT rfl) (zl 9 rfl ?_)
   obtain ⟨d,hdx⟩:∃ d,s.path[n]? = some d:=⟨_,List.getElem?_eq_getElem hn⟩
   have hdo:=hd d (List.mem_of_getElem? hdx)
   haveI:=hdo.2.br
   haveI hbb:Br b.1 201:=by rw [hb];exact inpN_hb hs hi up (by omega)
   refine nz_ [so 0 (D.rep (ptrRep (vwL s))),so 1 (D.val (.int .i64 ((i:Nat):Int))),so 6 (D.ptr 0 0),so 10 (D.ptr 2 0),so 11 (D.ptr 3 0),so 12 (D.val (.int .i64 (((if up = true then 4 else 3):Nat):Int))),so 13 (D.val (.int .i64 (if up = true then -1 else 1))),so 41 (D.v (V.one (El.row dcE s.path))),so 42 (D.val (.int .i64 ((s.path.length:Nat):Int))),so 43 (D.val (.int .i64 ((n:Nat):Int)))] [hb_ 27 [Leaf.val (.bool false),natL ([]),natL ([])],none,hb_ 27 (qL b.1),hb_ 103 [Leaf.val (.int .i64 b.2.kind),Leaf.val (.int .i64 b.2.idx),Leaf.val (.int .i64 b.2.lo),Leaf.val (.int .i64 b.2.hi)]] rfl rfl ?_
   refine zc 2 rfl (tq_ rfl (jix n hdx rfl) (tq_ rfl (jlr rfl) (zl 8 rfl (tq_ rfl (Jq_nilCheckR rfl rfl) (tq_ rfl (jfr rfl) (tq_ rfl (jli rfl) (zl 1 rfl (tq_ rfl (jix n (rep_get hn) rfl) (tq_ rfl (jli rfl) ?_)))))))))
   refine zl 4 rfl ?_
   by_cases hk:d.kind = (if up = true then 4 else 3)
   ·refine tq_ rfl (eqT rfl (by rw [hk])) (zl 5 rfl ?_)
    by_cases hx:d.idx = i
    ·refine tq_ rfl (eqT rfl) (zl 5 rfl (tc_ fn83 rfl (qcmp (qOf (d.pt)) (d.pt) (qOf_q _) (Br.use (by omega)) (qOf (b.1)) (b.1) (qOf_q _) (Br.use (by omega))) (zl 1 rfl ?_)))
     by_cases hc:(if up = true then d.pt < b.1 else b.1 < d.pt)
     ·refine tq_ rfl (eqT rfl (inp_sg.2 hc)) (zl 4 rfl ?_)
      refine nz_ [so 0 _,so 1 _,so 6 _,so 10 _,so 11 _,so 12 _,so 13 _,so 14 (D.val (.int .i64 ((n:Nat):Int))),so 15 (D.ptr 4 0),so 41 _,so 42 _,so 43 _] [_,none,_,_,hb_ 78 [Leaf.val (.int .i64 ((d.kind:Nat):Int)),Leaf.val (.int .i64 ((d.idx:Nat):Int)),Leaf.val (.bool (cneg d.pt)),natL (limbs (cnum d.pt)),natL (limbs (cden d.pt))]] rfl rfl (zc 11 rfl ?_)
      refine tq_ rfl (jad (n + 1) rfl) (zl 2 rfl (At_free 4 (trim_ 4 rfl ?_)))
      exact nx_ ⟨n + 1,(d.pt,⟨4,(n:Int),0,0⟩),rfl,rfl,rfl,hn,(by rw [hb] at hc;exact (inpN_t hdx ⟨hk,hx,hc⟩).symm)⟩ rfl
     ·refine tq_ rfl (eqF rfl (fun e=>hc (inp_sg.1 e))) (zl 7 rfl (nf_ [4] [so 0 _,so 1 _,so 6 _,so 10 _,so 11 _,so 12 _,so 13 _,so 41 _,so 42 _,so 43 _] [_,none,_,_,none] rfl rfl rfl (zc 1 rfl (tq_ rfl (jad (n + 1) rfl) (zl 2 rfl (trim_ 4 rfl ?_))))))
      exact nx_ ⟨n + 1,b,rfl,rfl,rfl,hn,(by rw [hb];exact (inpN_f hdx (fun e=>hc (by rw [hb];exact e.2.2))).symm)⟩ rfl
    ·refine tq_ rfl (eqF rfl) (zl 15 rfl (nf_ [4] [so 0 _,so 1 _,so 6 _,so 10 _,so 11 _,so 12 _,so 13 _,so 41 _,so 42 _,so 43 _] [_,none,_,_,none] rfl rfl rfl (zc 1 rfl (tq_ rfl (jad (n + 1) rfl) (zl 2 rfl (trim_ 4 rfl ?_))))))
     exact nx_ ⟨n + 1,b,rfl,rfl,rfl,hn,(by rw [hb];exact (inpN_f hdx (fun e=>hx e.2.1)).symm)⟩ rfl
   ·refine tq_ rfl (eqF rfl (fun e=>hk (Int.ofNat_inj.1 e))) (zl 21 rfl (nf_ [4] [so 0 _,so 1 _,so 6 _,so 10 _,so 11 _,so 12 _,so 13 _,so 41 _,so 42 _,so 43 _] [_,none,_,_,none] rfl rfl rfl (zc 1 rfl (tq_ rfl (jad (n + 1) rfl) (zl 2 rfl (trim_ 4 rfl ?_))))))
    exact nx_ ⟨n + 1,b,rfl,rfl,rfl,hn,(by rw [hb];exact (inpN_f hdx (fun e=>hk e.1)).symm)⟩ rfl
  ·refine tq_ rfl (ltF rfl) (zl 10 rfl ?_)
   have hie:n = s.path.length:=by omega
   rw [hie] at hb
   refine dr_ 0 [(5,0)] [0] (dz 2 rfl (kc_ fn80 rfl (qof_spec 1 (by decide) (by decide)) (kc_ fn48 rfl (mult_p b.2 (qOf (((1:Int):Rat)))) (ke_ rfl (fun _=>Je_buildSlice rfl un44 ty105 tz105 rfl (by decide) (by decide) rfl (by decide) rfl) (dz 3 rfl (DK_nil (za 1 rfl ?_)))))))
   exact r3_ hq_ rfl (by unfold inpM;rw [← hb] <;> rfl)
set_option maxRecDepth 10000 in
theorem low_p (s:Sc) (hs:SB 40001 s) (j:Nat) (hj:j < s.q.g.us.length):Ctr Tryz.prog 94 [vwV s,V.one (Leaf.val (.int .i64 ((j:Int))))] (R.tup [qV (lowM s j).1,V.one (El.row muE (lowM s j).2),V.one (Leaf.val (.bool true))]):=by
 refine bd_ Tryz.func94 Tryz.ntmps94 rfl (fun w0 A0=>?_)
 have hB:=hs.B;have hq:=hs.q;have hd:=hs.d;have hpl:=hs.pl;have hl:=hs.ll
 have hg:=hq.g;have hr:=hq.r;have hlo:=hr.lo;have hhi:=hr.hi
 have h1:=hg.i1;have h2:=hg.i3;have h3:=hg.u4;have h4:=hg.o1;have h5:=hg.o3
 haveI:=lvr_fq hB (bLo s j);haveI:=lvr_fq hB (bHi s j)
 refine zc 9 rfl (tc_ fn80 rfl (qof_spec 1 (by decide) (by decide)) (zl 7 rfl (tq_ rfl (Jq_nilCheckR rfl rfl) (tq_ rfl (jft rfl) (tq_ rfl (jlr rfl) (zl 1 rfl (tc_ fn81 rfl (best_p s (by assumption) (by omega) (by omega) ((j:Nat):Int)) (zl 9 rfl ?_))))))))
 refine nz_ [so 0 (D.rep (ptrRep (vwL s))),so 1 (D.val (.int .i64 ((j:Nat):Int))),so 4 (D.ptr 0 0),so 7 (D.ptr 1 0),so 8 (D.val (.int .i64 (((best s.lems ((j:Nat):Int)).1:Nat):Int)))] [hb_ 27 [Leaf.val (.bool false),natL ([]),natL ([])],hb_ 27 (qL ((1:Int):Rat))] rfl rfl (zc 2 rfl ?_)
 by_cases h1:(best s.lems ((j:Nat):Int)).1≠0
 ·refine tq_ rfl (gtT rfl) ?_
  obtain ⟨y,hy,_,_,hly,hy0,hyl⟩:=best_lo h1
  refine zl 3 rfl (tc_ fn149 rfl (value_p s (by assumption) ((best s.lems ((j:Nat):Int)).1) (by omega) (by omega)) (tc_ fn43 rfl (qsign (lvr s.lems ((best s.lems ((j:Nat):Int)).1)) ((lvr s.lems ((best s.lems ((j:Nat):Int)).1)).q) rfl (Fq.use (x:=(lvr s.lems ((best s.lems ((j:Nat):Int)).1))) (by omega))) ?_))
  by_cases h2:0 < lv s.lems (best s.lems ((j:Nat):Int)).1
  ·refine tq_ rfl (gtT rfl (by rw [lvr_q];exact sg_gt.2 h2)) (zl 5 rfl (nz_ [so 0 _,so 1 _,so 4 _,so 7 _,so 8 _] [_,_] rfl rfl (dr_ 0 [(13,0)] [0] (dz 2 rfl (kc_ fn149 rfl (value_p s (by assumption) ((best s.lems ((j:Nat):Int)).1) (by omega) (by omega)) (dz 3 rfl (kc_ fn48 rfl (mult_p ⟨6,((j:Nat):Int),0,0⟩ (qOf (((1:Int):Rat)))) (dz 4 rfl ?_))))))))
   refine kc_ fn48 rfl (mult_p ⟨11,((j:Nat):Int),(((best s.lems ((j:Nat):Int)).1:Nat):Int),0⟩ (qOf (((1:Int):Rat)))) (ke_ rfl (fun _=>Je_buildSlice rfl un44 ty105 tz105 rfl (by decide) (by decide) rfl (by decide) rfl) (dz 3 rfl (DK_nil (za 1 rfl ?_))))
   exact r3_ hq_ rfl (by rw [lowM_t ⟨h1,h2⟩] <;> rfl)
  ·refine tq_ rfl (gtF rfl (by rw [lvr_q];exact fun e=>h2 (sg_gt.1 e))) (zl 7 rfl (nz_ [so 1 _,so 4 _,so 7 _] [_,_] rfl rfl (zc 5 rfl (tc_ fn48 rfl (mult_p ⟨5,((j:Nat):Int),0,0⟩ (qOf (((1:Int):Rat)))) (te_ rfl (Je_buildSlice rfl un44 ty105 tz105 rfl (by decide) (by decide) rfl (by decide) rfl) (zl 5 rfl ?_))))))
   exact r3_ hq_ rfl (by rw [lowM_f (fun e=>h2 e.2)] <;> rfl)
 ·refine tq_ rfl (gtF rfl) (zl 13 rfl (nz_ [so 1 _,so 4 _,so 7 _] [_,_] rfl rfl (zc 5 rfl (tc_ fn48 rfl (mult_p ⟨5,((j:Nat):Int),0,0⟩ (qOf (((1:Int):Rat)))) (te_ rfl (Je_buildSlice rfl un44 ty105 tz105 rfl (by decide) (by decide) rfl (by decide) rfl) (zl 5 rfl ?_))))))
  exact r3_ hq_ rfl (by rw [lowM_f (fun e=>h1 e.1)] <;> rfl)
set_option maxRecDepth 10000 in
set_option maxHeartbeats 2000000 in
theorem high_p (s:Sc) (hs:SB 40001 s) (j:Nat) (hj:j < s.q.g.us.length):Ctr Tryz.prog 93 [vwV s,V.one (Leaf.val (.int .i64 ((j:Int))))] (R.tup [qV (highP s j).1,V.one (El.row muE (highP s j).2.1),V.one (Leaf.val (.bool (highP s j).2.2))]):=by
 refine bd_ Tryz.func93 Tryz.ntmps93 rfl (fun w0 A0=>?_)
 have hB:=hs.B;have hq:=hs.q;have hd:=hs.d;have hpl:=hs.pl;have hl:=hs.ll
 have hg:=hq.g;have hr:=hq.r;have hlo:=hr.lo;have hhi:=hr.hi
 have h1:=hg.i1;have h2:=hg.i3;have h3:=hg.u4;have h4:=hg.o1;have h5:=hg.o3
 haveI:=lvr_fq hB (bLo s j);haveI:=lvr_fq hB (bHi s j)
 refine zc 9 rfl (tc_ fn80 rfl (qof_spec 1 (by decide) (by decide)) (zl 7 rfl (tq_ rfl (Jq_nilCheckR rfl rfl) (tq_ rfl (jft rfl) (tq_ rfl (jlr rfl) (zl 1 rfl (tc_ fn81 rfl (best_p s (by assumption) (by omega) (by omega) ((j:Nat):Int)) (zl 8 rfl ?_))))))))
 refine nz_ [so 0 (D.rep (ptrRep (vwL s))),so 1 _,so 4 _,so 7 _,so 8 (D.val (.int .i64 (((best s.lems ((j:Nat):Int)).1:Nat):Int))),so 9 (D.val (.int .i64 (((best s.lems ((j:Nat):Int)).2:Nat):Int)))] [_,_] rfl rfl (zc 3 rfl (tc_ fn148 rfl (dec_p s (by assumption) 1 ((j:Nat):Int)) (zl 2 rfl (tc_ fn148 rfl (dec_p s (by assumption) 2 ((j:Nat):Int)) ?_))))
 refine zl 5 rfl ?_
 refine mt_ [so 0 (D.rep (ptrRep (vwL s))),so 1 (D.val (.int .i64 ((j:Nat):Int))),so 4 (D.ptr 0 0),so 7 (D.ptr 1 0),so 8 (D.val (.int .i64 (((best s.lems ((j:Nat):Int)).1:Nat):Int))),so 9 (D.val (.int .i64 (((best s.lems ((j:Nat):Int)).2:Nat):Int))),so 10 (D.bool (decM s.path 1 ((j:Nat):Int))),so 11 (D.bool (decM s.path 2 ((j:Nat):Int))),so 45 (D.bool (hiOff s j))] [hb_ 27 [Leaf.val (.bool false),natL ([]),natL ([])],hb_ 27 (qL ((1:Int):Rat))] ?_ ?_
 ·refine nz_ [so 0 _,so 1 _,so 4 _,so 7 _,so 8 _,so 9 _,so 10 (D.bool (decM s.path 1 ((j:Nat):Int))),so 11 (D.bool (decM s.path 2 ((j:Nat):Int)))] [_,_] rfl rfl (zc 3 rfl ?_)
  refine two_ rfl (fun hf1=>?_) (fun hf1=>?_)
  ·refine zl 1 rfl ?_
   by_cases h1:(best s.lems ((j:Nat):Int)).2≠0
   ·refine tq_ rfl (gtT rfl) ?_
    obtain ⟨z,hz,_,_,hlz,hz0,hzl⟩:=best_hi h1
    refine zl 3 rfl (tc_ fn149 rfl (value_p s (by assumption) ((best s.lems ((j:Nat):Int)).2) (by omega) (by omega)) (tc_ fn43 rfl (qsign (lvr s.lems ((best s.lems ((j:Nat):Int)).2)) ((lvr s.lems ((best s.lems ((j:Nat):Int)).2)).q) rfl (Fq.use (x:=(lvr s.lems ((best s.lems ((j:Nat):Int)).2))) (by omega))) ?_))
    by_cases h2:lv s.lems (best s.lems ((j:Nat):Int)).2≤0
    ·refine tq_ rfl (leT rfl (by rw [lvr_q];exact sg_le.2 h2)) (zl 2 rfl (is_ (hiOff s j) rfl (by simp [hiOff,hf1,h1,h2]) (zl 1 rfl ?_)))
     exact mx_ rfl
    ·refine tq_ rfl (leF rfl (by rw [lvr_q];exact fun e=>h2 (sg_le.1 e))) (zl 2 rfl (is_ (hiOff s j) rfl (by simp [hiOff,hf1,h1,h2]) (zl 1 rfl ?_)))
     exact mx_ rfl
   ·refine tq_ rfl (gtF rfl) (zl 8 rfl (is_ (hiOff s j) rfl (by simp [hiOff,hf1,h1]) (zl 1 rfl ?_)))
    exact mx_ rfl
  ·refine zl 10 rfl (is_ (hiOff s j) rfl (by simp [hiOff,hf1]) (zl 1 rfl ?_))
   exact mx_ rfl
 ·refine Tc_cond rfl (fun hof=>?_) (fun hof=>?_)
  ·refine zc 15 rfl ?_
   refine Tc_cond rfl (fun hd1=>?_) (fun hd1=>?_)
   ·refine zc 7 rfl (nz_ [so 4 _,so 7 _,so 12 (D.ptr 2 0)] [_,_,hb_ 103 [Leaf.val (.int .i64 10),Leaf.val (.int .i64 ((j:Nat):Int)),Leaf.val (.int .i64 0),Leaf.val (.int .i64 (((best s.lems ((j:Nat):Int)).2:Nat):Int))]] rfl rfl (zc 4 rfl (tc_ fn48 rfl (mult_p ⟨10,((j:Nat):Int),0,(((best s.lems ((j:Nat):Int)).2:Nat):Int)⟩ (qOf (((1:Int):Rat)))) ?_)))
    refine te_ rfl (Je_buildSlice rfl un44 ty105 tz105 rfl (by decide) (by decide) rfl (by decide) rfl) (zl 5 rfl ?_)
    exact r3_ hq_ rfl (by rw [highP_some (highM_off hof),offRow_f (by simpa using hd1)] <;> rfl)
   ·refine zc 3 rfl (nz_ [so 4 _,so 7 _,so 12 (D.ptr 2 0)] [_,_,hb_ 103 [Leaf.val (.int .i64 10),Leaf.val (.int .i64 ((j:Nat):Int)),Leaf.val (.int .i64 0),Leaf.val (.int .i64 0)]] rfl rfl (zc 4 rfl (tc_ fn48 rfl (mult_p ⟨10,((j:Nat):Int),0,0⟩ (qOf (((1:Int):Rat)))) (te_ rfl (Je_buildSlice rfl un44 ty105 tz105 rfl (by decide) (by decide) rfl (by decide) rfl) ?_))))
    refine zl 5 rfl ?_
    exact r3_ hq_ rfl (by rw [highP_some (highM_off hof),offRow_t (by simpa using hd1)] <;> rfl)
  ·refine zc 4 rfl (nz_ [so 0 _,so 1 _,so 4 _,so 7 _,so 8 _,so 9 _,so 10 (D.bool (decM s.path 1 ((j:Nat):Int)))] [_,_] rfl rfl (zc 2 rfl ?_))
   by_cases hh:(best s.lems ((j:Nat):Int)).2 = 0
   ·refine tq_ rfl (eqT rfl) (zl 11 rfl ?_)
    exact r3_ hq_ rfl (by rw [highP_none (highM_n1 hof hh)] <;> rfl)
   ·refine tq_ rfl (eqF rfl) (zl 6 rfl ?_)
    obtain ⟨z,hz,_,_,hlz,hz0,hzl⟩:=best_hi hh
    refine nz_ [so 0 _,so 1 _,so 4 _,so 7 _,so 8 _,so 9 _,so 10 _] [_,_] rfl rfl (zc 3 rfl (tc_ fn149 rfl (value_p s (by assumption) ((best s.lems ((j:Nat):Int)).2) (by omega) (by omega)) (zl 10 rfl ?_)))
    refine mt_ [so 0 (D.rep (ptrRep (vwL s))),so 1 (D.val (.int .i64 ((j:Nat):Int))),so 4 (D.ptr 0 0),so 7 (D.ptr 1 0),so 8 (D.val (.int .i64 (((best s.lems ((j:Nat):Int)).1:Nat):Int))),so 9 (D.val (.int .i64 (((best s.lems ((j:Nat):Int)).2:Nat):Int))),so 10 (D.bool (decM s.path 1 ((j:Nat):Int))),so 13 (D.ptr 2 0),so 14 (D.ptr 3 0),so 77 (D.bool (hiOn s j))] [hb_ 27 [Leaf.val (.bool false),natL ([]),natL ([])],hb_ 27 (qL ((1:Int):Rat)),hb_ 27 [Leaf.val (.bool (lvr s.lems ((best s.lems ((j:Nat):Int)).2)).neg),natL (lvr s.lems ((best s.lems ((j:Nat):Int)).2)).n,natL (lvr s.lems ((best s.lems ((j:Nat):Int)).2)).d],hb_ 103 [Leaf.val (.int .i64 12),Leaf.val (.int .i64 ((j:Nat):Int)),Leaf.val (.int .i64 0),Leaf.val (.int .i64 (((best s.lems ((j:Nat):Int)).2:Nat):Int))]] ?_ ?_
    ·refine nz_ [so 0 _,so 1 _,so 4 _,so 7 _,so 8 _,so 9 _,so 10 _,so 13 (D.ptr 2 0),so 14 (D.ptr 3 0)] [_,_,hb_ 27 [Leaf.val (.bool (lvr s.lems ((best s.lems ((j:Nat):Int)).2)).neg),natL (lvr s.lems ((best s.lems ((j:Nat):Int)).2)).n,natL (lvr s.lems ((best s.lems ((j:Nat):Int)).2)).d],hb_ 103 [Leaf.val (.int .i64 12),Leaf.val (.int .i64 ((j:Nat):Int)),Leaf.val (.int .i64 0),Leaf.val (.int .i64 (((best s.lems ((j:Nat):Int)).2:Nat):Int))]] rfl rfl ?_
     refine zc 3 rfl ?_
     refine two_ rfl (fun hn1=>?_) (fun hn1=>?_)
     ·refine zl 1 rfl ?_
      by_cases h1:(best s.lems ((j:Nat):Int)).1≠0
      ·refine tq_ rfl (gtT rfl) ?_
       obtain ⟨y,hy,_,_,hly,hy0,hyl⟩:=best_lo h1
       refine zl 3 rfl (tc_ fn149 rfl (value_p s (by assumption) ((best s.lems ((j:Nat):Int)).1) (by omega) (by omega)) (tc_ fn43 rfl (qsign (lvr s.lems ((best s.lems ((j:Nat):Int)).1)) ((lvr s.lems ((best s.lems ((j:Nat):Int)).1)).q) rfl (Fq.use (x:=(lvr s.lems ((best s.lems ((j:Nat):Int)).1))) (by omega))) ?_))
       by_cases h2:0≤lv s.lems (best s.lems ((j:Nat):Int)).1
       ·refine tq_ rfl (geT rfl (by rw [lvr_q];exact sg_ge.2 h2)) (zl 2 rfl (is_ (hiOn s j) rfl (by simp [hiOn,hn1,h1,h2]) (zl 1 rfl ?_)))
        exact mx_ rfl
       ·refine tq_ rfl (geF rfl (by rw [lvr_q];exact fun e=>h2 (sg_ge.1 e))) (zl 2 rfl (is_ (hiOn s j) rfl (by simp [hiOn,hn1,h1,h2]) (zl 1 rfl ?_)))
        exact mx_ rfl
      ·refine tq_ rfl (gtF rfl) (zl 8 rfl (is_ (hiOn s j) rfl (by simp [hiOn,hn1,h1]) (zl 1 rfl ?_)))
       exact mx_ rfl
     ·refine zl 10 rfl (is_ (hiOn s j) rfl (by simp [hiOn,hn1]) (zl 1 rfl ?_))
      exact mx_ rfl
    ·refine Tc_cond rfl (fun hon=>?_) (fun hon=>?_)
     ·refine zc 15 rfl ?_
      refine Tc_cond rfl (fun hd1=>?_) (fun hd1=>?_)
      ·refine zc 7 rfl ?_
       refine nz_ [so 4 _,so 7 _,so 13 (D.ptr 2 0),so 14 (D.ptr 3 0),so 15 (D.ptr 4 0)] [_,_,hb_ 27 [Leaf.val (.bool (lvr s.lems ((best s.lems ((j:Nat):Int)).2)).neg),natL (lvr s.lems ((best s.lems ((j:Nat):Int)).2)).n,natL (lvr s.lems ((best s.lems ((j:Nat):Int)).2)).d],hb_ 103 [Leaf.val (.int .i64 12),Leaf.val (.int .i64 ((j:Nat):Int)),Leaf.val (.int .i64 0),Leaf.val (.int .i64 (((best s.lems ((j:Nat):Int)).2:Nat):Int))],hb_ 103 [Leaf.val (.int .i64 8),Leaf.val (.int .i64 ((j:Nat):Int)),Leaf.val (.int .i64 (((best s.lems ((j:Nat):Int)).1:Nat):Int)),Leaf.val (.int .i64 0)]] rfl rfl ?_
       refine dr_ 0 [(8,0)] [0] (dz 3 rfl (kc_ fn48 rfl (mult_p ⟨8,((j:Nat):Int),(((best s.lems ((j:Nat):Int)).1:Nat):Int),0⟩ (qOf (((1:Int):Rat)))) (dz 2 rfl (kc_ fn48 rfl (mult_p ⟨12,((j:Nat):Int),0,(((best s.lems ((j:Nat):Int)).2:Nat):Int)⟩ (qOf (((1:Int):Rat)))) ?_))))
       refine ke_ rfl (fun _=>Je_buildSlice rfl un44 ty105 tz105 rfl (by decide) (by decide) rfl (by decide) rfl) (dz 3 rfl (DK_nil (za 1 rfl ?_)))
       exact r3_ hq_ rfl (by rw [highP_some (highM_on hof hh hon),onRow_f (by simpa using hd1)] <;> rfl)
      ·refine zc 3 rfl ?_
       refine nz_ [so 4 _,so 7 _,so 13 (D.ptr 2 0),so 14 (D.ptr 3 0),so 15 (D.ptr 4 0)] [_,_,hb_ 27 [Leaf.val (.bool (lvr s.lems ((best s.lems ((j:Nat):Int)).2)).neg),natL (lvr s.lems ((best s.lems ((j:Nat):Int)).2)).n,natL (lvr s.lems ((best s.lems ((j:Nat):Int)).2)).d],hb_ 103 [Leaf.val (.int .i64 12),Leaf.val (.int .i64 ((j:Nat):Int)),Leaf.val (.int .i64 0),Leaf.val (.int .i64 (((best s.lems ((j:Nat):Int)).2:Nat):Int))],hb_ 103 [Leaf.val (.int .i64 8),Leaf.val (.int .i64 ((j:Nat):Int)),Leaf.val (.int .i64 0),Leaf.val (.int .i64 0)]] rfl rfl ?_
       refine dr_ 0 [(8,0)] [0] (dz 3 rfl (kc_ fn48 rfl (mult_p ⟨8,((j:Nat):Int),0,0⟩ (qOf (((1:Int):Rat)))) (dz 2 rfl (kc_ fn48 rfl (mult_p ⟨12,((j:Nat):Int),0,(((best s.lems ((j:Nat):Int)).2:Nat):Int)⟩ (qOf (((1:Int):Rat)))) (ke_ rfl (fun _=>Je_buildSlice rfl un44 ty105 tz105 rfl (by decide) (by decide) rfl (by decide) rfl) (dz 3 rfl (DK_nil (za 1 rfl ?_))))))))
       exact r3_ hq_ rfl (by rw [highP_some (highM_on hof hh hon),onRow_t (by simpa using hd1)] <;> rfl)
     ·refine zc 4 rfl ?_
      refine nz_ [so 0 _,so 1 _,so 4 _,so 7 _,so 8 _,so 9 _,so 13 (D.ptr 2 0),so 14 (D.ptr 3 0)] [_,_,hb_ 27 [Leaf.val (.bool (lvr s.lems ((best s.lems ((j:Nat):Int)).2)).neg),natL (lvr s.lems ((best s.lems ((j:Nat):Int)).2)).n,natL (lvr s.lems ((best s.lems ((j:Nat):Int)).2)).d],hb_ 103 [Leaf.val (.int .i64 12),Leaf.val (.int .i64 ((j:Nat):Int)),Leaf.val (.int .i64 0),Leaf.val (.int .i64 (((best s.lems ((j:Nat):Int)).2:Nat):Int))]] rfl rfl ?_
      refine zc 2 rfl ?_
      by_cases hl0:(best s.lems ((j:Nat):Int)).1 = 0
      ·refine tq_ rfl (eqT rfl) (zl 11 rfl ?_)
       exact r3_ hq_ rfl (by rw [highP_none (highM_n2 hof hh hon hl0)] <;> rfl)
      ·refine tq_ rfl (eqF rfl) (zl 6 rfl ?_)
       obtain ⟨y,hy,_,_,hly,hy0,hyl⟩:=best_lo hl0
       have hne:=tri_ne hof hh hon hl0
       refine nz_ [so 0 _,so 1 _,so 4 _,so 7 _,so 8 _,so 9 _,so 13 _,so 14 _] [_,_,_,_] rfl rfl (dr_ 1 [(10,4),(11,4)] [4] (dz 4 rfl (kc_ fn149 rfl (value_p s (by assumption) ((best s.lems ((j:Nat):Int)).1) (by omega) (by omega)) ?_)))
       refine kc_ fn151 rfl (qsub (lvr s.lems ((best s.lems ((j:Nat):Int)).2)) ((lvr s.lems ((best s.lems ((j:Nat):Int)).2)).q) rfl (Fq.use (x:=(lvr s.lems ((best s.lems ((j:Nat):Int)).2))) (by omega)) (lvr s.lems ((best s.lems ((j:Nat):Int)).1)) ((lvr s.lems ((best s.lems ((j:Nat):Int)).1)).q) rfl (Fq.use (x:=(lvr s.lems ((best s.lems ((j:Nat):Int)).1))) (by omega))) ?_
       refine kc_ fn150 rfl (qdiv (qOf (((1:Int):Rat))) (((1:Int):Rat)) (qOf_q _) (Br.use (by omega)) (qOf (((lvr s.lems ((best s.lems ((j:Nat):Int)).2)).q) - ((lvr s.lems ((best s.lems ((j:Nat):Int)).1)).q))) (((lvr s.lems ((best s.lems ((j:Nat):Int)).2)).q) - ((lvr s.lems ((best s.lems ((j:Nat):Int)).1)).q)) (qOf_q _) (Br.use (by omega)) (by assumption)) (dz 6 rfl ?_)
       refine DK_nil (za 2 rfl (nf_ [1] [so 1 _,so 4 _,so 8 _,so 9 _,so 13 _,so 14 _,so 16 (D.ptr 4 0)] [_,none,_,_,hb_ 27 (qL ((((1:Int):Rat)) / (((lvr s.lems ((best s.lems ((j:Nat):Int)).2)).q) - ((lvr s.lems ((best s.lems ((j:Nat):Int)).1)).q))))] rfl rfl rfl (dr_ 0 [(13,0)] [0] (dz 4 rfl ?_))))
       refine kc_ fn45 rfl (qmul (lvr s.lems ((best s.lems ((j:Nat):Int)).2)) ((lvr s.lems ((best s.lems ((j:Nat):Int)).2)).q) rfl (Fq.use (x:=(lvr s.lems ((best s.lems ((j:Nat):Int)).2))) (by omega)) (qOf ((((1:Int):Rat)) / (((lvr s.lems ((best s.lems ((j:Nat):Int)).2)).q) - ((lvr s.lems ((best s.lems ((j:Nat):Int)).1)).q)))) ((((1:Int):Rat)) / (((lvr s.lems ((best s.lems ((j:Nat):Int)).2)).q) - ((lvr s.lems ((best s.lems ((j:Nat):Int)).1)).q))) (qOf_q _) (Br.use (by omega))) ?_
       refine kc_ fn48 rfl (mult_p ⟨12,((j:Nat):Int),0,(((best s.lems ((j:Nat):Int)).2:Nat):Int)⟩ (qOf (((lvr s.lems ((best s.lems ((j:Nat):Int)).2)).q) * ((((1:Int):Rat)) / (((lvr s.lems ((best s.lems ((j:Nat):Int)).2)).q) - ((lvr s.lems ((best s.lems ((j:Nat):Int)).1)).q)))))) (dz 5 rfl ?_)
       refine kc_ fn48 rfl (mult_p ⟨13,((j:Nat):Int),(((best s.lems ((j:Nat):Int)).1:Nat):Int),(((best s.lems ((j:Nat):Int)).2:Nat):Int)⟩ (qOf ((((1:Int):Rat)) / (((lvr s.lems ((best s.lems ((j:Nat):Int)).2)).q) - ((lvr s.lems ((best s.lems ((j:Nat):Int)).1)).q))))) ?_
       refine ke_ rfl (fun _=>Je_buildSlice rfl un44 ty105 tz105 rfl (by decide) (by decide) rfl (by decide) rfl) (dz 3 rfl (DK_nil (za 1 rfl ?_)))
       exact r3_ hq_ rfl (by rw [highP_some (highM_tri hof hh hon hl0)] <;> rfl)
set_option maxRecDepth 10000 in
theorem bound_p (s:Sc) (hs:SB 40001 s) (v:Nat) (hv:v < (s.q.g.inp + s.q.g.us.length)) (up:Bool):Ctr Tryz.prog 42 [vwV s,V.one (Leaf.val (.int .i64 ((v:Int)))),V.one (Leaf.val (.bool up))] (R.tup [qV (bndP s v up).1,V.one (El.row muE (bndP s v up).2.1),V.one (Leaf.val (.bool (bndP s v up).2.2))]):=by
 refine bd_ Tryz.func42 Tryz.ntmps42 rfl (fun w0 A0=>?_)
 have hB:=hs.B;have hq:=hs.q;have hd:=hs.d;have hpl:=hs.pl;have hl:=hs.ll
 have hg:=hq.g;have hr:=hq.r;have hlo:=hr.lo;have hhi:=hr.hi
 have h1:=hg.i1;have h2:=hg.i3;have h3:=hg.u4;have h4:=hg.o1;have h5:=hg.o3
 refine zc 8 rfl ?_
 by_cases hvi:v < s.q.g.inp
 ·refine zc 3 rfl (tq_ rfl (Jq_nilCheckR rfl rfl) (tq_ rfl (jft rfl) (tq_ rfl (jft rfl) (tq_ rfl (jft rfl) (tq_ rfl (jfr rfl) (tq_ rfl (jli rfl) (tq_ rfl (Jq_sub rfl rfl rfl (r:=((v:Int) - (s.q.g.inp:Int))) (w64 (by omega) (by omega) (by omega))) (zl 8 rfl (tq_ rfl (ltT rfl) ?_)))))))))
  refine zl 9 rfl (tc_ fn92 rfl (input_p s hs v hvi up) (zl 8 rfl ?_))
  exact r3_ hq_ rfl (by rw [bndP_in hvi])
 ·refine zc 3 rfl (tq_ rfl (Jq_nilCheckR rfl rfl) (tq_ rfl (jft rfl) (tq_ rfl (jft rfl) (tq_ rfl (jft rfl) (tq_ rfl (jfr rfl) (tq_ rfl (jli rfl) (tq_ rfl (jsb (v - s.q.g.inp) rfl) (zl 8 rfl (tq_ rfl (ltF rfl) ?_)))))))))
  refine zl 10 rfl ?_
  refine Tc_cond rfl (fun hup=>?_) (fun hup=>?_)
  ·refine zc 4 rfl (tc_ fn93 rfl (high_p s (by assumption) (v - s.q.g.inp) (by omega)) (zl 8 rfl ?_))
   exact r3_ hq_ rfl (by rw [hup,bndP_up hvi])
  ·refine zc 7 rfl (tc_ fn94 rfl (low_p s (by assumption) (v - s.q.g.inp) (by omega)) (zl 8 rfl ?_))
   exact r3_ hq_ rfl (by rw [hup,bndP_lo hvi])
end Go.Proofs.YtmpkandbccallaaGreatDoor
set_option linter.unusedSimpArgs false
set_option linter.unusedVariables false
namespace Go.Proofs.YtmpkandbccallaaGreatDoor
open Go Go.RowKit Rc
set_option maxRecDepth 10000 in
set_option maxHeartbeats 2000000 in
theorem box_p (s:Sc) (hs:SB 40001 s) (f:Af) {b:Nat} (hf:FOk b (s.q.g.inp + s.q.g.us.length) f) (hb:b≤50000000):Ctr Tryz.prog 12 [V.agg [],scV s,afV f] (R.tup [qV (qOf (boxD s f).1),V.one (El.row muE (boxD s f).2.1),V.one (Leaf.val (.bool (boxD s f).2.2))]):=by
 refine bd_ Tryz.func12 Tryz.ntmps12 rfl (fun w0 A0=>?_)
 have hB:=hs.B;have hq:=hs.q;have hd:=hs.d;have hpl:=hs.pl;have hl:=hs.ll
 have hg:=hq.g;have hr:=hq.r;have hlo:=hr.lo;have hhi:=hr.hi
 have h1:=hg.i1;have h2:=hg.i3;have h3:=hg.u4;have h4:=hg.o1;have h5:=hg.o3
 have hfl:=hf.fl
 haveI:=hfl.fm (by omega);haveI:=hfl.cb
 have h7:=hfl.len7 hq
 refine zc 13 rfl (tc_ fn39 rfl (look_p s hs) (zl 9 rfl (nf_ [0] [so 4 (D.ptr 1 0),so 5 (D.ptr 2 0),so 6 (D.ptr 3 0),so 9 (D.rep (ptrRep (vwL s))),so 10 (D.bool true)] [none,hb_ 42 (scL s),hb_ 29 (afL f),hb_ 27 [Leaf.val (.bool false),natL ([]),natL ([])]] rfl rfl rfl (dr_ 0 [] [] (dz 7 rfl (kc_ fn41 rfl (gvars_p s.q.g (by assumption)) ?_))))))
 refine kc_ fn40 rfl (lvalid f hf (by omega) (s.q.g.inp + s.q.g.us.length) (Nat.le_refl _) (by omega)) (dz 2 rfl (DK_nil (za 5 rfl (nf_ [1] [so 5 _,so 6 _,so 9 _] [none,none,_,_] rfl rfl rfl (zc 9 rfl (tq_ rfl (Jq_assign rfl (rfl)) (zl 4 rfl (Tc_growS 12 105 7 rfl rfl (zc 3 rfl ?_)))))))))
 refine tq_ rfl (jln rfl) (zl 4 rfl (fr_ [2] rfl ?_))
 refine lpR_ (fun m Γ H=>∃ (i:Nat) (n:Nat) (x:Rat) (out:List Mu),f.ts.length - i = m∧Γ = [(6,some (D.ptr 3 0)),(9,some (D.rep (ptrRep (vwL s)))),(11,some (D.ptr 4 0)),(12,some (D.v (V.one (Leaf.own 5 n)))),(41,some (D.v (V.one (El.row tmE f.ts)))),(42,some (D.val (.int .i64 ((f.ts.length:Nat):Int)))),(43,some (D.val (.int .i64 ((i:Nat):Int))))]∧H = [none,none,none,hb_ 27 [Leaf.val (.bool false),natL ([]),natL ([])],hb_ 27 (qL x),hgr 105 7 muE out n]∧i≤f.ts.length∧boxR s f i = some (x,out)∧PlOk 40001 (b + 1) i out) ⟨0,0,f.c,[],rfl,rfl,rfl,Nat.zero_le _,rfl,PlOk.start⟩ rfl ?_
 rintro m Γ H ⟨i,n,x,out,rfl,rfl,rfl,hi0,hR,hP⟩
 refine zc 1 rfl (nz_ [so 6 (D.ptr 3 0),so 9 (D.rep (ptrRep (vwL s))),so 11 (D.ptr 4 0),so 12 (D.v (V.one (Leaf.own 5 n))),so 41 (D.v (V.one (El.row tmE f.ts))),so 42 (D.val (.int .i64 ((f.ts.length:Nat):Int))),so 43 (D.val (.int .i64 ((i:Nat):Int)))] [none,none,none,hb_ 27 [Leaf.val (.bool false),natL ([]),natL ([])],hb_ 27 (qL x),hgr 105 7 muE out n] rfl rfl ?_)
 refine zc 1 rfl ?_
 by_cases hi:i < f.ts.length
 ·refine tq_ rfl (ltT rfl) (zl 9 rfl ?_)
  obtain ⟨t,ht⟩:∃ t,f.ts[i]? = some t:=⟨_,List.getElem?_eq_getElem hi⟩
  have htm:=List.mem_of_getElem? ht
  have htv:=hf.var t htm
  haveI htb:Br t.2 (b + 1):=(hf.bd t htm).br
  have hxb:=(box_ok hs hfl i (by omega) x _ (boxR_get hR)).br
  have hmul:=Nat.mul_le_mul_right (40001 + (b + 1) + 210) (show (f.ts.take i).length≤7 by rw [List.length_take];omega)
  haveI:Br x (b + 1 + 7 * (40001 + (b + 1) + 210)):=hxb.mono (by omega)
  have hol:=hP.len
  refine zc 1 rfl (tq_ rfl (jix i ht rfl) (tq_ rfl (jlr rfl) (zl 5 rfl (dr_ 1 [(12,7),(13,7)] [7] (dz 5 rfl (kc_ fn43 rfl (qsign (qOf (t.2)) (t.2) (qOf_q _) (Br.use (by omega))) (kq_ rfl (Jq_lss rfl rfl rfl (b:=(decide (t.2 < 0))) (decide_eq_decide.2 sg_lt)) (kc_ fn42 rfl (bound_p s hs t.1 htv (decide (t.2 < 0))) (dz 8 rfl ?_)))))))))
  refine DK_nil (za 3 rfl ?_)
  refine nz_ [so 6 _,so 9 _,so 11 _,so 12 _,so 14 (D.ptr 6 0),so 15 (D.ptr 7 0),so 16 (D.v (V.one (El.row muE (((bndP s t.1 (decide (t.2 < 0)))).2.1)))),so 17 (D.bool (((bndP s t.1 (decide (t.2 < 0)))).2.2)),so 41 _,so 42 _,so 43 _] [none,none,none,_,_,_,hb_ 92 [Leaf.val (.int .i64 ((t.1:Nat):Int)),Leaf.val (.bool (cneg t.2)),natL (limbs (cnum t.2)),natL (limbs (cden t.2))],hb_ 27 [Leaf.val (.bool ((bndP s t.1 (decide (t.2 < 0)))).1.neg),natL ((bndP s t.1 (decide (t.2 < 0)))).1.n,natL ((bndP s t.1 (decide (t.2 < 0)))).1.d]] rfl rfl ?_
  refine zc 5 rfl ?_
  refine Tc_cond rfl (fun hok=>?_) (fun hok=>?_)
  ·refine zc 8 rfl ?_
   exact r3_ hq_ rfl (by rw [boxR_stop ht hR (by simpa using hok)];show _ = R.tup [qV (qOf 0),_,_];rw [← qV_zero] <;> rfl)
  ·refine zc 3 rfl ?_
   have hok1:(bndP s t.1 (decide (t.2 < 0))).2.2 = true:=by simpa using hok
   have hbk:=bnd_ok hs htv (bndP_t hok1)
   haveI:=hbk.fq
   have hst:=hbk.step
   have hsl:=hst.len
   refine dr_ 0 [(6,4)] [4] (kp_ [] rfl (Jq_load_agg rfl rfl rfl (by decide) ty27 (by decide) (Nat.le_of_ble_eq_true rfl) rfl) (dz 3 rfl (kc_ fn45 rfl (qmul (qOf (t.2)) (t.2) (qOf_q _) (Br.use (by omega)) ((bndP s t.1 (decide (t.2 < 0)))).1 (((bndP s t.1 (decide (t.2 < 0)))).1.q) rfl (Fq.use (x:=((bndP s t.1 (decide (t.2 < 0)))).1) (by omega))) ?_)))
   refine kc_ fn44 rfl (qadd (qOf (x)) (x) (qOf_q _) (Br.use (by omega)) (qOf ((t.2) * (((bndP s t.1 (decide (t.2 < 0)))).1.q))) ((t.2) * (((bndP s t.1 (decide (t.2 < 0)))).1.q)) (qOf_q _) (Br.use (by omega))) (dz 1 rfl (DK_nil (za 2 rfl ?_)))
   refine nf_ [7] [so 6 _,so 9 _,so 11 _,so 12 _,so 14 _,so 16 _,so 41 _,so 42 _,so 43 _] [none,none,none,_,hb_ 27 (qL ((x) + ((t.2) * (((bndP s t.1 (decide (t.2 < 0)))).1.q)))),_,_,none] rfl rfl rfl (dr_ 1 [(6,8),(7,8)] [8] (dz 4 rfl (kc_ fn47 rfl (qneg (qOf (t.2)) (t.2) (qOf_q _) (Br.use (by omega))) ?_)))
   refine kc_ fn46 rfl (qmax (qOf (t.2)) (t.2) (qOf_q _) (Br.use (by omega)) (qOf (-(t.2))) (-(t.2)) (qOf_q _) (Br.use (by omega))) (dz 2 rfl (DK_nil (za 2 rfl (nf_ [6] [so 6 _,so 9 _,so 11 _,so 12 _,so 16 _,so 18 (D.ptr 8 0),so 41 _,so 42 _,so 43 _] [none,none,none,_,_,_,none,none,hb_ 27 (qL (mx (t.2) (-(t.2))))] rfl rfl rfl (zc 2 rfl (tq_ rfl (jln rfl) (zl 4 rfl ?_)))))))
   refine lpR_ (fun m Γ H=>∃ (k:Nat) (n2:Nat) (out2:List Mu),(bndP s t.1 (decide (t.2 < 0))).2.1.length - k = m∧Γ = [(6,some (D.ptr 3 0)),(9,some (D.rep (ptrRep (vwL s)))),(11,some (D.ptr 4 0)),(12,some (D.v (V.one (Leaf.own 5 n2)))),(18,some (D.ptr 8 0)),(41,some (D.v (V.one (El.row tmE f.ts)))),(42,some (D.val (.int .i64 ((f.ts.length:Nat):Int)))),(43,some (D.val (.int .i64 ((i:Nat):Int)))),(74,some (D.v (V.one (El.row muE (((bndP s t.1 (decide (t.2 < 0)))).2.1))))),(75,some (D.val (.int .i64 (((((bndP s t.1 (decide (t.2 < 0)))).2.1).length:Nat):Int)))),(76,some (D.val (.int .i64 ((k:Nat):Int))))]∧H = [none,none,none,hb_ 27 [Leaf.val (.bool false),natL ([]),natL ([])],hb_ 27 (qL ((x) + ((t.2) * (((bndP s t.1 (decide (t.2 < 0)))).1.q)))),hgr 105 7 muE out2 n2,none,none,hb_ 27 (qL (mx (t.2) (-(t.2))))]∧k≤(bndP s t.1 (decide (t.2 < 0))).2.1.length∧out2 = out ++ sclM (absM t.2) ((bndP s t.1 (decide (t.2 < 0))).2.1.take k)) ⟨0,n,out,rfl,rfl,rfl,Nat.zero_le _,by simp [sclM]⟩ rfl ?_
   rintro m Γ H ⟨k,n2,out2,rfl,rfl,rfl,hk0,hout2⟩
   refine zc 2 rfl ?_
   by_cases hk:k < (bndP s t.1 (decide (t.2 < 0))).2.1.length
   ·refine tq_ rfl (ltT rfl) (zl 9 rfl ?_)
    obtain ⟨y,hy⟩:∃ y,(bndP s t.1 (decide (t.2 < 0))).2.1[k]? = some y:=⟨_,List.getElem?_eq_getElem hk⟩
    haveI hyb:=hst.bd y (List.mem_of_getElem? hy)
    have hol2:out2.length≤30:=by rw [hout2,List.length_append,sclM,List.length_map,List.length_take];omega
    refine zc 1 rfl (tq_ rfl (jix k hy rfl) (tq_ rfl (jlr rfl) (zl 4 rfl ?_)))
    refine nz_ [so 6 (D.ptr 3 0),so 9 (D.rep (ptrRep (vwL s))),so 11 (D.ptr 4 0),so 12 (D.v (V.one (Leaf.own 5 n2))),so 18 (D.ptr 8 0),so 20 (D.ptr 9 0),so 41 (D.v (V.one (El.row tmE f.ts))),so 42 (D.val (.int .i64 ((f.ts.length:Nat):Int))),so 43 (D.val (.int .i64 ((i:Nat):Int))),so 74 (D.v (V.one (El.row muE (((bndP s t.1 (decide (t.2 < 0)))).2.1)))),so 75 (D.val (.int .i64 (((((bndP s t.1 (decide (t.2 < 0)))).2.1).length:Nat):Int))),so 76 (D.val (.int .i64 ((k:Nat):Int)))] [none,none,none,hb_ 27 [Leaf.val (.bool false),natL ([]),natL ([])],hb_ 27 (qL ((x) + ((t.2) * (((bndP s t.1 (decide (t.2 < 0)))).1.q)))),hgr 105 7 muE out2 n2,none,none,hb_ 27 (qL (mx (t.2) (-(t.2)))),hb_ 105 [Leaf.val (.int .i64 y.r.kind),Leaf.val (.int .i64 y.r.idx),Leaf.val (.int .i64 y.r.lo),Leaf.val (.int .i64 y.r.hi),Leaf.val (.bool y.c.neg),natL y.c.n,natL y.c.d]] rfl rfl ?_
    refine dr_ 0 [(9,5)] [5] (dz 6 rfl (kc_ fn45 rfl (qmul (qOf (mx (t.2) (-(t.2)))) (mx (t.2) (-(t.2))) (qOf_q _) (Br.use (by omega)) y.c (y.c.q) rfl (Fq.use (x:=y.c) (by omega))) (kc_ fn48 rfl (mult_p y.r (qOf ((mx (t.2) (-(t.2))) * (y.c.q)))) (ke_ rfl (fun _=>Je_buildSlice rfl un44 ty105 tz105 rfl (by decide) (by decide) rfl (by decide) rfl) ?_))))
    refine ki_ 5 rfl (dap (e:=muE) (⟨⟨y.r.kind,y.r.idx,y.r.lo,y.r.hi⟩,(qOf ((mx (t.2) (-(t.2))) * (y.c.q)))⟩) rfl rfl) (dz 1 rfl (DK_nil (za 2 rfl ?_)))
    refine nf_ [9] [so 6 _,so 9 _,so 11 _,so 12 (D.v (V.one (Leaf.own 5 (n2 + 1)))),so 18 _,so 41 _,so 42 _,so 43 _,so 74 _,so 75 _,so 76 _] [none,none,none,_,_,hgr 105 7 muE (out2 ++ [⟨⟨y.r.kind,y.r.idx,y.r.lo,y.r.hi⟩,(qOf ((mx (t.2) (-(t.2))) * (y.c.q)))⟩]) (n2 + 1),none,none,_,none] rfl rfl rfl (zc 1 rfl (tq_ rfl (jad (k + 1) rfl) (zl 2 rfl (trim_ 9 rfl ?_))))
    exact nx_ ⟨k + 1,_,_,rfl,rfl,rfl,hk,(by rw [hout2,List.append_assoc,scl_take hy])⟩ rfl
   ·refine tq_ rfl (ltF rfl) (zl 10 rfl ?_)
    rw [show k = (bndP s t.1 (decide (t.2 < 0))).2.1.length by omega,List.take_length] at hout2
    subst hout2
    refine zc 1 rfl (tq_ rfl (jad (i + 1) rfl) (zl 2 rfl (At_free 8 (trim_ 6 rfl ?_))))
    exact nx_ ⟨i + 1,_,_,_,rfl,rfl,rfl,hi,boxR_step ht hR hok1,hP.next hst htb⟩ rfl
 ·refine tq_ rfl (ltF rfl) (zl 10 rfl ?_)
  have hie:i = f.ts.length:=by omega
  rw [hie] at hR
  have hc:=hP.cof
  have hmb:=hP.mb
  have hol:=hP.len
  refine zc 1 rfl (tq_ rfl (Jq_view (r:=5) (n:=n) (x:=V.one (Leaf.own 5 n)) (x':=V.one (El.row muE out)) (Jq_move rfl rfl) (RowAt.ofE muE out rfl (by decide)) (by decide) (.inr ⟨rfl,rfl⟩)) (tc_ fn49 rfl (collect out (by assumption) (by assumption) (by omega) (by omega)) (zl 7 rfl ?_)))
  refine nz_ [so 6 _,so 11 _,so 12 (D.v (V.one (El.row muE (collM out))))] [none,none,none,_,_,_] rfl rfl (zc 8 rfl ?_)
  exact r3_ hq_ rfl (by rw [boxR_end hR])
set_option maxRecDepth 10000 in
theorem var_p (s:Sc) (hs:SB 40001 s) (v:Nat) (hv:v < (s.q.g.inp + s.q.g.us.length)):Ctr Tryz.prog 14 [scV s,V.one (Leaf.val (.int .i64 ((v:Int))))] (R.tup [qV (bndP s v false).1,qV (bndP s v true).1,V.one (Leaf.val (.bool (bndP s v false).2.2)),V.one (Leaf.val (.bool (bndP s v true).2.2))]):=by
 refine bd_ Tryz.func14 Tryz.ntmps14 rfl (fun w0 A0=>?_)
 have hB:=hs.B;have hq:=hs.q;have hd:=hs.d;have hpl:=hs.pl;have hl:=hs.ll
 have hg:=hq.g;have hr:=hq.r;have hlo:=hr.lo;have hhi:=hr.hi
 have h1:=hg.i1;have h2:=hg.i3;have h3:=hg.u4;have h4:=hg.o1;have h5:=hg.o3
 refine zc 12 rfl (tc_ fn39 rfl (look_p s hs) (zl 14 rfl (tq_ rfl (ltF rfl) (zl 6 rfl (tc_ fn41 rfl (gvars_p s.q.g (by assumption)) (tq_ rfl (geF rfl) (zl 10 rfl (tc_ fn42 rfl (bound_p s hs v hv false) (zl 12 rfl ?_)))))))))
 refine tc_ fn42 rfl (bound_p s hs v hv true) (zl 8 rfl ?_)
 exact Tc_ret4 hq_ rfl (rA ty27 rfl rfl rfl rfl) (rA ty27 rfl rfl rfl rfl) rfl rfl rfl
end Go.Proofs.YtmpkandbccallaaGreatDoor
set_option linter.unusedSimpArgs false
set_option linter.unusedVariables false
namespace Go.Proofs.YtmpkandbccallaaGreatDoor
open Go Go.RowKit Rc
end Go.Proofs.YtmpkandbccallaaGreatDoor
set_option linter.unusedSimpArgs false
set_option linter.unusedVariables false
namespace Go.Proofs.YtmpkandbccallaaGreatDoor
open Go Go.RowKit Rc
end Go.Proofs.YtmpkandbccallaaGreatDoor
set_option linter.unusedSimpArgs false
set_option linter.unusedVariables false
namespace Go.Proofs.YtmpkandbccallaaGreatDoor
open Go Go.RowKit Rc
end Go.Proofs.YtmpkandbccallaaGreatDoor
set_option linter.unusedSimpArgs false
set_option linter.unusedVariables false
namespace Go.Proofs.YtmpkandbccallaaGreatDoor
open Go Go.RowKit Rc
end Go.Proofs.YtmpkandbccallaaGreatDoor
set_option linter.unusedSimpArgs false
set_option linter.unusedVariables false
namespace Rc
open Go Go.RowKit
def awF:Af:=⟨[(0,((1:Int):Rat))],((-1:Int):Rat)⟩
def awQ:Qu:=⟨⟨1,[awF],[awF]⟩,⟨[0],[((3:Int):Rat)],[]⟩,fZ⟩
def awS:Sc:=⟨awQ,[],[]⟩
theorem rat0:D.agg [Leaf.val (.bool false),nilL,nilL] = D.agg (qL 0):=by
 show _ = D.agg [Leaf.val (.bool (cneg 0)),natL (limbs (cnum 0)),natL (limbs (cden 0))]
 rw [cnum_zero,cden_zero,limbs_zero];rfl
theorem awF_ok (n:Nat) (h:1≤n):FOk 3 n awF:=
 ⟨⟨by decide,fun t ht=>by simp at ht,trivial⟩,fun t ht=>by simp [awF] at ht;subst ht;exact Hb.int (by decide),Hb.int (by decide),fun t ht=>by simp [awF] at ht;subst ht;exact h⟩
theorem awQ_ok:QOk awQ:=by
 refine ⟨⟨by decide,by decide,by decide,by decide,by decide,fun j x hx=>?_,fun x hx=>?_⟩,⟨rfl,rfl,by decide,fun j x y hx hy=>?_,fun x hx=>by simp [awQ] at hx⟩,⟨trivial,fun t ht=>by simp [awQ,fZ] at ht,Hb.z,fun t ht=>by simp [awQ,fZ] at ht⟩⟩
 ·have hx:[awF][j]? = some x:=hx
  have:=List.mem_of_getElem? hx
  rw [List.mem_singleton] at this
  subst this;exact awF_ok _ (by show 1≤1 + j;omega)
 ·have hx:x∈[awF]:=hx
  rw [List.mem_singleton] at hx
  subst hx;exact awF_ok _ (by decide)
 ·have hx:[(0:Rat)][j]? = some x:=hx
  have hy:[((3:Int):Rat)][j]? = some y:=hy
  have h1:=List.mem_of_getElem? hx
  have h2:=List.mem_of_getElem? hy
  rw [List.mem_singleton] at h1 h2
  subst h1;subst h2
  exact ⟨Hb.z,Hb.int (by decide),by decide⟩
theorem awS_ok:SOk awS:=⟨awQ_ok,fun d hd=>by simp [awS] at hd,by decide,fun m hm=>by simp [awS] at hm,by decide⟩
theorem awq_ls:D.agg [Leaf.val (.int .i64 1),afE.row [awF],afE.row [awF],ratE.row [0],ratE.row [((3:Int):Rat)],afE.row [],tmE.row [],Leaf.val (.bool false),nilL,nilL] = (D.v (quV awQ)):=by
 show _ = D.agg [Leaf.val (.int .i64 1),afE.row [awF],afE.row [awF],ratE.row [0],ratE.row [((3:Int):Rat)],afE.row [],tmE.row [],Leaf.val (.bool (cneg 0)),natL (limbs (cnum 0)),natL (limbs (cden 0))]
 rw [cnum_zero,cden_zero,limbs_zero];rfl
end Rc
set_option linter.unusedSimpArgs false
set_option linter.unusedVariables false
namespace Rc
open Go Go.RowKit
def bwL:List Lm:=[⟨0,false,qOf ((-1:Int):Rat),(boxD awS awF).2.1⟩]
theorem bw_lo:(boxD awS awF).2.2 = true∧(boxD awS awF).1 = ((-1:Int):Rat):=by decide +kernel
theorem bw_hi:(boxD (withL awS bwL) (negF awF)).2.2 = true∧(boxD (withL awS bwL) (negF awF)).1 = ((-2:Int):Rat):=by decide +kernel
def bwL2:List Lm:=[⟨0,false,qOf ((-1:Int):Rat),(boxD awS awF).2.1⟩,⟨0,true,qOf ((2:Int):Rat),(boxD (withL awS bwL) (negF awF)).2.1⟩]
def bwS:Sc:=withL awS bwL2
theorem bw_run:(runM boxD awS 0).lems = bwL2:=by
 have h1:runN boxD awS 0 0 = []:=rfl
 have hA:runA boxD awS 0 [] 0 awF = bwL:=by
  have hv:sideV boxD awS 0 false awF = ((-1:Int):Rat):=by
   unfold sideV;rw [if_neg (by decide)];show rndB (boxD awS awF).1 false 0 = _;unfold rndB;rw [if_pos rfl,bw_lo.2]
  show [] ++ sideN boxD awS 0 0 false awF = _
  rw [sideN_t (d:=boxD) (s:=awS) (bits:=0) (j:=0) (up:=false) (p:=awF) bw_lo.1 (by rfl),hv];rfl
 have hB:sideN boxD (withL awS bwL) 0 0 true awF = [⟨0,true,qOf ((2:Int):Rat),(boxD (withL awS bwL) (negF awF)).2.1⟩]:=by
  have hv:sideV boxD (withL awS bwL) 0 true awF = ((2:Int):Rat):=by
   unfold sideV;rw [if_pos rfl];show rndB (-(boxD (withL awS bwL) (negF awF)).1) true 0 = _;unfold rndB;rw [if_pos rfl,bw_hi.2];decide +kernel
  rw [sideN_t (d:=boxD) (s:=withL awS bwL) (bits:=0) (j:=0) (up:=true) (p:=awF) bw_hi.1 (by rfl),hv];rfl
 show runN boxD awS 0 (0 + 1) = _
 rw [runN_get (p:=awF) rfl,h1,hA,hB];rfl
theorem bw_runS:runM boxD awS 0 = bwS:=by
 show (⟨awQ,[],(runM boxD awS 0).lems⟩:Sc) = _
 rw [bw_run];rfl
def bwF:Af:=⟨[(0,((1:Int):Rat)),(1,((-1:Int):Rat))],0⟩
theorem bwF_ok:FOk 3 2 bwF:=
 ⟨⟨by decide,fun t ht=>by simp at ht;subst ht;decide,⟨by decide,fun t ht=>by simp at ht,trivial⟩⟩,fun t ht=>by simp [bwF] at ht;rcases ht with rfl | rfl <;> exact Hb.int (by decide),Hb.z,fun t ht=>by simp [bwF] at ht;rcases ht with rfl | rfl <;> decide⟩
theorem bw_sok:SOk bwS:=by rw [← bw_runS];exact (runM_ok boxD_ok awS_ok (by decide) 0).1
theorem bw_val:(boxD bwS bwF).1 = ((-2:Int):Rat)∧(boxD bwS bwF).2.1.length = 3∧(boxD bwS bwF).2.2 = true:=by decide +kernel
theorem bw_low:sg (bndP bwS 1 false).1.q = 0∧(bndP bwS 1 false).2.2 = true:=by decide +kernel
theorem bw_high:(bndP bwS 1 true).1 = qOf ((2:Int):Rat)∧(bndP bwS 1 true).2.2 = true:=by
 have e:highM bwS 0 = some (lvr bwS.lems (bHi bwS 0),_):=highM_tri (by decide +kernel) (by decide +kernel) (by decide +kernel) (by decide +kernel)
 have e2:bndP bwS 1 true = highP bwS 0:=bndP_up (s:=bwS) (v:=1) (by decide +kernel)
 rw [e2,highP_some e]
 exact ⟨rfl,rfl⟩
theorem bw_fq:Fq (bndP bwS 1 false).1 40202:=(bnd_ok bw_sok.sb (by decide) (bndP_t bw_low.2)).fq
theorem bwf_ls:D.agg [tmE.row [(0,((1:Int):Rat)),(1,((-1:Int):Rat))],Leaf.val (.bool false),nilL,nilL] = D.v (afV bwF):=by
 show _ = D.agg [tmE.row [(0,((1:Int):Rat)),(1,((-1:Int):Rat))],Leaf.val (.bool (cneg 0)),natL (limbs (cnum 0)),natL (limbs (cden 0))]
 rw [cnum_zero,cden_zero,limbs_zero];rfl
end Rc
set_option linter.unusedSimpArgs false
set_option linter.unusedVariables false
namespace Go.Proofs.YtmpkandbccallaaGreatDoor
open Go Go.RowKit Rc
set_option maxRecDepth 10000 in
theorem form23 (l:List Nat) (hl:l.length≤1000000) (hb:∀ x∈l,x < 256) (g:Gr) (hg:GOk g):Ctr Tryz.prog 17 [V.one (El.row u8E l),grV g] (R.one (afV (formq l 0 (g.inp + g.us.length)).1)):=by
 refine bd_ Tryz.func17 Tryz.ntmps17 rfl (fun w0 A0=>?_)
 have hk0:0≤l.length:=Nat.zero_le _
 have h1:=hg.i1;have h2:=hg.i3;have h3:=hg.u4;have h4:=hg.o1;have h5:=hg.o3
 refine zc 9 rfl ?_
 refine Tl_inline rfl rfl Tryz.func59 rfl rfl Tryz.ntmps59 (Nat.le_of_ble_eq_true rfl) rfl (fun a1 d1 s1=>?_)
 refine qc_ (zc 7 rfl (te_ rfl (Je_build0F rfl un22 ty5 _) (zl 1 rfl ?_)))
 obtain ⟨ti2,hi2,hz2,hs2,hb2⟩:=in5
 refine te_ rfl (Je_append0F u8E l rfl rfl rfl (by decide) un22 un22 hi2 hz2 hs2 rfl (by simp only [maxLen];omega) (by rw [hb2];omega) (H2:=_)) (zl 5 rfl (Tc_retI1 [(3,some (D.ptr 0 0)),(4,some (D.ptr 1 0))] (fun _ _ h=>h) d1 s1 rfl rfl rfl ⟨rfl,rfl,trivial⟩ (zl 7 rfl (tc_ fn52 rfl (vars_r g (by assumption)) ?_))))
 refine te_ rfl (Je_call_ptr rfl fn60 rfl rfl rfl rfl (form_spec l 0 (g.inp + g.us.length) (by omega) hl (by assumption) hb)) (zl 3 rfl ?_)
 exact r1_ hq_ rfl rfl
theorem run_box (s:Sc) (hs:SOk s) (h80:s.lems.length≤80) (bits:Int) (h0:0≤bits) (h4:bits≤4096):Ctr Tryz.prog 31 [V.one (Leaf.val (ifV 47 [])),scV s,V.one (Leaf.val (.int .i64 (bits)))] (R.tup [scV (runM boxD s bits),V.one (Leaf.val (.int .i64 0))]):=
 drun boxD boxD_ok 47 12 [] rfl (by kernel_rfl) fn12 (fun s f hs hf=>box_p s hs.sb f hf (by omega)) s hs h80 bits h0 h4
theorem run_aw24:Ctr Tryz.prog 31 [V.one (Leaf.val (ifV 47 [])),scV awS,V.one (Leaf.val (.int .i64 (0)))] (R.tup [scV bwS,V.one (Leaf.val (.int .i64 0))]):=by
 have h:=run_box awS awS_ok (by decide) 0 (by decide) (by decide)
 rwa [bw_runS] at h
set_option maxRecDepth 10000 in
set_option maxHeartbeats 2000000 in
theorem awake24  : Ctr Tryz.prog 10 [] (R.one (V.one (Leaf.val (.bool true)))):=by
 refine bd_ Tryz.func10 Tryz.ntmps10 rfl (fun w0 A0=>?_)
 refine zc 7 rfl (tc_ fn36 rfl (rqof 1 (by decide) (by decide)) (zl 5 rfl (dr_ 1 [(5,1),(6,1)] [1] (dz 2 rfl (ke_ rfl (fun _=>Je_buildSlice rfl un23 ty92 tz92 rfl (by decide) (by decide) rfl (by decide) rfl) (kc_ fn36 rfl (rqof (-1) (by decide) (by decide)) (dz 3 rfl (DK_nil (za 2 rfl ?_)))))))))
 refine dr_ 1 [(11,2),(12,2)] [2] (dz 1 rfl (ke_ rfl (fun _=>Je_buildSlice rfl un31 ty29 tz29 rfl (by decide) (by decide) rfl (by decide) rfl) (dz 1 rfl (ke_ rfl (fun _=>Je_buildSlice rfl un31 ty29 tz29 rfl (by decide) (by decide) rfl (by decide) rfl) (dz 2 rfl (keq_ (D.agg (qL 0)) rfl (rat0) ?_))))))
 refine ke_ rfl (fun _=>Je_buildSlice rfl un34 ty27 tz27 rfl (by decide) (by decide) rfl (by decide) rfl) (kc_ fn36 rfl (rqof 3 (by decide) (by decide)) (ke_ rfl (fun _=>Je_buildSlice rfl un34 ty27 tz27 rfl (by decide) (by decide) rfl (by decide) rfl) (dz 2 rfl (keq_ (D.v (quV awQ)) rfl (awq_ls) (dz 2 rfl (DK_nil (za 4 rfl ?_)))))))
 refine tq_ rfl (Jq_iface (vs:=[]) rfl rfl (by kernel_rfl)) (zl 2 rfl (tc_ fn31 rfl (run_aw24) (zl 9 rfl (dr_ 1 [(13,4),(14,4)] [4] (dz 4 rfl (kc_ fn36 rfl (rqof (-1) (by decide) (by decide)) (dz 1 rfl (ke_ rfl (fun _=>Je_buildSlice rfl un23 ty92 tz92 rfl (by decide) (by decide) rfl (by decide) rfl) (dz 1 rfl ?_)))))))))
 refine keq_ (D.v (afV bwF)) rfl (bwf_ls) (kc_ fn12 rfl (box_p bwS bw_sok.sb bwF (b:=3) bwF_ok (by decide)) (dz 4 rfl (kis_ true rfl (bw_val.2.2) (dz 4 rfl (DK_nil (za 4 rfl (tc_ fn14 rfl (var_p bwS bw_sok.sb 1 (by decide)) (zl 4 rfl (is_ true rfl (bw_low.2) ?_)))))))))
 refine zl 1 rfl (is_ true rfl (bw_high.2) (zl 9 rfl (dr_ 0 [] [] (dz 7 rfl (kq_ rfl (jln rfl) (kq_ rfl (eqT rfl (by rw [bw_val.2.1];rfl)) (dz 3 rfl (kc_ fn36 rfl (rqof (-2) (by decide) (by decide)) (kc_ fn15 rfl (rqsame (qOf (boxD bwS bwF).1) (qOf ((-2:Int):Rat))) ?_)))))))))
 refine kis_ true rfl (by rw [bw_val.1];exact sameQ_self _) (dz 9 rfl (kc_ fn37 rfl (rqsign (bndP bwS 1 false).1 (bndP bwS 1 false).1.q rfl (Fit.mono bw_fq.fit (by omega))) (kq_ rfl (eqT rfl bw_low.1) (dz 3 rfl (kc_ fn36 rfl (rqof 2 (by decide) (by decide)) (kc_ fn15 rfl (rqsame (bndP bwS 1 true).1 (qOf ((2:Int):Rat))) (kis_ true rfl (by rw [bw_high.1];exact sameQ_self _) ?_)))))))
 refine dz 2 rfl (DK_nil (za 1 rfl ?_))
 exact r1_ hq_ rfl rfl
set_option maxRecDepth 10000 in
theorem scope24 (l:List Nat) (hl:l.length≤1000000) (hb:∀ x∈l,x < 256):Ctr Tryz.prog 11 [V.one (El.row u8E l)] (R.one (scV (extM l))):=by
 refine bd_ Tryz.func11 Tryz.ntmps11 rfl (fun w0 A0=>?_)
 refine zc 8 rfl (tc_ fn38 rfl (extend_r l hl hb) (zl 3 rfl ?_))
 exact r1_ hq_ rfl rfl
end Go.Proofs.YtmpkandbccallaaGreatDoor
