/- Parts of the proof, 12: the texts Ev, Mem, WlX, WkDomainMember, FwZ, FactsZ, FwX, FactsX, FactsT, as far as they are used. -/
import Derived.Test.YtjdbopkbfkgpdaaGreatDoorMb11
import Derived.WalkKit
import Derived.ProofKit
import Derived.OpenShut
import Derived.ShutString
import Derived.ChangeOld
import Derived.Below
import Derived.Test.YtjdbopkbfkgpdaaGreatDoorProg
import Derived.KernelRfl
import Derived.Test.YtjdbopkbfkgpdaaGreatDoorRows
import Derived.LaidMore
import Derived.LaidLaws
import Derived.LaidHandle
import Derived.JoinedOf
import Derived.ChangeSame
import Derived.ChangeVars
import Derived.Stop.Joined
set_option linter.unusedSimpArgs false
set_option linter.unusedVariables false
namespace Rc
open Go Go.RowKit
def evN (f:Af) (v:List Rat) (n:Nat):Rat:=(f.ts.take n).foldl (fun s t=>s + t.2 * (v[t.1]?).getD 0) f.c
def evM (f:Af) (v:List Rat):Rat:=evN f v f.ts.length
theorem evN_succ {f:Af} {v:List Rat} {n:Nat} {t:Tm} {y:Rat} (h:f.ts[n]? = some t) (hy:v[t.1]? = some y):evN f v (n + 1) = evN f v n + t.2 * y:=by
 unfold evN;rw [take_snoc h,List.foldl_append];simp only [List.foldl_cons,List.foldl_nil,hy,Option.getD_some]
def VB (K:Nat) (v:List Rat):Prop:=∀ y∈v,Br y K
theorem VB.mono {K L:Nat} {v:List Rat} (h:VB K v) (hl:K≤L):VB L v:=fun y hy=>(h y hy).mono hl
theorem evN_br {f:Af} {v:List Rat} {m K:Nat} (hf:FOk 3 m f) (hv:VB K v) (hm:m≤v.length):∀ n,n≤f.ts.length→Br (evN f v n) (4 + n * (K + 6))
 | 0,_=>by have:=hf.br;exact this.mono (by omega)
 | n + 1,hn=>by
  obtain ⟨t,ht⟩:∃ t,f.ts[n]? = some t:=⟨_,List.getElem?_eq_getElem (by omega)⟩
  have htm:=List.mem_of_getElem? ht
  have htv:=hf.var t htm
  obtain ⟨y,hy⟩:∃ y,v[t.1]? = some y:=⟨_,List.getElem?_eq_getElem (by omega)⟩
  haveI:=evN_br hf hv hm n (by omega)
  haveI:Br t.2 4:=(hf.bd t htm).br
  haveI:=hv y (List.mem_of_getElem? hy)
  rw [evN_succ ht hy]
  exact (inferInstance:Br (evN f v n + t.2 * y) (4 + n * (K + 6) + (4 + K + 1) + 1)).mono (by rw [Nat.add_mul];omega)
theorem evM_br {f:Af} {v:List Rat} {m K:Nat} (hf:FOk 3 m f) (hv:VB K v) (hm:m≤v.length) (h7:m≤7):Br (evM f v) (4 + 7 * (K + 6)):=
 (evN_br hf hv hm f.ts.length (Nat.le_refl _)).mono (by have:=hf.len;have:=Nat.mul_le_mul_right (K + 6) (show f.ts.length≤7 by omega);omega)
def actN (us:List Af) (x:List Rat):Nat→List Rat
 | 0=>x
 | n + 1=>match us[n]? with
  | some p=>actN us x n ++ [mx (evM p (actN us x n)) 0]
  | none=>actN us x n
theorem actN_succ {us:List Af} {x:List Rat} {n:Nat} {p:Af} (h:us[n]? = some p):actN us x (n + 1) = actN us x n ++ [mx (evM p (actN us x n)) 0]:=by
 rw [actN,h]
theorem actN_len {us:List Af} {x:List Rat}:∀ n,n≤us.length→(actN us x n).length = x.length + n
 | 0,_=>rfl
 | n + 1,h=>by
  obtain ⟨p,hp⟩:∃ p,us[n]? = some p:=⟨_,List.getElem?_eq_getElem (by omega)⟩
  rw [actN_succ hp,List.length_append,actN_len n (by omega)];rfl
def KV:Nat→Nat
 | 0=>100
 | n + 1=>8 * KV n + 50
theorem KV_le {n:Nat} (h:n≤4):KV n≤500000:=by
 have:n = 0 ∨ n = 1 ∨ n = 2 ∨ n = 3 ∨ n = 4:=by omega
 rcases this with rfl | rfl | rfl | rfl | rfl <;> decide
theorem KV_pos:∀ n,100≤KV n
 | 0=>Nat.le_refl _
 | n + 1=>by have:=KV_pos n;simp only [KV];omega
theorem mx_br {y:Rat} {K:Nat} (h:Br y K):Br (mx y 0) K:=by
 by_cases h0:0≤cmpq y 0
 ·rw [mx_ge h0];exact h
 ·rw [mx_lt h0];exact Br.zero.mono (Nat.zero_le _)
theorem actN_br {g:Gr} (hg:GOk g) {x:List Rat} (hx:VB 100 x) (hl:x.length = g.inp):∀ n,n≤g.us.length→VB (KV n) (actN g.us x n)
 | 0,_=>hx
 | n + 1,h=>by
  obtain ⟨p,hp⟩:∃ p,g.us[n]? = some p:=⟨_,List.getElem?_eq_getElem (by omega)⟩
  have ih:=actN_br hg hx hl n (by omega)
  have h4:=hg.u4;have h3:=hg.i3
  rw [actN_succ hp]
  intro y hy
  rcases List.mem_append.1 hy with hy | hy
  ·exact (ih y hy).mono (by simp only [KV];omega)
  ·rw [List.mem_singleton] at hy;subst hy
   have:=evM_br (hg.us n p hp) ih (by rw [actN_len n (by omega),hl];exact Nat.le_refl _) (by omega)
   exact (mx_br this).mono (by simp only [KV];have:=KV_pos n;omega)
def actM (g:Gr) (x:List Rat):List Rat:=actN g.us x g.us.length
def preM (g:Gr) (x:List Rat):List Rat:=g.us.map fun p=>evM p (actM g x)
def contB (r:Rg) (x:List Rat):Bool:=r.rows.all fun f=>decide (0≤sg (evM f x))
def holdB (q:Qu) (d:Dc) (x:List Rat):Bool:=
 if d.kind = 3 then decide (0≤cmpq ((x[d.idx]?).getD 0) d.pt) else if d.kind = 4 then decide (cmpq ((x[d.idx]?).getD 0) d.pt≤0)
 else if d.kind = 1 then decide (0≤sg (((preM q.g x)[d.idx]?).getD 0)) else decide (sg (((preM q.g x)[d.idx]?).getD 0)≤0)
def memB (s:Sc) (x:List Rat):Bool:=contB s.q.r x && s.path.all fun d=>holdB s.q d x
theorem all_take {α:Type} {f:α→Bool} {l:List α} {i:Nat} {x:α} (hx:l[i]? = some x) (h:(l.take i).all f = true) (hp:f x = true):(l.take (i + 1)).all f = true:=by
 rw [take_snoc hx,List.all_append,h];simp [hp]
theorem all_no {α:Type} {f:α→Bool} {l:List α} {i:Nat} {x:α} (hx:l[i]? = some x) (hp:f x = false):l.all f = false:=by
 cases h:l.all f
 ·rfl
 ·have:=List.all_eq_true.1 h x (List.mem_of_getElem? hx);rw [hp] at this;simp at this
structure InB (r:Rg) (x:List Rat):Prop where
 len:x.length = r.lo.length
 bd:VB 100 x
 in_:∀ (i:Nat) (y a b:Rat),x[i]? = some y→r.lo[i]? = some a→r.hi[i]? = some b→a≤y∧y≤b
def insQ (r:Rg) (l:List Nat) (i:Nat):Rat:=(r.lo[i]?).getD 0 + ((((l[i]?).getD 0 % 9:Nat):Int):Rat) / ((8:Int):Rat) * ((r.hi[i]?).getD 0 - (r.lo[i]?).getD 0)
def insN (r:Rg) (l:List Nat) (n:Nat):List Rat:=(List.range n).map (insQ r l)
theorem insN_succ (r:Rg) (l:List Nat) (n:Nat):insN r l (n + 1) = insN r l n ++ [insQ r l n]:=by unfold insN;rw [List.range_succ,List.map_append];rfl
theorem insN_len (r:Rg) (l:List Nat) (n:Nat):(insN r l n).length = n:=by simp [insN]
theorem eighth_hb {k:Nat} (h:k≤8):Hb (((k:Int):Rat) / ((8:Int):Rat)) 10∧0≤((k:Int):Rat) / ((8:Int):Rat)∧((k:Int):Rat) / ((8:Int):Rat)≤1:=by
 have:k = 0 ∨ k = 1 ∨ k = 2 ∨ k = 3 ∨ k = 4 ∨ k = 5 ∨ k = 6 ∨ k = 7 ∨ k = 8:=by omega
 rcases this with rfl | rfl | rfl | rfl | rfl | rfl | rfl | rfl | rfl <;> exact ⟨⟨by decide +kernel,by decide +kernel⟩,by decide +kernel,by decide +kernel⟩
theorem insQ_ok {n:Nat} {r:Rg} (hr:ROk n r) {l:List Nat} {i:Nat} {a b:Rat} (ha:r.lo[i]? = some a) (hb:r.hi[i]? = some b):Br (insQ r l i) 100∧a≤insQ r l i∧insQ r l i≤b:=by
 obtain ⟨h1,h2,h3⟩:=hr.bd i a b ha hb
 unfold insQ
 rw [ha,hb]
 simp only [Option.getD_some]
 obtain ⟨k,hk⟩:∃ k,(l[i]?).getD 0 % 9 = k:=⟨_,rfl⟩
 rw [hk]
 obtain ⟨e1,e2,e3⟩:=eighth_hb (k:=k) (by omega)
 obtain ⟨c,hc⟩:∃ c:Rat,((k:Int):Rat) / ((8:Int):Rat) = c:=⟨_,rfl⟩
 rw [hc] at e1 e2 e3 ⊢
 refine ⟨(inferInstance:Hb (a + c * (b - a)) (3 + (10 + (7 + 3 + 1)) + 1)).br.mono (by omega),?_,?_⟩
 ·have:0≤c * (b - a):=Rat.mul_nonneg e2 (by grind)
  grind
 ·have:0≤(1 - c) * (b - a):=Rat.mul_nonneg (by grind) (by grind)
  grind
theorem insN_in {n:Nat} {r:Rg} (hr:ROk n r) (l:List Nat):InB r (insN r l r.lo.length):=by
 refine ⟨insN_len _ _ _,fun y hy=>?_,fun i y a b hy ha hb=>?_⟩
 ·obtain ⟨i,hi,rfl⟩:=List.mem_map.1 hy
  have hi:=List.mem_range.1 hi
  exact (insQ_ok hr (List.getElem?_eq_getElem hi) (List.getElem?_eq_getElem (by rw [hr.hi,← hr.lo];exact hi))).1
 ·have:y = insQ r l i:=by
   unfold insN at hy
   rw [List.getElem?_map] at hy
   have hi:i < r.lo.length:=(List.getElem?_eq_some_iff.1 ha).1
   rw [List.getElem?_range hi] at hy
   simpa using hy.symm
  subst this
  exact (insQ_ok hr ha hb).2
theorem mx_le {a b:Rat}:a≤mx a b∧b≤mx a b∧(mx a b = a ∨ mx a b = b):=by
 by_cases h:0≤cmpq a b
 ·rw [mx_ge h];exact ⟨Rat.le_refl,cmpq_ge.1 h,.inl rfl⟩
 ·rw [mx_lt h]
  have h2:cmpq a b < 0:=by omega
  exact ⟨Rat.le_of_lt (cmpq_lt.1 h2),Rat.le_refl,.inr rfl⟩
theorem actN_get {us:List Af} {x:List Rat}:∀ n,n≤us.length→∀ i,i < x.length + n→(actN us x us.length)[i]? = (actN us x n)[i]?:=by
 intro n hn i hi
 have key:∀ k,n + k≤us.length→(actN us x (n + k))[i]? = (actN us x n)[i]?:=by
  intro k
  induction k with
  | zero=>intro _;rfl
  | succ k ih=>
   intro hk
   obtain ⟨p,hp⟩:∃ p,us[n + k]? = some p:=⟨_,List.getElem?_eq_getElem (by omega)⟩
   rw [show n + (k + 1) = (n + k) + 1 by omega,actN_succ hp,List.getElem?_append_left (by rw [actN_len _ (by omega)];omega),ih (by omega)]
 have:=key (us.length - n) (by omega)
 rwa [show n + (us.length - n) = us.length by omega] at this
theorem evN_eq {f:Af} {v v':List Rat} {m:Nat} (hf:∀ t∈f.ts,t.1 < m) (h:∀ i,i < m→v[i]? = v'[i]?):∀ n,n≤f.ts.length→evN f v n = evN f v' n
 | 0,_=>rfl
 | n + 1,hn=>by
  obtain ⟨t,ht⟩:∃ t,f.ts[n]? = some t:=⟨_,List.getElem?_eq_getElem (by omega)⟩
  have ih:=evN_eq hf h n (by omega)
  unfold evN at ih ⊢
  rw [take_snoc ht,List.foldl_append,List.foldl_append,ih]
  simp only [List.foldl_cons,List.foldl_nil]
  rw [h t.1 (hf t (List.mem_of_getElem? ht))]
theorem evM_eq {f:Af} {v v':List Rat} {m:Nat} (hf:∀ t∈f.ts,t.1 < m) (h:∀ i,i < m→v[i]? = v'[i]?):evM f v = evM f v':=evN_eq hf h _ (Nat.le_refl _)
def Holds (g:Gr) (x:List Rat) (l:List Lm):Prop:=∀ m∈l,∀ p,g.us[m.unit.toNat]? = some p→(m.up = true→evM p (actM g x)≤m.v.q)∧(m.up = false→m.v.q≤evM p (actM g x))
theorem evS {f:Af} {v:List Rat}:∀ (ts:List Tm) (c:Rat),ts.foldl (fun s t=>s + t.2 * (v[t.1]?).getD 0) c = c + ts.foldl (fun s t=>s + t.2 * (v[t.1]?).getD 0) 0
 | [],c=>by simp only [List.foldl_nil];grind
 | t :: ts,c=>by
  rw [List.foldl_cons,List.foldl_cons,evS (f:=f) ts (c + _),evS (f:=f) ts (0 + _)];grind
theorem bnd_le {s:Sc} (hs:SOk s) {x:List Rat} (hx:InB s.q.r x) (hl:Holds s.q.g x s.lems):∀ (ts:List Tm) (a:List Mu × Bool),a.2 = true→(∀ t∈ts,t.1 < s.q.g.inp + s.q.g.us.length)→(ts.foldl (abst s.q.g.inp s.lems) a).2 = true →
  bndS s ts≤ts.foldl (fun r t=>r + t.2 * ((actM s.q.g x)[t.1]?).getD 0) 0
 | [],_,_,_,_=>by simp only [bndS,List.foldl_nil];exact Rat.le_refl
 | t :: ts,a,ha,hv,h=>by
  have h2:(abst s.q.g.inp s.lems a t).2 = true:=by
   cases e:(abst s.q.g.inp s.lems a t).2
   ·have:=absn_no (inp:=s.q.g.inp) (lems:=s.lems) ts _ e
    rw [List.foldl_cons] at h
    rw [this] at h;simp at h
   ·rfl
  have ih:=bnd_le hs hx hl ts _ h2 (fun y hy=>hv y (by simp [hy])) h
  rw [List.foldl_cons,evS (f:=fZ) ts]
  simp only [bndS]
  have htv:=hv t (by simp)
  have hr:=hs.q.r
  have hlen:(actM s.q.g x).length = s.q.g.inp + s.q.g.us.length:=by unfold actM;rw [actN_len _ (Nat.le_refl _),hx.len,hr.lo]
  obtain ⟨y,hy⟩:∃ y,(actM s.q.g x)[t.1]? = some y:=⟨_,List.getElem?_eq_getElem (by omega)⟩
  rw [hy]
  simp only [Option.getD_some]
  have key:t.2 * bndT s t≤t.2 * y:=by
   unfold bndT
   by_cases hin:t.1 < s.q.g.inp
   ·have hxy:x[t.1]? = some y:=by rw [← hy];exact (actN_get 0 (Nat.zero_le _) t.1 (by rw [hx.len,hr.lo];omega)).symm
    obtain ⟨c,hc⟩:∃ c,s.q.r.lo[t.1]? = some c:=⟨_,List.getElem?_eq_getElem (by rw [hr.lo];exact hin)⟩
    obtain ⟨d,hd⟩:∃ d,s.q.r.hi[t.1]? = some d:=⟨_,List.getElem?_eq_getElem (by rw [hr.hi];exact hin)⟩
    obtain ⟨i1,i2⟩:=hx.in_ t.1 y c d hxy hc hd
    split
    ·rename_i hp
     unfold lb;rw [if_pos hin,hc]
     exact Rat.mul_le_mul_of_nonneg_left i1 (Rat.le_of_lt hp)
    ·rename_i hp
     unfold ub;rw [if_pos hin,hd]
     simp only [Option.getD_some]
     have:0≤(-t.2) * (d - y):=Rat.mul_nonneg (by grind) (by grind)
     grind
   ·obtain ⟨j,hj⟩:∃ j,t.1 = s.q.g.inp + j:=⟨t.1 - s.q.g.inp,by omega⟩
    have hju:j < s.q.g.us.length:=by omega
    obtain ⟨p,hp⟩:∃ p,s.q.g.us[j]? = some p:=⟨_,List.getElem?_eq_getElem hju⟩
    have hyv:y = mx (evM p (actM s.q.g x)) 0:=by
     have e1:(actM s.q.g x)[t.1]? = (actN s.q.g.us x (j + 1))[t.1]?:=actN_get (j + 1) (by omega) t.1 (by rw [hx.len,hr.lo];omega)
     rw [hy,actN_succ hp,List.getElem?_append_right (by rw [actN_len j (by omega),hx.len,hr.lo];omega),actN_len j (by omega),hx.len,hr.lo,hj,Nat.sub_self] at e1
     simp only [List.getElem?_cons_zero,Option.some.injEq] at e1
     rw [e1]
     congr 1
     exact (evM_eq (m:=s.q.g.inp + j) (hs.q.g.us j p hp).var (fun i hi=>actN_get j (by omega) i (by rw [hx.len,hr.lo];omega))).symm
    obtain ⟨k1,k2,k3⟩:=mx_le (a:=evM p (actM s.q.g x)) (b:=0)
    rw [← hyv] at k1 k2 k3
    split
    ·rename_i hpos
     unfold lb;rw [if_neg hin]
     have:0≤t.2 * y:=Rat.mul_nonneg (Rat.le_of_lt hpos) k2
     grind
    ·rename_i hneg
     have hub:y≤ub s t.1:=by
      unfold ub
      rw [if_neg hin,show t.1 - s.q.g.inp = j by omega]
      have hbest:(best s.lems (j:Int)).2≠0:=by
       intro e
       unfold abst at h2
       rw [if_pos ha,if_neg hneg] at h2
       have:atMost s.q.g.inp s.lems t.1 = none:=by
        unfold atMost;rw [if_neg hin,show t.1 - s.q.g.inp = j by omega,if_pos (.inr e)]
       rw [this] at h2;simp at h2
      obtain ⟨m,m1,m2,m3,m4,_⟩:=best_hi hbest
      have hh:=(hl m (List.mem_of_getElem? m1) p (by rw [m2];exact hp)).1 m3
      rw [← m4] at hh
      split
      ·rename_i hz
       rcases hz with hz | hz
       ·exact absurd hz hbest
       ·rcases k3 with k3 | k3
        ·rw [k3];exact Rat.le_trans hh hz
        ·rw [k3];exact Rat.le_refl
      ·rename_i hz
       have hz:¬ lv s.lems (best s.lems (j:Int)).2≤0:=fun e=>hz (.inr e)
       rcases k3 with k3 | k3
       ·rw [k3];exact hh
       ·rw [k3];exact Rat.le_of_lt (Rat.not_le.1 hz)
     have:0≤(-t.2) * (ub s t.1 - y):=Rat.mul_nonneg (by grind) (by grind)
     grind
  grind
theorem abQ_le {s:Sc} (hs:SOk s) {x:List Rat} (hx:InB s.q.r x) (hl:Holds s.q.g x s.lems) {f:Af} {n:Nat} (hf:FOk 3 n f) (hn:n≤s.q.g.inp + s.q.g.us.length) (hb:abB s f = true):abQ s f≤evM f (actM s.q.g x):=by
 rw [abQ_eq hs.q (fun t ht=>Nat.lt_of_lt_of_le (hf.var t ht) hn) hb]
 unfold evM evN
 rw [List.take_length,evS (f:=f)]
 have:=bnd_le hs hx hl f.ts ([],true) rfl (fun t ht=>Nat.lt_of_lt_of_le (hf.var t ht) hn) hb
 grind
end Rc
set_option linter.unusedSimpArgs false
set_option linter.unusedVariables false
namespace Rc
open Go Go.RowKit
theorem ev_scR {v:List Rat} {c:Rat}:∀ ts:List Tm,(scR c ts).foldl (fun s t=>s + t.2 * (v[t.1]?).getD 0) 0 = c * ts.foldl (fun s t=>s + t.2 * (v[t.1]?).getD 0) 0
 | []=>by simp only [scR,List.foldl_nil];grind
 | t :: ts=>by
  have ih:=ev_scR (v:=v) (c:=c) ts
  rw [List.foldl_cons,evS (f:=fZ) ts]
  unfold scR
  split
  ·rename_i h
   rw [ih]
   have:c * (t.2 * (v[t.1]?).getD 0) = 0:=by
    have e:c * (t.2 * (v[t.1]?).getD 0) = (t.2 * c) * (v[t.1]?).getD 0:=by grind
    rw [e,h];grind
   grind
  ·rw [List.foldl_cons,evS (f:=fZ) (scR c ts),ih];grind
theorem ev_neg (p:Af) (v:List Rat):evM (negF p) v = -(evM p v):=by
 unfold evM evN
 rw [List.take_length,List.take_length,evS (f:=fZ) _ (negF p).c,evS (f:=fZ) _ p.c]
 show p.c * ((-1:Int):Rat) + (scT p.ts ((-1:Int):Rat)).foldl _ 0 = _
 rw [scT_eq,ev_scR,m1];grind
section
variable {s:Sc} {x:List Rat}
theorem Holds.app {g:Gr} {l r:List Lm} (h1:Holds g x l) (h2:Holds g x r):Holds g x (l ++ r):=fun m hm=>by
 rcases List.mem_append.1 hm with hm | hm
 ·exact h1 m hm
 ·exact h2 m hm
theorem holds_one {g:Gr} {j:Nat} {up:Bool} {c:Rat} {pf:List Mu} {p:Af} (hp:g.us[j]? = some p) (h:(up = true→evM p (actM g x)≤c)∧(up = false→c≤evM p (actM g x))):Holds g x [⟨(j:Int),up,qOf c,pf⟩]:=fun m hm q hq=>by
 rw [List.mem_singleton] at hm;subst hm
 have:q = p:=by
  have e:g.us[j]? = some q:=hq
  rw [hp] at e;exact (Option.some.inj e).symm
 subst this
 rw [qOf_q];exact h
theorem abs_both {s:Sc} (hs:SOk s) {x:List Rat} (hx:InB s.q.r x) (hl:Holds s.q.g x s.lems) {j:Nat} {p:Af} (hp:s.q.g.us[j]? = some p):(abB s p = true→abQ s p≤evM p (actM s.q.g x))∧(abB s (negF p) = true→evM p (actM s.q.g x)≤-(abQ s (negF p))):=by
 have hf:=unit_fok hs.q hp
 refine ⟨fun h=>abQ_le hs hx hl hf (Nat.le_refl _) h,fun h=>?_⟩
 have:=abQ_le hs hx hl hf.neg (Nat.le_refl _) h
 have e:=ev_neg p (actM s.q.g x)
 have:abQ s (negF p)≤-(evM p (actM s.q.g x)):=by rw [← e];exact this
 grind
theorem side_holds (hs:SOk s) (hx:InB s.q.r x) (hl:Holds s.q.g x s.lems) {bits:Int} (h0:0≤bits) (h4:bits≤4096) {j:Nat} {up:Bool} {p:Af} (hp:s.q.g.us[j]? = some p):Holds s.q.g x (sideN absD s bits j up p):=by
 have hj:=(List.getElem?_eq_some_iff.1 hp).1
 have hK:=KB_le (j:=j) (by have:=hs.q.g.u4;omega)
 obtain ⟨b1,b2⟩:=abs_both hs hx hl hp
 have hpo:=hs.q.g.us j p hp
 unfold sideN
 split
 ·rename_i hb
  rw [Bool.and_eq_true] at hb
  have hb1:=hb.1
  unfold sideB at hb1
  refine holds_one hp ⟨fun hu=>?_,fun hu=>?_⟩
  ·rw [if_pos hu] at hb1
   have hb1:abB s (negF p) = true:=hb1
   unfold sideV;rw [if_pos hu]
   haveI h1:=unit_hb hs hj hpo.neg hb1
   have h2:Hb (-(abQ s (negF p))) (KB j - 4200):=Hb.neg
   exact Rat.le_trans (b2 hb1) (rndB_le h2 (by omega) h0 h4).2
  ·have hu':¬ up = true:=by rw [hu];decide
   rw [if_neg hu'] at hb1
   have hb1:abB s p = true:=hb1
   unfold sideV;rw [if_neg hu']
   exact Rat.le_trans (rndB_le (unit_hb hs hj hpo hb1) (by omega) h0 h4).1 (b1 hb1)
 ·exact fun m hm=>by simp at hm
theorem runN_holds (hs:SOk s) (h80:s.lems.length≤80) (hx:InB s.q.r x) (hl:Holds s.q.g x s.lems) {bits:Int} (h0:0≤bits) (h4:bits≤4096):∀ n,n≤s.q.g.us.length→Holds s.q.g x (Rc.runN absD s bits n)
 | 0,_=>hl
 | n + 1,hn=>by
  obtain ⟨p,hp⟩:∃ p,s.q.g.us[n]? = some p:=⟨_,List.getElem?_eq_getElem (by omega)⟩
  have ih:=runN_holds hs h80 hx hl h0 h4 n (by omega)
  have h1:=runN_sok absD_ok hs h80 (bits:=bits) (n:=n) (by omega)
  have h2:=runN_ok absD_ok hs h80 bits n (by omega)
  have h3:=runA_ok absD_ok hs (bits:=bits) h1 hp
  have h4':=hs.q.g.u4
  have hA:Holds s.q.g x (runA absD s bits (Rc.runN absD s bits n) n p):=ih.app (side_holds h1 hx ih h0 h4 (by exact hp))
  rw [runN_get hp]
  exact hA.app (side_holds (s:=withL s (runA absD s bits (Rc.runN absD s bits n) n p)) (LOk.withL hs h3.1 (by omega)) hx hA h0 h4 (by exact hp))
theorem runM_holds (hs:SOk s) (h80:s.lems.length≤80) (hx:InB s.q.r x) (hl:Holds s.q.g x s.lems) {bits:Int} (h0:0≤bits) (h4:bits≤4096):Holds s.q.g x (runM absD s bits).lems:=runN_holds hs h80 hx hl h0 h4 _ (Nat.le_refl _)
theorem bdN_holds (hs:SOk s) (h80:s.lems.length≤80) (hx:InB s.q.r x) (hl:Holds s.q.g x s.lems):∀ n,n≤s.q.g.us.length→Holds s.q.g x (bdN s n)
 | 0,_=>hl
 | n + 1,hn=>by
  obtain ⟨p,hp⟩:∃ p,s.q.g.us[n]? = some p:=⟨_,List.getElem?_eq_getElem (by omega)⟩
  have ih:=bdN_holds hs h80 hx hl n (by omega)
  have h1:=bdN_sok hs h80 (n:=n) (by omega)
  obtain ⟨b1,b2⟩:=abs_both (s:=withL s (bdN s n)) h1 hx ih (by exact hp)
  rw [bdN_get hp]
  refine (ih.app ?_).app ?_
  ·unfold bdA
   split
   ·rename_i hb
    exact holds_one hp ⟨fun h=>by simp at h,fun _=>b1 hb⟩
   ·exact fun m hm=>by simp at hm
  ·unfold bdB
   split
   ·rename_i hb
    exact holds_one hp ⟨fun _=>b2 hb,fun h=>by simp at h⟩
   ·exact fun m hm=>by simp at hm
theorem extM_holds (l:List Nat) {x:List Rat} (hx:InB (extM l).q.r x):Holds (extM l).q.g x (extM l).lems:=by
 by_cases hp:0 < sumB l % 3
 ·have e:extM l = boundedM (partM l):=if_pos hp
  rw [e] at hx ⊢
  exact bdN_holds (s:=partM l) (partM_ok l) (Nat.zero_le _) hx (fun m hm=>by simp [partM] at hm) _ (Nat.le_refl _)
 ·have e:extM l = partM l:=if_neg hp
  rw [e]
  exact fun m hm=>by simp [partM] at hm
end
end Rc
set_option linter.unusedSimpArgs false
set_option linter.unusedVariables false
namespace Go.Proofs.YtjdbopkbfkgpdaaGreatDoor
open Go Go.RowKit Rc
set_option maxRecDepth 10000 in
theorem eval_r (f:Af) {m:Nat} (hf:FOk 3 m f) (v:List Rat) {K:Nat} (hv:VB K v) (hK:K≤1000000) (hm:m≤v.length) (h7:m≤7):Ctr Tryz.prog 106 [afV f,V.one (El.row ratE v)] (R.tup [qV (qOf (evM f v)),V.one (Leaf.val (.int .i64 0))]):=by
 refine Ctr.of_body Tryz.func106 rfl Tryz.ntmps106 (Nat.le_of_ble_eq_true rfl) (fun w0 A0=>?_)
 have hfl:=hf.len
 refine c_a (t_f rfl (Je_box (n:=0) rfl rfl rfl) (t_f rfl (Je_alloc (n:=1) rfl tz34 rfl) (a_ FT 1 rfl (cna (a_ FT 2 rfl (t_f rfl (Je_alloc (n:=2) rfl tz34 rfl) (a_ FT 1 rfl (cns (c_a ?_)))))))))
 refine a_ FT 1 rfl (c_n (Tc_block ?_))
 refine Tc_loopR (fun m Γ H=>∃ (i:Nat) (c:Rat),f.ts.length - i = m∧Γ = [(1,some (D.v (V.one (El.row ratE v)))),(2,some (D.ptr 0 0)),(4,some (D.ptr 1 0)),(6,some (D.ptr 2 0)),(7,some (D.val (.int .i64 ((i:Nat):Int))))]∧H = [hb_ 36 (afL f),hb_ 34 [Leaf.val (.bool false),natL ([]),natL ([])],hb_ 34 (qL c)]∧i≤f.ts.length∧c = evN f v i) ⟨0,f.c,rfl,rfl,rfl,Nat.zero_le _,rfl⟩ ⟨rfl,rfl,rfl,rfl,rfl,trivial⟩ ?_
 rintro m Γ H ⟨i,c,rfl,rfl,rfl,hi0,hc⟩
 refine Tc_seq (c_a (a_ FT 3 rfl (t_q rfl (Jq_len rfl rfl un30) ?_)))
 by_cases hi:i < f.ts.length
 ·refine t_q rfl (Jq_lss rfl rfl rfl (b:=true) (dT (by omega))) (c_n (Tc_t rfl (c_b (Tc_seq (Tc_block (Tc_seq ?_))))))
  obtain ⟨x,hx⟩:∃ x,f.ts[i]? = some x:=⟨_,List.getElem?_eq_getElem hi⟩
  have hxm:=List.mem_of_getElem? hx
  have hxv:=hf.var x hxm
  obtain ⟨y,hy⟩:∃ y,v[x.1]? = some y:=⟨_,List.getElem?_eq_getElem (by omega)⟩
  haveI hyb:=hv y (List.mem_of_getElem? hy)
  haveI hxb:Br x.2 4:=(hf.bd x hxm).br
  have hfl:=hf.len
  haveI hcb:Br c 8000000:=by rw [hc];exact (evN_br hf hv hm i (by omega)).mono (by have:=Nat.mul_le_mul_right (K + 6) (show i≤7 by omega);omega)
  refine Tc_region (a_ FT 3 rfl (t_q rfl (Jq_indexX tmE f.ts (i) rfl rfl rfl un30 ty68 hx) (t_q rfl (Jq_load_ref_agg rfl rfl ty68 rfl) (t_f rfl (Je_alloc (n:=3) rfl tz68 rfl) (a_ FT 1 rfl (cns (c_a (a_ FT 2 rfl (t_q rfl (Jq_lss rfl rfl rfl (b:=false) (dF (by omega))) ?_)))))))))
  refine a_ FT 4 rfl (t_g rfl rfl rfl rfl (Jq_len rfl rfl un27) (t_g rfl rfl rfl rfl (Jq_geq rfl rfl rfl (b:=false) (dF (by omega))) (a_ FT 1 rfl (c_n (Tc_f rfl (c_b (Tc_drawK 0 [none,none,none,none,none,none,none,none,none,none,some 2] [2] follows (by kernel_rfl) ?_)))))))
  refine DK_qp [] (JO_q rfl rfl (Jq_load_agg rfl rfl rfl (by decide) ty34 (by decide) (Nat.le_of_ble_eq_true rfl) rfl)) (by kernel_rfl) (d_ FT 5 rfl (dq_ rfl rfl (Jq_indexX ratE v (x.1) rfl rfl rfl un27 ty34 hy) (dq_ rfl rfl (Jq_load_ref_agg rfl rfl ty34 rfl) ?_)))
  refine DK_c rfl rfl (Jd_call rfl fn58 rfl (rqmul (qOf (x.2)) (x.2) (qOf_q _) (Br.use (by omega)) (qOf (y)) (y) (qOf_q _) (Br.use (by omega)))) (DK_c rfl rfl (Jd_call rfl fn57 rfl (rqadd (qOf (c)) (c) (qOf_q _) (Br.use (by omega)) (qOf ((x.2) * (y))) ((x.2) * (y)) (qOf_q _) (Br.use (by omega)))) ?_)
  refine DK_s 2 rfl rfl rfl (Jd_store rfl rfl rfl rfl ty34 rfl (by decide) (Nat.le_of_ble_eq_true rfl) rfl) (DK_nil (At_block (At_then (Tc_region (a_ FT 1 rfl (t_q rfl (Jq_add rfl rfl rfl (r:=((i + 1:Nat):Int)) (w64 (by omega) (by omega) (by omega))) (a_ FT 1 rfl (Tl_end (At_free 3 ?_)))))))))
  refine trim_ 3 rfl ?_
  exact At_next (m':=f.ts.length - (i + 1)) (by omega) ⟨i + 1,_,rfl,rfl,rfl,hi,by rw [hc,evN_succ hx hy]⟩ ⟨rfl,rfl,rfl,rfl,rfl,trivial⟩
 ·refine t_q rfl (Jq_lss rfl rfl rfl (b:=false) (dF (by omega))) (c_n (Tc_f rfl (Tc_exitA (At_then_exit (At_then_exit (At_block_exit (At_then (Tc_seq ?_))))))))
  have hie:i = f.ts.length:=by omega
  rw [hie] at hc
  refine Tc_region (a_ FT 3 rfl (c_n ?_))
  exact Tc_ret2 hq_ rfl (rA ty34 rfl rfl rfl rfl) rfl (by rw [hc];rfl)
set_option maxRecDepth 10000 in
theorem values_r (g:Gr) (hg:GOk g) (x:List Rat) (hx:VB 100 x) (hl:x.length = g.inp):Ctr Tryz.prog 107 [grV g,V.one (El.row ratE x)] (R.tup [V.one (El.row ratE (actM g x)),V.one (Leaf.val (.int .i64 0))]):=by
 refine Ctr.of_body Tryz.func107 rfl Tryz.ntmps107 (Nat.le_of_ble_eq_true rfl) (fun w0 A0=>?_)
 have h1:=hg.i1;have h2:=hg.i3;have h3:=hg.u4;have h4:=hg.o1;have h5:=hg.o3
 refine c_a (t_f rfl (Je_box (n:=0) rfl rfl rfl) (t_q rfl (Jq_assign_nil rfl) (a_ FT 1 rfl (cns (c_a (a_ FT 1 rfl (t_f rfl (Je_call rfl fn50 rfl (gvalid_r g hg)) (a_ FT 3 rfl (t_g rfl rfl rfl rfl (Jq_len rfl rfl un27) ?_)))))))))
 refine a_ FT 2 rfl (t_g rfl rfl rfl rfl (Jq_neq rfl rfl rfl (b:=false) (nF (by omega))) (a_ FT 1 rfl (c_n (Tc_f rfl (c_b (Tc_seq (Tc_norm [(1,some (D.v (V.one (El.row ratE x)))),(2,some (D.ptr 0 0))] [hb_ 26 [Leaf.val (.int .i64 ((g.inp:Nat):Int)),El.row afE g.us,El.row afE g.os]] ⟨rfl,rfl,trivial⟩ rfl (Tc_region (t_q rfl (Jq_assign rfl (rfl)) ?_)))))))))
 refine cns (Tc_seq (Tc_growS 6 34 3 rfl rfl (Tc_region (a_ FT 1 rfl (c_n (Tc_block ?_))))))
 refine Tc_loopR (fun m Γ H=>∃ (i:Nat) (n:Nat) (out:List Rat),x.length - i = m∧Γ = [(1,some (D.v (V.one (El.row ratE x)))),(2,some (D.ptr 0 0)),(6,some (D.v (V.one (Leaf.own 1 n)))),(7,some (D.val (.int .i64 ((i:Nat):Int))))]∧H = [hb_ 26 [Leaf.val (.int .i64 ((g.inp:Nat):Int)),El.row afE g.us,El.row afE g.os],hgr 34 3 ratE out n]∧i≤x.length∧out = x.take i) ⟨0,0,[],rfl,rfl,rfl,Nat.zero_le _,rfl⟩ ⟨rfl,rfl,rfl,rfl,trivial⟩ ?_
 rintro m Γ H ⟨i,n,out,rfl,rfl,rfl,hi0,hout⟩
 refine Tc_seq (c_a (a_ FT 2 rfl (t_q rfl (Jq_len rfl rfl un27) ?_)))
 by_cases hi:i < x.length
 ·refine t_q rfl (Jq_lss rfl rfl rfl (b:=true) (dT (by omega))) (c_n (Tc_t rfl (c_b (Tc_seq (Tc_block ?_)))))
  obtain ⟨y,hy⟩:∃ y,x[i]? = some y:=⟨_,List.getElem?_eq_getElem hi⟩
  haveI hyb:=hx y (List.mem_of_getElem? hy)
  have hol:out.length≤7:=by rw [hout,List.length_take];omega
  refine Tc_region (a_ FT 3 rfl (t_q rfl (Jq_indexX ratE x (i) rfl rfl rfl un27 ty34 hy) (t_q rfl (Jq_load_ref_agg rfl rfl ty34 rfl) (t_f rfl (Je_call rfl fn65 rfl (rqcanon (qOf (y)) (y) (qOf_q _) (Br.use (by omega)))) (t_f rfl (Je_buildSlice rfl un27 ty34 tz34 rfl (by decide) (by decide) rfl (by decide) rfl) ?_)))))
  obtain ⟨ti3,hi3,hz3,hs3,hb3⟩:=in34
  refine t_f rfl (Je_appendR ratE out y rfl rfl rfl rfl (by decide) un27 un27 hi3 hz3 hs3 rfl (by first | (simp only [maxLen];omega) | (simp only [maxLen,List.length_append,List.length_take,List.length_drop,List.length_cons,List.length_nil];omega)) (by rw [hb3];first | omega | (simp only [List.length_append,List.length_take,List.length_drop,List.length_cons,List.length_nil];omega))) ?_
  refine a_ FT 1 rfl (Tl_end (At_block (At_then (Tc_norm [(1,some (D.v (V.one (El.row ratE x)))),(2,some (D.ptr 0 0)),(6,some (D.v (V.one (Leaf.own 1 (n + 1))))),(7,some (D.val (.int .i64 ((i:Nat):Int))))] [hb_ 26 [Leaf.val (.int .i64 ((g.inp:Nat):Int)),El.row afE g.us,El.row afE g.os],hgr 34 3 ratE (out ++ [y]) (n + 1)] ⟨rfl,rfl,rfl,rfl,trivial⟩ rfl (Tc_region ?_)))))
  refine a_ FT 1 rfl (t_q rfl (Jq_add rfl rfl rfl (r:=((i + 1:Nat):Int)) (w64 (by omega) (by omega) (by omega))) (a_ FT 1 rfl (Tl_end ?_)))
  exact At_next (m':=x.length - (i + 1)) (by omega) ⟨i + 1,_,_,rfl,rfl,rfl,hi,by rw [hout,take_snoc hy]⟩ ⟨rfl,rfl,rfl,rfl,trivial⟩
 ·refine t_q rfl (Jq_lss rfl rfl rfl (b:=false) (dF (by omega))) (c_n (Tc_f rfl (Tc_exitA (At_then_exit (At_then_exit (At_block_exit (At_then (Tc_seq (Tc_seq ?_)))))))))
  have hie:i = x.length:=by omega
  rw [hie,List.take_length] at hout
  refine Tc_region (a_ FT 1 rfl (c_n (Tc_block ?_)))
  refine Tc_loopR (fun m Γ H=>∃ (j:Nat) (n2:Nat) (out2:List Rat),g.us.length - j = m∧Γ = [(2,some (D.ptr 0 0)),(6,some (D.v (V.one (Leaf.own 1 n2)))),(8,some (D.val (.int .i64 ((j:Nat):Int))))]∧H = [hb_ 26 [Leaf.val (.int .i64 ((g.inp:Nat):Int)),El.row afE g.us,El.row afE g.os],hgr 34 3 ratE out2 n2]∧j≤g.us.length∧out2 = actN g.us x j) ⟨0,n,out,rfl,rfl,rfl,Nat.zero_le _,hout⟩ ⟨rfl,rfl,rfl,trivial⟩ ?_
  rintro m Γ H ⟨j,n2,out2,rfl,rfl,rfl,hj0,hout2⟩
  refine Tc_seq (c_a (a_ FT 3 rfl (t_q rfl (Jq_len rfl rfl un24) ?_)))
  by_cases hj:j < g.us.length
  ·refine t_q rfl (Jq_lss rfl rfl rfl (b:=true) (dT (by omega))) (c_n (Tc_t rfl (c_b (Tc_seq (Tc_block (Tc_seq ?_))))))
   obtain ⟨p,hp⟩:∃ p,g.us[j]? = some p:=⟨_,List.getElem?_eq_getElem hj⟩
   have hol:out2.length = g.inp + j:=by rw [hout2,actN_len j (by omega),hl]
   have hvb:VB (KV j) out2:=by rw [hout2];exact actN_br hg hx hl j (by omega)
   have hkv:=KV_le (n:=j) (by omega)
   have hpo:=hg.us j p hp
   haveI hev:=evM_br hpo hvb (by omega) (by omega)
   haveI hmb:=mx_br hev
   refine Tc_norm [(2,some (D.ptr 0 0)),(6,some (D.v (V.one (Leaf.own 1 n2)))),(8,some (D.val (.int .i64 ((j:Nat):Int))))] [hb_ 26 [Leaf.val (.int .i64 ((g.inp:Nat):Int)),El.row afE g.us,El.row afE g.os],hgr 34 3 ratE out2 n2] ⟨rfl,rfl,rfl,trivial⟩ rfl (Tc_region (a_ FT 3 rfl (t_q rfl (Jq_indexX afE g.us (j) rfl rfl rfl un24 ty36 hp) ?_)))
   refine t_q rfl (Jq_load_ref_agg rfl rfl ty36 rfl) (t_q rfl (Jq_view (r:=1) (n:=n2) (x:=V.one (Leaf.own 1 n2)) (x':=V.one (El.row ratE out2)) (Jq_move rfl rfl) (RowAt.ofE ratE out2 rfl (by decide)) (by decide) (.inr ⟨rfl,rfl⟩)) (t_f rfl (Je_call rfl fn106 rfl (eval_r p hpo out2 hvb (by omega) (by omega) (by omega))) (a_ FT 3 rfl (t_f rfl (Je_alloc (n:=2) rfl tz34 rfl) ?_))))
   refine a_ FT 2 rfl (c_n (Tc_norm [(2,some (D.ptr 0 0)),(6,some (D.v (V.one (Leaf.own 1 n2)))),(8,some (D.val (.int .i64 ((j:Nat):Int)))),(9,some (D.ptr 2 0))] [hb_ 26 [Leaf.val (.int .i64 ((g.inp:Nat):Int)),El.row afE g.us,El.row afE g.os],hgr 34 3 ratE out2 n2,hb_ 34 (qL (evM p out2))] ⟨rfl,rfl,rfl,rfl,trivial⟩ rfl (Tc_region (a_ FT 2 rfl ?_))))
   refine t_q rfl (Jq_build rfl tz34 rfl pl34 rfl) (t_f rfl (Je_call rfl fn144 rfl (rqmax (qOf ((evM p out2))) ((evM p out2)) (qOf_q _) (Br.use (by omega)) qZero (0) qZero_q qZero_fit)) (t_f rfl (Je_buildSlice rfl un27 ty34 tz34 rfl (by decide) (by decide) rfl (by decide) rfl) ?_))
   obtain ⟨ti6,hi6,hz6,hs6,hb6⟩:=in34
   refine t_f rfl (Je_appendR ratE out2 (mx ((evM p out2)) (0)) rfl rfl rfl rfl (by decide) un27 un27 hi6 hz6 hs6 rfl (by first | (simp only [maxLen];omega) | (simp only [maxLen,List.length_append,List.length_take,List.length_drop,List.length_cons,List.length_nil];omega)) (by rw [hb6];first | omega | (simp only [List.length_append,List.length_take,List.length_drop,List.length_cons,List.length_nil];omega))) ?_
   refine a_ FT 1 rfl (Tl_end (At_block (At_then (Tc_region (a_ FT 1 rfl (t_q rfl (Jq_add rfl rfl rfl (r:=((j + 1:Nat):Int)) (w64 (by omega) (by omega) (by omega))) (a_ FT 1 rfl (Tl_end (At_free 2 ?_)))))))))
   refine trim_ 2 rfl ?_
   exact At_next (m':=g.us.length - (j + 1)) (by omega) ⟨j + 1,_,_,rfl,rfl,rfl,hj,by rw [hout2,actN_succ hp]⟩ ⟨rfl,rfl,rfl,trivial⟩
  ·refine t_q rfl (Jq_lss rfl rfl rfl (b:=false) (dF (by omega))) (c_n (Tc_f rfl (Tc_exitA (At_then_exit (At_then_exit (At_block_exit (At_then (Tc_seq ?_))))))))
   have hje:j = g.us.length:=by omega
   rw [hje] at hout2
   refine Tc_free 0 (Tc_norm [(6,some (D.v (V.one (Leaf.own 1 n2))))] [none,hgr 34 3 ratE out2 n2] ⟨rfl,trivial⟩ rfl (Tc_region (a_ FT 3 rfl (c_n (Tc_viewS 4 (x':=V.one (El.row ratE out2)) rfl (RowAt.ofE ratE out2 rfl (by decide)) (.inr ⟨rfl,rfl⟩) ?_)))))
   exact Tc_ret2 hq_ rfl rfl rfl (by rw [hout2];rfl)
set_option maxRecDepth 10000 in
theorem forms_r (g:Gr) (hg:GOk g) (x:List Rat) (hx:VB 100 x) (hl:x.length = g.inp):Ctr Tryz.prog 62 [grV g,V.one (El.row afE g.us),V.one (El.row ratE x)] (R.tup [V.one (El.row ratE (preM g x)),V.one (Leaf.val (.int .i64 0))]):=by
 refine Ctr.of_body Tryz.func62 rfl Tryz.ntmps62 (Nat.le_of_ble_eq_true rfl) (fun w0 A0=>?_)
 have h1:=hg.i1;have h2:=hg.i3;have h3:=hg.u4;have h4:=hg.o1;have h5:=hg.o3
 refine c_a (t_f rfl (Je_box (n:=0) rfl rfl rfl) (t_q rfl (Jq_assign_nil rfl) (a_ FT 1 rfl (cna (a_ FT 2 rfl (t_f rfl (Je_call rfl fn107 rfl (values_r g hg x hx hl)) (a_ FT 5 rfl (cns (Tc_seq ?_)))))))))
 refine Tc_free 0 (Tc_norm [(1,some (D.v (V.one (El.row afE g.us)))),(8,some (D.v (V.one (El.row ratE (actM g x))))),(9,some (D.val (.int .i64 0)))] [none] ⟨rfl,rfl,rfl,trivial⟩ rfl (Tc_region (a_ FT 1 rfl (t_q rfl (Jq_neq rfl rfl rfl (b:=false) (rfl)) (c_n (Tc_f rfl (c_b (c_a (t_q rfl (Jq_assign rfl (rfl)) ?_)))))))))
 refine cns (Tc_seq (Tc_growS 10 34 3 rfl rfl (Tc_region (a_ FT 1 rfl (c_n (Tc_block ?_))))))
 refine Tc_loopR (fun m Γ H=>∃ (i:Nat) (n:Nat) (out:List Rat),g.us.length - i = m∧Γ = [(1,some (D.v (V.one (El.row afE g.us)))),(8,some (D.v (V.one (El.row ratE (actM g x))))),(10,some (D.v (V.one (Leaf.own 1 n)))),(11,some (D.val (.int .i64 ((i:Nat):Int))))]∧H = [none,hgr 34 3 ratE out n]∧i≤g.us.length∧out = (g.us.take i).map (fun p=>evM p (actM g x))) ⟨0,0,[],rfl,rfl,rfl,Nat.zero_le _,rfl⟩ ⟨rfl,rfl,rfl,rfl,trivial⟩ ?_
 rintro m Γ H ⟨i,n,out,rfl,rfl,rfl,hi0,hout⟩
 refine Tc_seq (c_a (a_ FT 2 rfl (t_q rfl (Jq_len rfl rfl un24) ?_)))
 by_cases hi:i < g.us.length
 ·refine t_q rfl (Jq_lss rfl rfl rfl (b:=true) (dT (by omega))) (c_n (Tc_t rfl (c_b (Tc_seq (Tc_block (Tc_seq ?_))))))
  obtain ⟨p,hp⟩:∃ p,g.us[i]? = some p:=⟨_,List.getElem?_eq_getElem hi⟩
  have hpo:=(hg.us i p hp).mono (Nat.le_refl 3) (show g.inp + i≤g.inp + g.us.length by omega)
  have hol:out.length≤7:=by rw [hout];simp;omega
  have hal:(actM g x).length = g.inp + g.us.length:=by unfold actM;rw [actN_len _ (Nat.le_refl _),hl]
  have hvb:VB 500000 (actM g x):=(actN_br hg hx hl _ (Nat.le_refl _)).mono (KV_le (by omega))
  haveI hev:=evM_br hpo hvb (by omega) (by omega)
  refine Tc_norm [(1,some (D.v (V.one (El.row afE g.us)))),(8,some (D.v (V.one (El.row ratE (actM g x))))),(10,some (D.v (V.one (Leaf.own 1 n)))),(11,some (D.val (.int .i64 ((i:Nat):Int))))] [none,hgr 34 3 ratE out n] ⟨rfl,rfl,rfl,rfl,trivial⟩ rfl (Tc_region (a_ FT 2 rfl (t_q rfl (Jq_indexX afE g.us (i) rfl rfl rfl un24 ty36 hp) ?_)))
  refine t_q rfl (Jq_load_ref_agg rfl rfl ty36 rfl) (a_ FT 1 rfl (t_f rfl (Je_call rfl fn106 rfl (eval_r p hpo (actM g x) hvb (by omega) (by omega) (by omega))) (a_ FT 3 rfl (t_f rfl (Je_alloc (n:=2) rfl tz34 rfl) (a_ FT 2 rfl (c_n ?_))))))
  refine Tc_norm [(1,some (D.v (V.one (El.row afE g.us)))),(8,some (D.v (V.one (El.row ratE (actM g x))))),(10,some (D.v (V.one (Leaf.own 1 n)))),(11,some (D.val (.int .i64 ((i:Nat):Int)))),(12,some (D.ptr 2 0))] [none,hgr 34 3 ratE out n,hb_ 34 (qL (evM p (actM g x)))] ⟨rfl,rfl,rfl,rfl,rfl,trivial⟩ rfl (Tc_region (a_ FT 2 rfl ?_))
  refine t_f rfl (Je_buildSlice rfl un27 ty34 tz34 rfl (by decide) (by decide) rfl (by decide) rfl) ?_
  obtain ⟨ti3,hi3,hz3,hs3,hb3⟩:=in34
  refine t_f rfl (Je_appendR ratE out (evM p (actM g x)) rfl rfl rfl rfl (by decide) un27 un27 hi3 hz3 hs3 rfl (by first | (simp only [maxLen];omega) | (simp only [maxLen,List.length_append,List.length_take,List.length_drop,List.length_cons,List.length_nil];omega)) (by rw [hb3];first | omega | (simp only [List.length_append,List.length_take,List.length_drop,List.length_cons,List.length_nil];omega))) ?_
  refine a_ FT 1 rfl (Tl_end (At_block (At_then (Tc_region (a_ FT 1 rfl (t_q rfl (Jq_add rfl rfl rfl (r:=((i + 1:Nat):Int)) (w64 (by omega) (by omega) (by omega))) (a_ FT 1 rfl (Tl_end (At_free 2 ?_)))))))))
  refine trim_ 2 rfl ?_
  exact At_next (m':=g.us.length - (i + 1)) (by omega) ⟨i + 1,_,_,rfl,rfl,rfl,hi,by rw [hout,take_snoc hp,List.map_append];rfl⟩ ⟨rfl,rfl,rfl,rfl,trivial⟩
 ·refine t_q rfl (Jq_lss rfl rfl rfl (b:=false) (dF (by omega))) (c_n (Tc_f rfl (Tc_exitA (At_then_exit (At_then_exit (At_block_exit (At_then (Tc_seq ?_))))))))
  have hie:i = g.us.length:=by omega
  rw [hie,List.take_length] at hout
  refine Tc_norm [(10,some (D.v (V.one (Leaf.own 1 n))))] [none,hgr 34 3 ratE out n] ⟨rfl,trivial⟩ rfl (Tc_region (a_ FT 3 rfl (c_n (Tc_viewS 6 (x':=V.one (El.row ratE out)) rfl (RowAt.ofE ratE out rfl (by decide)) (.inr ⟨rfl,rfl⟩) ?_))))
  exact Tc_ret2 hq_ rfl rfl rfl (by rw [hout];rfl)
set_option maxRecDepth 10000 in
theorem pre_r (g:Gr) (hg:GOk g) (x:List Rat) (hx:VB 100 x) (hl:x.length = g.inp):Ctr Tryz.prog 21 [grV g,V.one (El.row ratE x)] (R.tup [V.one (El.row ratE (preM g x)),V.one (Leaf.val (.int .i64 0))]):=by
 refine Ctr.of_body Tryz.func21 rfl Tryz.ntmps21 (Nat.le_of_ble_eq_true rfl) (fun w0 A0=>?_)
 refine c_a (t_f rfl (Je_box (n:=0) rfl rfl rfl) (t_q rfl (Jq_assign_nil rfl) (a_ FT 1 rfl (cna (a_ FT 4 rfl (t_f rfl (Je_call rfl fn62 rfl (forms_r g hg x hx hl)) (a_ FT 4 rfl (c_n ?_))))))))
 exact Tc_ret2 hq_ rfl rfl rfl rfl
set_option maxRecDepth 10000 in
theorem own_r (r:Rg) {n:Nat} (hr:ROk n r) (hn1:1≤n) (hn3:n≤3):Ctr Tryz.prog 105 [rgV r] (R.one (V.one (Leaf.val (.bool true)))):=by
 refine Ctr.of_body Tryz.func105 rfl Tryz.ntmps105 (Nat.le_of_ble_eq_true rfl) (fun w0 A0=>?_)
 have h1:=hr.lo;have h2:=hr.hi;have h3:=hr.r2
 refine c_a (t_f rfl (Je_box (n:=0) rfl rfl rfl) (a_ FT 1 rfl (cna (a_ FT 3 rfl (t_q rfl (Jq_len rfl rfl un27) (t_f rfl (Je_call rfl fn51 rfl (rgvalid_r r r.lo.length (by rw [hr.lo];exact hr) (by omega) (by omega))) (a_ FT 1 rfl (c_n ?_))))))))
 exact Tc_ret1 hq_ rfl rfl rfl
set_option maxRecDepth 10000 in
theorem cont_r (r:Rg) {n:Nat} (hr:ROk n r) (hn1:1≤n) (hn3:n≤3) (x:List Rat) (hx:InB r x):Ctr Tryz.prog 60 [rgV r,V.one (El.row ratE x)] (R.one (V.one (Leaf.val (.bool (contB r x))))):=by
 refine Ctr.of_body Tryz.func60 rfl Tryz.ntmps60 (Nat.le_of_ble_eq_true rfl) (fun w0 A0=>?_)
 have h1:=hr.lo;have h2:=hr.hi;have h3:=hr.r2
 have hxl:=hx.len
 refine c_a (t_f rfl (Je_box (n:=0) rfl rfl rfl) (a_ FT 1 rfl (cns (c_a (a_ FT 1 rfl (t_f rfl (Je_call rfl fn105 rfl (own_r r hr hn1 hn3)) (a_ FT 3 rfl (t_g rfl rfl rfl rfl (Jq_len rfl rfl un27) (a_ FT 2 rfl ?_)))))))))
 refine t_g rfl rfl rfl rfl (Jq_len rfl rfl un27) (t_g rfl rfl rfl rfl (Jq_neq rfl rfl rfl (b:=false) (nF (by omega))) (a_ FT 1 rfl (c_n (Tc_f rfl (c_b (Tc_seq (Tc_seq (Tc_norm [(1,some (D.v (V.one (El.row ratE x)))),(2,some (D.ptr 0 0))] [hb_ 29 [El.row ratE r.lo,El.row ratE r.hi,El.row afE r.rows]] ⟨rfl,rfl,trivial⟩ rfl (Tc_region ?_)))))))))
 refine a_ FT 1 rfl (c_n (Tc_block (Tc_loopR (fun m Γ H=>∃ (i:Nat),x.length - i = m∧Γ = [(1,some (D.v (V.one (El.row ratE x)))),(2,some (D.ptr 0 0)),(5,some (D.val (.int .i64 ((i:Nat):Int))))]∧H = [hb_ 29 [El.row ratE r.lo,El.row ratE r.hi,El.row afE r.rows]]∧i≤x.length) ⟨0,rfl,rfl,rfl,Nat.zero_le _⟩ ⟨rfl,rfl,rfl,trivial⟩ ?_)))
 rintro m Γ H ⟨i,rfl,rfl,rfl,hi0⟩
 refine Tc_seq (c_a (a_ FT 2 rfl (t_q rfl (Jq_len rfl rfl un27) ?_)))
 by_cases hi:i < x.length
 ·refine t_q rfl (Jq_lss rfl rfl rfl (b:=true) (dT (by omega))) (c_n (Tc_t rfl (c_b (Tc_seq (Tc_block (Tc_seq ?_))))))
  obtain ⟨y,hy⟩:∃ y,x[i]? = some y:=⟨_,List.getElem?_eq_getElem hi⟩
  obtain ⟨a,ha⟩:∃ a,r.lo[i]? = some a:=⟨_,List.getElem?_eq_getElem (by omega)⟩
  obtain ⟨b,hb⟩:∃ b,r.hi[i]? = some b:=⟨_,List.getElem?_eq_getElem (by omega)⟩
  obtain ⟨hay,hyb⟩:=hx.in_ i y a b hy ha hb
  haveI hb0:=hx.bd y (List.mem_of_getElem? hy)
  haveI hb1:=(hr.bd i a b ha hb).1.br
  haveI hb2:=(hr.bd i a b ha hb).2.1.br
  refine Tc_drawK 0 [none,none,none,none,none,none,none,none,none,none,none,none,none,none,none,none,none,none,none,none,none,none,none,none] [] follows (by kernel_rfl) (d_ FT 2 rfl (dq_ rfl rfl (Jq_indexX ratE x (i) rfl rfl rfl un27 ty34 hy) (dq_ rfl rfl (Jq_load_ref_agg rfl rfl ty34 rfl) (d_ FT 3 rfl ?_))))
  refine dq_ rfl rfl (Jq_indexX ratE r.lo (i) rfl rfl rfl un27 ty34 ha) (dq_ rfl rfl (Jq_load_ref_agg rfl rfl ty34 rfl) (DK_c rfl rfl (Jd_call rfl fn22 rfl (rqcmp (qOf (y)) (y) (qOf_q _) (Br.use (by omega)) (qOf (a)) (a) (qOf_q _) (Br.use (by omega)))) (dq_ rfl rfl (Jq_lss rfl rfl rfl (b:=false) (dF (by have:=cmpq_ge.2 hay;omega))) (d_ FT 3 rfl ?_))))
  refine DK_q (JO_qg rfl rfl rfl rfl (Jq_indexX ratE x (i) rfl rfl rfl un27 ty34 hy)) (DK_q (JO_qg rfl rfl rfl rfl (Jq_load_ref_agg rfl rfl ty34 rfl)) (d_ FT 3 rfl (DK_q (JO_qg rfl rfl rfl rfl (Jq_indexX ratE r.hi (i) rfl rfl rfl un27 ty34 hb)) (DK_q (JO_qg rfl rfl rfl rfl (Jq_load_ref_agg rfl rfl ty34 rfl)) ?_))))
  refine DK_cg rfl rfl rfl rfl (Jd_call rfl fn22 rfl (rqcmp (qOf (y)) (y) (qOf_q _) (Br.use (by omega)) (qOf (b)) (b) (qOf_q _) (Br.use (by omega)))) (DK_q (JO_qg rfl rfl rfl rfl (Jq_gtr rfl rfl rfl (b:=false) (dF (by have:=cmpq_le.2 hyb;omega)))) (d_ FT 1 rfl (DK_nil (At_then (Tc_f rfl (Tc_skipA (At_block (At_then ?_))))))))
  refine Tc_norm [(1,some (D.v (V.one (El.row ratE x)))),(2,some (D.ptr 0 0)),(5,some (D.val (.int .i64 ((i:Nat):Int))))] [hb_ 29 [El.row ratE r.lo,El.row ratE r.hi,El.row afE r.rows]] ⟨rfl,rfl,rfl,trivial⟩ rfl (Tc_region (a_ FT 1 rfl (t_q rfl (Jq_add rfl rfl rfl (r:=((i + 1:Nat):Int)) (w64 (by omega) (by omega) (by omega))) (a_ FT 1 rfl (Tl_end ?_)))))
  exact At_next (m':=x.length - (i + 1)) (by omega) ⟨i + 1,rfl,rfl,rfl,hi⟩ ⟨rfl,rfl,rfl,trivial⟩
 ·refine t_q rfl (Jq_lss rfl rfl rfl (b:=false) (dF (by omega))) (c_n (Tc_f rfl (Tc_exitA (At_then_exit (At_then_exit (At_block_exit (At_then (Tc_seq (c_a ?_)))))))))
  refine a_ FT 1 rfl (c_n (Tc_block ?_))
  refine Tc_loopR (fun m Γ H=>∃ (k:Nat),r.rows.length - k = m∧Γ = [(1,some (D.v (V.one (El.row ratE x)))),(2,some (D.ptr 0 0)),(6,some (D.val (.int .i64 ((k:Nat):Int))))]∧H = [hb_ 29 [El.row ratE r.lo,El.row ratE r.hi,El.row afE r.rows]]∧k≤r.rows.length∧(r.rows.take k).all (fun f=>decide (0≤sg (evM f x))) = true) ⟨0,rfl,rfl,rfl,Nat.zero_le _,rfl⟩ ⟨rfl,rfl,rfl,trivial⟩ ?_
  rintro m Γ H ⟨k,rfl,rfl,rfl,hk0,hall⟩
  refine Tc_seq (c_a (a_ FT 3 rfl (t_q rfl (Jq_len rfl rfl un24) ?_)))
  by_cases hk:k < r.rows.length
  ·refine t_q rfl (Jq_lss rfl rfl rfl (b:=true) (dT (by omega))) (c_n (Tc_t rfl (c_b (Tc_seq (Tc_block (Tc_seq ?_))))))
   obtain ⟨f,hf⟩:∃ f,r.rows[k]? = some f:=⟨_,List.getElem?_eq_getElem hk⟩
   have hfo:=hr.rows f (List.mem_of_getElem? hf)
   haveI hev:=evM_br hfo hx.bd (by omega) (by omega)
   refine Tc_norm [(1,some (D.v (V.one (El.row ratE x)))),(2,some (D.ptr 0 0)),(6,some (D.val (.int .i64 ((k:Nat):Int))))] [hb_ 29 [El.row ratE r.lo,El.row ratE r.hi,El.row afE r.rows]] ⟨rfl,rfl,rfl,trivial⟩ rfl (Tc_region (a_ FT 3 rfl (t_q rfl (Jq_indexX afE r.rows (k) rfl rfl rfl un24 ty36 hf) (t_q rfl (Jq_load_ref_agg rfl rfl ty36 rfl) (a_ FT 1 rfl ?_)))))
   refine t_f rfl (Je_call rfl fn106 rfl (eval_r f hfo x hx.bd (by omega) (by omega) (by omega))) (a_ FT 3 rfl (t_f rfl (Je_alloc (n:=1) rfl tz34 rfl) (a_ FT 2 rfl (cns ?_))))
   refine Tc_norm [(1,some (D.v (V.one (El.row ratE x)))),(2,some (D.ptr 0 0)),(6,some (D.val (.int .i64 ((k:Nat):Int)))),(7,some (D.ptr 1 0))] [hb_ 29 [El.row ratE r.lo,El.row ratE r.hi,El.row afE r.rows],hb_ 34 (qL (evM f x))] ⟨rfl,rfl,rfl,rfl,trivial⟩ rfl (Tc_region (a_ FT 1 rfl ?_))
   refine t_f rfl (Je_call rfl fn63 rfl (rqsign (qOf ((evM f x))) ((evM f x)) (qOf_q _) (Br.use (by omega)))) ?_
   by_cases hneg:sg (evM f x) < 0
   ·refine t_q rfl (Jq_lss rfl rfl rfl (b:=true) (dT (by omega))) (c_n (Tc_t rfl (c_a (a_ FT 1 rfl (c_n ?_)))))
    exact Tc_ret1 hq_ rfl rfl (by unfold contB;rw [all_no hf (decide_eq_false (by omega))])
   ·refine t_q rfl (Jq_lss rfl rfl rfl (b:=false) (dF (by omega))) (c_n (Tc_f rfl (Tc_skipA (At_block (At_then (Tc_region (a_ FT 1 rfl (t_q rfl (Jq_add rfl rfl rfl (r:=((k + 1:Nat):Int)) (w64 (by omega) (by omega) (by omega))) (a_ FT 1 rfl ?_)))))))))
    refine Tl_end (At_free 1 (trim_ 1 rfl ?_))
    exact At_next (m':=r.rows.length - (k + 1)) (by omega) ⟨k + 1,rfl,rfl,rfl,hk,all_take hf hall (decide_eq_true (by omega))⟩ ⟨rfl,rfl,rfl,trivial⟩
  ·refine t_q rfl (Jq_lss rfl rfl rfl (b:=false) (dF (by omega))) (c_n (Tc_f rfl (Tc_exitA (At_then_exit (At_then_exit (At_block_exit (At_then (Tc_seq ?_))))))))
   have hke:k = r.rows.length:=by omega
   rw [hke,List.take_length] at hall
   refine Tc_region (a_ FT 1 rfl (c_n ?_))
   exact Tc_ret1 hq_ rfl rfl (by unfold contB;rw [hall])
set_option maxRecDepth 10000 in
theorem fits_ok (q:Qu) (hq:QOk q) (d:Dc) {b:Nat} (hd:DOk b q d) (hb:b≤1000000):Ctr Tryz.prog 26 [quV q,dcV d] (R.one (V.one (Leaf.val (.bool true)))):=by
 refine Ctr.of_body Tryz.func26 rfl Tryz.ntmps26 (Nat.le_of_ble_eq_true rfl) (fun w0 A0=>?_)
 refine c_a (t_f rfl (Je_box (n:=0) rfl rfl rfl) (t_f rfl (Je_box (n:=1) rfl rfl rfl) (a_ FT 1 rfl (cna (a_ FT 1 rfl (t_f rfl (Je_call rfl fn14 rfl (qvalid_r q hq)) (a_ FT 3 rfl (Tl_e (JO_eg rfl rfl rfl rfl (Je_call rfl fn69 rfl (fits_r q d hd hb))) rfl rfl (a_ FT 2 rfl ?_)))))))))
 refine c_n ?_
 exact Tc_ret1 hq_ rfl rfl rfl
set_option maxRecDepth 10000 in
set_option maxHeartbeats 2000000 in
theorem hold_r (q:Qu) (hq:QOk q) (d:Dc) (hd:DOk 200 q d) (x:List Rat) (hx:InB q.r x):Ctr Tryz.prog 61 [quV q,dcV d,V.one (El.row ratE x)] (R.one (V.one (Leaf.val (.bool (holdB q d x))))):=by
 refine Ctr.of_body Tryz.func61 rfl Tryz.ntmps61 (Nat.le_of_ble_eq_true rfl) (fun w0 A0=>?_)
 have hg:=hq.g;have hr:=hq.r;have hxl:=hx.len;have hrl:=hr.lo
 have h1:=hg.i1;have h2:=hg.i3;have h3:=hg.u4;have h4:=hg.o1;have h5:=hg.o3
 obtain ⟨hkk,hdb⟩:=hd
 have hd:DOk 200 q d:=⟨hkk,hdb⟩
 haveI hdbr:=hdb.br
 refine c_a (t_f rfl (Je_box (n:=0) rfl rfl rfl) (t_f rfl (Je_box (n:=1) rfl rfl rfl) (a_ FT 1 rfl (cns (c_a (a_ FT 2 rfl (t_f rfl (Je_call rfl fn26 rfl (fits_ok q hq d hd (by omega))) (a_ FT 3 rfl (t_g rfl rfl rfl rfl (Jq_len rfl rfl un27) ?_)))))))))
 refine a_ FT 3 rfl (t_g rfl rfl rfl rfl (Jq_neq rfl rfl rfl (b:=false) (nF (by omega))) (a_ FT 1 rfl (c_n (Tc_f rfl (c_b (Tc_seq (Tc_seq ?_)))))))
 refine Tc_norm [(2,some (D.v (V.one (El.row ratE x)))),(3,some (D.ptr 0 0)),(4,some (D.ptr 1 0))] [hb_ 38 (quL q),hb_ 73 [Leaf.val (.int .i64 ((d.kind:Nat):Int)),Leaf.val (.int .i64 ((d.idx:Nat):Int)),Leaf.val (.bool (cneg d.pt)),natL (limbs (cnum d.pt)),natL (limbs (cden d.pt))]] ⟨rfl,rfl,rfl,trivial⟩ rfl (Tc_region (a_ FT 2 rfl (c_n (Tc_block (c_a ?_)))))
 by_cases hk3:d.kind = 3
 ·refine t_q rfl (Jq_eql rfl rfl rfl (b:=true) (eT (by omega))) (a_ FT 1 rfl (c_n (Tc_t rfl (Tc_seq ?_))))
  obtain ⟨y,hy⟩:∃ y,x[d.idx]? = some y:=⟨_,List.getElem?_eq_getElem (by omega)⟩
  haveI hyb:=hx.bd y (List.mem_of_getElem? hy)
  refine Tc_drawK 0 [none,none,none,none,none,none,none,none,none,none] [] follows (by kernel_rfl) (d_ FT 3 rfl (dq_ rfl rfl (Jq_indexX ratE x (d.idx) rfl rfl rfl un27 ty34 hy) (dq_ rfl rfl (Jq_load_ref_agg rfl rfl ty34 rfl) (d_ FT 2 rfl (DK_c rfl rfl (Jd_call rfl fn22 rfl (rqcmp (qOf (y)) (y) (qOf_q _) (Br.use (by omega)) (qOf (d.pt)) (d.pt) (qOf_q _) (Br.use (by omega)))) ?_)))))
  refine dq_ rfl rfl (Jq_geq rfl rfl rfl (b:=_) (rfl)) (d_ FT 1 rfl (DK_nil (At_then ?_)))
  exact Tc_ret1 hq_ rfl rfl (by unfold holdB;rw [if_pos hk3,hy];rfl)
 ·refine t_q rfl (Jq_eql rfl rfl rfl (b:=false) (eF (by omega))) (a_ FT 1 rfl (c_n (Tc_f rfl (Tc_seq ?_))))
  refine Tc_norm [(2,some (D.v (V.one (El.row ratE x)))),(3,some (D.ptr 0 0)),(4,some (D.ptr 1 0)),(22,some (D.val (.int .i64 ((d.kind:Nat):Int))))] [hb_ 38 (quL q),hb_ 73 [Leaf.val (.int .i64 ((d.kind:Nat):Int)),Leaf.val (.int .i64 ((d.idx:Nat):Int)),Leaf.val (.bool (cneg d.pt)),natL (limbs (cnum d.pt)),natL (limbs (cden d.pt))]] ⟨rfl,rfl,rfl,rfl,trivial⟩ rfl ?_
  refine Tc_region ?_
  by_cases hk4:d.kind = 4
  ·refine t_q rfl (Jq_eql rfl rfl rfl (b:=true) (eT (by omega))) (a_ FT 1 rfl (c_n (Tc_t rfl (Tc_seq ?_))))
   obtain ⟨y,hy⟩:∃ y,x[d.idx]? = some y:=⟨_,List.getElem?_eq_getElem (by omega)⟩
   haveI hyb:=hx.bd y (List.mem_of_getElem? hy)
   refine Tc_drawK 0 [none,none,none,none,none,none,none,none,none,none] [] follows (by kernel_rfl) (d_ FT 3 rfl (dq_ rfl rfl (Jq_indexX ratE x (d.idx) rfl rfl rfl un27 ty34 hy) (dq_ rfl rfl (Jq_load_ref_agg rfl rfl ty34 rfl) (d_ FT 2 rfl (DK_c rfl rfl (Jd_call rfl fn22 rfl (rqcmp (qOf (y)) (y) (qOf_q _) (Br.use (by omega)) (qOf (d.pt)) (d.pt) (qOf_q _) (Br.use (by omega)))) ?_)))))
   refine dq_ rfl rfl (Jq_leq rfl rfl rfl (b:=_) (rfl)) (d_ FT 1 rfl (DK_nil (At_then ?_)))
   exact Tc_ret1 hq_ rfl rfl (by unfold holdB;rw [if_neg hk3,if_pos hk4,hy];rfl)
  ·refine t_q rfl (Jq_eql rfl rfl rfl (b:=false) (eF (by omega))) (a_ FT 1 rfl (c_n (Tc_f rfl (Tc_skipA (At_block (At_then (Tc_seq ?_)))))))
   obtain ⟨p,hp⟩:∃ p,q.g.us[d.idx]? = some p:=⟨_,List.getElem?_eq_getElem (by omega)⟩
   have hpp:(preM q.g x)[d.idx]? = some (evM p (actM q.g x)):=by unfold preM;rw [List.getElem?_map,hp];rfl
   have hl:x.length = q.g.inp:=by omega
   have hal:(actM q.g x).length = q.g.inp + q.g.us.length:=by unfold actM;rw [actN_len _ (Nat.le_refl _),hl]
   have hvb:VB 500000 (actM q.g x):=(actN_br hg hx.bd hl _ (Nat.le_refl _)).mono (KV_le (by omega))
   haveI hev:=evM_br ((hg.us _ p hp).mono (Nat.le_refl 3) (show q.g.inp + d.idx≤q.g.inp + q.g.us.length by omega)) hvb (by omega) (by omega)
   refine Tc_norm [(2,some (D.v (V.one (El.row ratE x)))),(3,some (D.ptr 0 0)),(4,some (D.ptr 1 0))] [hb_ 38 (quL q),hb_ 73 [Leaf.val (.int .i64 ((d.kind:Nat):Int)),Leaf.val (.int .i64 ((d.idx:Nat):Int)),Leaf.val (.bool (cneg d.pt)),natL (limbs (cnum d.pt)),natL (limbs (cden d.pt))]] ⟨rfl,rfl,rfl,trivial⟩ rfl (Tc_region (a_ FT 3 rfl ?_))
   refine t_f rfl (Je_call rfl fn21 rfl (pre_r q.g hg x hx.bd hl)) (a_ FT 5 rfl (cns (Tc_seq (Tc_free 0 ?_))))
   refine Tc_norm [(4,some (D.ptr 1 0)),(7,some (D.v (V.one (El.row ratE (preM q.g x)))))] [none,hb_ 73 [Leaf.val (.int .i64 ((d.kind:Nat):Int)),Leaf.val (.int .i64 ((d.idx:Nat):Int)),Leaf.val (.bool (cneg d.pt)),natL (limbs (cnum d.pt)),natL (limbs (cden d.pt))]] ⟨rfl,rfl,trivial⟩ rfl (Tc_region (a_ FT 2 rfl ?_))
   by_cases hk1:d.kind = 1
   ·refine t_q rfl (Jq_eql rfl rfl rfl (b:=true) (eT (by omega))) (c_n (Tc_t rfl (c_a (a_ FT 3 rfl (t_q rfl (Jq_indexX ratE (preM q.g x) (d.idx) rfl rfl rfl un27 ty34 hpp) (t_q rfl (Jq_load_ref_agg rfl rfl ty34 rfl) (t_f rfl (Je_call rfl fn63 rfl (rqsign (qOf ((evM p (actM q.g x)))) ((evM p (actM q.g x))) (qOf_q _) (Br.use (by omega)))) (t_q rfl (Jq_geq rfl rfl rfl (b:=_) (rfl)) ?_))))))))
    refine a_ FT 1 rfl (c_n ?_)
    exact Tc_ret1 hq_ rfl rfl (by unfold holdB;rw [if_neg hk3,if_neg hk4,if_pos hk1,hpp];rfl)
   ·refine t_q rfl (Jq_eql rfl rfl rfl (b:=false) (eF (by omega))) (c_n (Tc_f rfl (c_b (Tc_seq ?_))))
    refine Tc_norm [(4,some (D.ptr 1 0)),(7,some (D.v (V.one (El.row ratE (preM q.g x)))))] [none,hb_ 73 [Leaf.val (.int .i64 ((d.kind:Nat):Int)),Leaf.val (.int .i64 ((d.idx:Nat):Int)),Leaf.val (.bool (cneg d.pt)),natL (limbs (cnum d.pt)),natL (limbs (cden d.pt))]] ⟨rfl,rfl,trivial⟩ rfl (Tc_region (a_ FT 3 rfl ?_))
    refine t_q rfl (Jq_indexX ratE (preM q.g x) (d.idx) rfl rfl rfl un27 ty34 hpp) (t_q rfl (Jq_load_ref_agg rfl rfl ty34 rfl) (t_f rfl (Je_call rfl fn63 rfl (rqsign (qOf ((evM p (actM q.g x)))) ((evM p (actM q.g x))) (qOf_q _) (Br.use (by omega)))) (t_q rfl (Jq_leq rfl rfl rfl (b:=_) (rfl)) (a_ FT 1 rfl (c_n ?_)))))
    exact Tc_ret1 hq_ rfl rfl (by unfold holdB;rw [if_neg hk3,if_neg hk4,if_neg hk1,hpp];rfl)
set_option maxRecDepth 10000 in
theorem mem_r (s:Sc) (hs:SOk s) (x:List Rat) (hx:InB s.q.r x):Ctr Tryz.prog 20 [scV s,V.one (El.row ratE x)] (R.one (V.one (Leaf.val (.bool (memB s x))))):=by
 refine Ctr.of_body Tryz.func20 rfl Tryz.ntmps20 (Nat.le_of_ble_eq_true rfl) (fun w0 A0=>?_)
 have hq:=hs.q;have hd:=hs.d;have hpl:=hs.pl;have hB:=hs.B;have hll:=hs.ll
 have hg:=hq.g;have hr:=hq.r;have hlo:=hr.lo;have hhi:=hr.hi
 have g1:=hg.i1;have g2:=hg.i3;have g3:=hg.u4;have g4:=hg.o1;have g5:=hg.o3
 have hxl:=hx.len;have hrl:=hr.lo
 refine c_a (t_f rfl (Je_box (n:=0) rfl rfl rfl) (a_ FT 1 rfl (cns (c_a (a_ FT 2 rfl (t_f rfl (Je_call rfl fn14 rfl (qvalid_r s.q hq)) (a_ FT 3 rfl (t_g rfl rfl rfl rfl (Jq_len rfl rfl un27) (a_ FT 4 rfl ?_)))))))))
 refine t_g rfl rfl rfl rfl (Jq_neq rfl rfl rfl (b:=false) (nF (by omega))) (a_ FT 6 rfl (Tl_e (JO_eg rfl rfl rfl rfl (Je_call rfl fn60 rfl (cont_r s.q.r hr (by omega) (by omega) x hx))) rfl rfl (a_ FT 2 rfl (c_n ?_))))
 refine Tc_cond rfl (fun hct=>?_) (fun hct=>?_)
 ·refine c_a (a_ FT 1 rfl (c_n ?_))
  exact Tc_ret1 hq_ rfl rfl (by unfold memB;rw [show contB s.q.r x = false by simpa using hct];rfl)
 ·refine c_b (Tc_seq (c_a (a_ FT 1 rfl (c_n (Tc_block ?_)))))
  refine Tc_loopR (fun m Γ H=>∃ (i:Nat),s.path.length - i = m∧Γ = [(1,some (D.v (V.one (El.row ratE x)))),(2,some (D.ptr 0 0)),(5,some (D.val (.int .i64 ((i:Nat):Int))))]∧H = [hb_ 42 (scL s)]∧i≤s.path.length∧(s.path.take i).all (fun d=>holdB s.q d x) = true) ⟨0,rfl,rfl,rfl,Nat.zero_le _,rfl⟩ ⟨rfl,rfl,rfl,trivial⟩ ?_
  rintro m Γ H ⟨i,rfl,rfl,rfl,hi0,hall⟩
  refine Tc_seq (c_a (a_ FT 3 rfl (t_q rfl (Jq_len rfl rfl un39) ?_)))
  by_cases hi:i < s.path.length
  ·refine t_q rfl (Jq_lss rfl rfl rfl (b:=true) (dT (by omega))) (c_n (Tc_t rfl (c_b (Tc_seq (Tc_block (Tc_seq ?_))))))
   obtain ⟨d,hd_⟩:∃ d,s.path[i]? = some d:=⟨_,List.getElem?_eq_getElem hi⟩
   have hdo:=hs.d d (List.mem_of_getElem? hd_)
   refine Tc_drawK 0 [none,none,none,none,none,none,none,none,none,none] [] follows (by kernel_rfl) (d_ FT 5 rfl (dq_ rfl rfl (Jq_indexX dcE s.path (i) rfl rfl rfl un39 ty73 hd_) (dq_ rfl rfl (Jq_load_ref_agg rfl rfl ty73 rfl) (d_ FT 1 rfl (DK_c rfl rfl (Jd_call rfl fn61 rfl (hold_r s.q hq d hdo x hx)) (d_ FT 1 rfl (DK_nil (At_then ?_))))))))
   refine Tc_cond rfl (fun hc43=>?_) (fun hc43=>?_)
   ·refine c_a (a_ FT 1 rfl (c_n ?_))
    exact Tc_ret1 hq_ rfl rfl (by unfold memB;rw [all_no hd_ (by simpa using hc43),Bool.and_false])
   ·refine Tc_skipA (At_block (At_then (Tc_region (a_ FT 1 rfl (t_q rfl (Jq_add rfl rfl rfl (r:=((i + 1:Nat):Int)) (w64 (by omega) (by omega) (by omega))) (a_ FT 1 rfl (Tl_end ?_)))))))
    exact At_next (m':=s.path.length - (i + 1)) (by omega) ⟨i + 1,rfl,rfl,rfl,hi,all_take hd_ hall (by simpa using hc43)⟩ ⟨rfl,rfl,rfl,trivial⟩
  ·refine t_q rfl (Jq_lss rfl rfl rfl (b:=false) (dF (by omega))) (c_n (Tc_f rfl (Tc_exitA (At_then_exit (At_then_exit (At_block_exit (At_then (Tc_seq ?_))))))))
   have hie:i = s.path.length:=by omega
   rw [hie,List.take_length] at hall
   refine Tc_region (a_ FT 1 rfl (c_n ?_))
   exact Tc_ret1 hq_ rfl rfl (by unfold memB;rw [hall,show contB s.q.r x = true by simpa using hct];rfl)
set_option maxRecDepth 10000 in
theorem inside_r (r:Rg) {n:Nat} (hr:ROk n r) (hn1:1≤n) (hn3:n≤3) (l:List Nat) (hb:∀ x∈l,x < 256) (hll:l.length≤1000):Ctr Tryz.prog 19 [rgV r,V.one (El.row u8E l)] (R.one (V.one (El.row ratE (insN r l r.lo.length)))):=by
 refine Ctr.of_body Tryz.func19 rfl Tryz.ntmps19 (Nat.le_of_ble_eq_true rfl) (fun w0 A0=>?_)
 have h1:=hr.lo;have h2:=hr.hi;have h3:=hr.r2
 refine c_a (t_f rfl (Je_box (n:=0) rfl rfl rfl) (t_q rfl (Jq_assign_nil rfl) (cna (t_q rfl (Jq_assign rfl (rfl)) (cns (Tc_seq (Tc_growS 5 34 3 rfl rfl (Tc_region (a_ FT 1 rfl ?_)))))))))
 refine c_n (Tc_block ?_)
 refine Tc_loopR (fun m Γ H=>∃ (i:Nat) (n2:Nat) (out:List Rat),r.lo.length - i = m∧Γ = [(1,some (D.v (V.one (El.row u8E l)))),(2,some (D.ptr 0 0)),(5,some (D.v (V.one (Leaf.own 1 n2)))),(6,some (D.val (.int .i64 ((i:Nat):Int))))]∧H = [hb_ 29 [El.row ratE r.lo,El.row ratE r.hi,El.row afE r.rows],hgr 34 3 ratE out n2]∧i≤r.lo.length∧out = insN r l i) ⟨0,0,[],rfl,rfl,rfl,Nat.zero_le _,rfl⟩ ⟨rfl,rfl,rfl,rfl,trivial⟩ ?_
 rintro m Γ H ⟨i,n2,out,rfl,rfl,rfl,hi0,hout⟩
 refine Tc_seq (c_a (a_ FT 3 rfl (t_q rfl (Jq_len rfl rfl un27) ?_)))
 by_cases hi:i < r.lo.length
 ·refine t_q rfl (Jq_lss rfl rfl rfl (b:=true) (dT (by omega))) (c_n (Tc_t rfl (c_b (Tc_seq (Tc_block (Tc_seq ?_))))))
  obtain ⟨a,ha⟩:∃ a,r.lo[i]? = some a:=⟨_,List.getElem?_eq_getElem hi⟩
  obtain ⟨b,hb2⟩:∃ b,r.hi[i]? = some b:=⟨_,List.getElem?_eq_getElem (by omega)⟩
  haveI hb1:=(hr.bd i a b ha hb2).1.br
  haveI hb3:=(hr.bd i a b ha hb2).2.1.br
  have hol:out.length≤7:=by rw [hout,insN_len];omega
  have hk9:((l[i]?).getD 0 % 9)≤8:=by omega
  haveI h8:=(eighth_hb hk9).1.br
  refine Tc_norm [(1,some (D.v (V.one (El.row u8E l)))),(2,some (D.ptr 0 0)),(5,some (D.v (V.one (Leaf.own 1 n2)))),(6,some (D.val (.int .i64 ((i:Nat):Int))))] [hb_ 29 [El.row ratE r.lo,El.row ratE r.hi,El.row afE r.rows],hgr 34 3 ratE out n2] ⟨rfl,rfl,rfl,rfl,trivial⟩ rfl (Tc_region (a_ FT 1 rfl (cns (c_a (a_ FT 2 rfl (t_q rfl (Jq_len rfl rfl un22) ?_))))))
  by_cases hil:i < l.length
  ·refine t_q rfl (Jq_lss rfl rfl rfl (b:=true) (dT (by omega))) (c_n (Tc_t rfl ?_))
   obtain ⟨z,hz⟩:∃ z,l[i]? = some z:=⟨_,List.getElem?_eq_getElem hil⟩
   have hzb:=hb z (List.mem_of_getElem? hz)
   refine Tc_region (a_ FT 2 rfl (t_q rfl (Jq_indexX u8E l (i) rfl rfl rfl un22 ty5 hz) (t_q rfl (Jq_load_ref rfl rfl ty5) (t_q rfl (Jq_rem rfl rfl rfl (by decide) (r:=((z % 9:Nat):Int)) (tmodN _ _)) (t_q rfl (Jq_convert rfl rfl un3 us5 (r:=((z % 9:Nat):Int)) (w64 (by omega) (by omega) (by omega))) (a_ FT 1 rfl (cns ?_)))))))
   refine Tc_norm [(1,some (D.v (V.one (El.row u8E l)))),(2,some (D.ptr 0 0)),(5,some (D.v (V.one (Leaf.own 1 n2)))),(6,some (D.val (.int .i64 ((i:Nat):Int)))),(7,some (D.val (.int .i64 ((z % 9:Nat):Int))))] [hb_ 29 [El.row ratE r.lo,El.row ratE r.hi,El.row afE r.rows],hgr 34 3 ratE out n2] ⟨rfl,rfl,rfl,rfl,rfl,trivial⟩ rfl (Tc_region (a_ FT 1 rfl ?_))
   refine Tl_eq (D.val (.int .i64 ((((l[i]?).getD 0 % 9):Nat):Int))) (by first | (simp only [hz,Option.getD_some];done) | (rw [List.getElem?_eq_none (by omega)];rfl)) ?_
   refine t_f rfl (Je_call rfl fn56 rfl (rqfrac ((((l[i]?).getD 0 % 9):Nat):Int) 8 (by omega) (by omega) (by decide) (by decide) (by decide))) (a_ FT 3 rfl (t_f rfl (Je_alloc (n:=2) rfl tz34 rfl) (a_ FT 2 rfl (c_n ?_))))
   refine Tc_norm [(1,some (D.v (V.one (El.row u8E l)))),(2,some (D.ptr 0 0)),(5,some (D.v (V.one (Leaf.own 1 n2)))),(6,some (D.val (.int .i64 ((i:Nat):Int)))),(8,some (D.ptr 2 0))] [hb_ 29 [El.row ratE r.lo,El.row ratE r.hi,El.row afE r.rows],hgr 34 3 ratE out n2,hb_ 34 (qL (((((((l[i]?).getD 0 % 9):Nat):Int):Int):Rat) / ((8:Int):Rat)))] ⟨rfl,rfl,rfl,rfl,rfl,trivial⟩ rfl ?_
   refine Tc_drawK 0 [none,none,none,none,none,none,none,none,none,none,none,none,none,none,none,none,none,none,none,none,none,some 1,none] [1] follows (by kernel_rfl) (d_ FT 4 rfl (dq_ rfl rfl (Jq_indexX ratE r.lo (i) rfl rfl rfl un27 ty34 ha) (dq_ rfl rfl (Jq_load_ref_agg rfl rfl ty34 rfl) (d_ FT 4 rfl ?_))))
   refine dq_ rfl rfl (Jq_indexX ratE r.hi (i) rfl rfl rfl un27 ty34 hb2) (dq_ rfl rfl (Jq_load_ref_agg rfl rfl ty34 rfl) (d_ FT 3 rfl (dq_ rfl rfl (Jq_indexX ratE r.lo (i) rfl rfl rfl un27 ty34 ha) (dq_ rfl rfl (Jq_load_ref_agg rfl rfl ty34 rfl) (DK_c rfl rfl (Jd_call rfl fn59 rfl (rqsub (qOf (b)) (b) (qOf_q _) (Br.use (by omega)) (qOf (a)) (a) (qOf_q _) (Br.use (by omega)))) ?_)))))
   refine DK_c rfl rfl (Jd_call rfl fn58 rfl (rqmul (qOf (((((((l[i]?).getD 0 % 9):Nat):Int):Int):Rat) / ((8:Int):Rat))) (((((((l[i]?).getD 0 % 9):Nat):Int):Int):Rat) / ((8:Int):Rat)) (qOf_q _) (Br.use (by omega)) (qOf ((b) - (a))) ((b) - (a)) (qOf_q _) (Br.use (by omega)))) ?_
   refine DK_c rfl rfl (Jd_call rfl fn57 rfl (rqadd (qOf (a)) (a) (qOf_q _) (Br.use (by omega)) (qOf ((((((((l[i]?).getD 0 % 9):Nat):Int):Int):Rat) / ((8:Int):Rat)) * ((b) - (a)))) ((((((((l[i]?).getD 0 % 9):Nat):Int):Int):Rat) / ((8:Int):Rat)) * ((b) - (a))) (qOf_q _) (Br.use (by omega)))) ?_
   refine DK_c rfl rfl (fun _=>Je_buildSlice rfl un27 ty34 tz34 rfl (by decide) (by decide) rfl (by decide) rfl) ?_
   obtain ⟨ti4,hi4,hz4,hs4,hb4⟩:=in34
   refine DK_s 1 rfl rfl rfl (Jd_appendR ratE out ((a) + ((((((((l[i]?).getD 0 % 9):Nat):Int):Int):Rat) / ((8:Int):Rat)) * ((b) - (a)))) rfl rfl rfl rfl (by decide) un27 un27 hi4 hz4 hs4 rfl (by first | (simp only [maxLen];omega) | (simp only [maxLen,List.length_append,List.length_take,List.length_drop,List.length_cons,List.length_nil];omega)) (by rw [hb4];first | omega | (simp only [List.length_append,List.length_take,List.length_drop,List.length_cons,List.length_nil];omega))) ?_
   refine d_ FT 1 rfl (DK_nil (At_block (At_then (Tc_free 2 ?_))))
   refine Tc_norm [(1,some (D.v (V.one (El.row u8E l)))),(2,some (D.ptr 0 0)),(5,some (D.v (V.one (Leaf.own 1 (n2 + 1))))),(6,some (D.val (.int .i64 ((i:Nat):Int))))] [hb_ 29 [El.row ratE r.lo,El.row ratE r.hi,El.row afE r.rows],hgr 34 3 ratE (out ++ [(a) + ((((((((l[i]?).getD 0 % 9):Nat):Int):Int):Rat) / ((8:Int):Rat)) * ((b) - (a)))]) (n2 + 1),none] ⟨rfl,rfl,rfl,rfl,trivial⟩ rfl ?_
   refine Tc_region (a_ FT 1 rfl (t_q rfl (Jq_add rfl rfl rfl (r:=((i + 1:Nat):Int)) (w64 (by omega) (by omega) (by omega))) (a_ FT 1 rfl (Tl_end (trim_ 2 rfl ?_)))))
   exact At_next (m':=r.lo.length - (i + 1)) (by omega) ⟨i + 1,_,_,rfl,rfl,rfl,hi,by rw [hout,insN_succ];unfold insQ;rw [ha,hb2];rfl⟩ ⟨rfl,rfl,rfl,rfl,trivial⟩
  ·refine t_q rfl (Jq_lss rfl rfl rfl (b:=false) (dF (by omega))) (c_n (Tc_f rfl (c_b (c_a (a_ FT 1 rfl ?_)))))
   refine Tl_eq (D.val (.int .i64 ((((l[i]?).getD 0 % 9):Nat):Int))) (by first | (simp only [hz,Option.getD_some];done) | (rw [List.getElem?_eq_none (by omega)];rfl)) ?_
   refine t_f rfl (Je_call rfl fn56 rfl (rqfrac ((((l[i]?).getD 0 % 9):Nat):Int) 8 (by omega) (by omega) (by decide) (by decide) (by decide))) (a_ FT 3 rfl (t_f rfl (Je_alloc (n:=2) rfl tz34 rfl) (a_ FT 2 rfl (c_n ?_))))
   refine Tc_norm [(1,some (D.v (V.one (El.row u8E l)))),(2,some (D.ptr 0 0)),(5,some (D.v (V.one (Leaf.own 1 n2)))),(6,some (D.val (.int .i64 ((i:Nat):Int)))),(8,some (D.ptr 2 0))] [hb_ 29 [El.row ratE r.lo,El.row ratE r.hi,El.row afE r.rows],hgr 34 3 ratE out n2,hb_ 34 (qL (((((((l[i]?).getD 0 % 9):Nat):Int):Int):Rat) / ((8:Int):Rat)))] ⟨rfl,rfl,rfl,rfl,rfl,trivial⟩ rfl ?_
   refine Tc_drawK 0 [none,none,none,none,none,none,none,none,none,none,none,none,none,none,none,none,none,none,none,none,none,some 1,none] [1] follows (by kernel_rfl) (d_ FT 4 rfl (dq_ rfl rfl (Jq_indexX ratE r.lo (i) rfl rfl rfl un27 ty34 ha) (dq_ rfl rfl (Jq_load_ref_agg rfl rfl ty34 rfl) (d_ FT 4 rfl ?_))))
   refine dq_ rfl rfl (Jq_indexX ratE r.hi (i) rfl rfl rfl un27 ty34 hb2) (dq_ rfl rfl (Jq_load_ref_agg rfl rfl ty34 rfl) (d_ FT 3 rfl (dq_ rfl rfl (Jq_indexX ratE r.lo (i) rfl rfl rfl un27 ty34 ha) (dq_ rfl rfl (Jq_load_ref_agg rfl rfl ty34 rfl) (DK_c rfl rfl (Jd_call rfl fn59 rfl (rqsub (qOf (b)) (b) (qOf_q _) (Br.use (by omega)) (qOf (a)) (a) (qOf_q _) (Br.use (by omega)))) ?_)))))
   refine DK_c rfl rfl (Jd_call rfl fn58 rfl (rqmul (qOf (((((((l[i]?).getD 0 % 9):Nat):Int):Int):Rat) / ((8:Int):Rat))) (((((((l[i]?).getD 0 % 9):Nat):Int):Int):Rat) / ((8:Int):Rat)) (qOf_q _) (Br.use (by omega)) (qOf ((b) - (a))) ((b) - (a)) (qOf_q _) (Br.use (by omega)))) ?_
   refine DK_c rfl rfl (Jd_call rfl fn57 rfl (rqadd (qOf (a)) (a) (qOf_q _) (Br.use (by omega)) (qOf ((((((((l[i]?).getD 0 % 9):Nat):Int):Int):Rat) / ((8:Int):Rat)) * ((b) - (a)))) ((((((((l[i]?).getD 0 % 9):Nat):Int):Int):Rat) / ((8:Int):Rat)) * ((b) - (a))) (qOf_q _) (Br.use (by omega)))) ?_
   refine DK_c rfl rfl (fun _=>Je_buildSlice rfl un27 ty34 tz34 rfl (by decide) (by decide) rfl (by decide) rfl) ?_
   obtain ⟨ti5,hi5,hz5,hs5,hb5⟩:=in34
   refine DK_s 1 rfl rfl rfl (Jd_appendR ratE out ((a) + ((((((((l[i]?).getD 0 % 9):Nat):Int):Int):Rat) / ((8:Int):Rat)) * ((b) - (a)))) rfl rfl rfl rfl (by decide) un27 un27 hi5 hz5 hs5 rfl (by first | (simp only [maxLen];omega) | (simp only [maxLen,List.length_append,List.length_take,List.length_drop,List.length_cons,List.length_nil];omega)) (by rw [hb5];first | omega | (simp only [List.length_append,List.length_take,List.length_drop,List.length_cons,List.length_nil];omega))) ?_
   refine d_ FT 1 rfl (DK_nil (At_block (At_then (Tc_free 2 ?_))))
   refine Tc_norm [(1,some (D.v (V.one (El.row u8E l)))),(2,some (D.ptr 0 0)),(5,some (D.v (V.one (Leaf.own 1 (n2 + 1))))),(6,some (D.val (.int .i64 ((i:Nat):Int))))] [hb_ 29 [El.row ratE r.lo,El.row ratE r.hi,El.row afE r.rows],hgr 34 3 ratE (out ++ [(a) + ((((((((l[i]?).getD 0 % 9):Nat):Int):Int):Rat) / ((8:Int):Rat)) * ((b) - (a)))]) (n2 + 1),none] ⟨rfl,rfl,rfl,rfl,trivial⟩ rfl ?_
   refine Tc_region (a_ FT 1 rfl (t_q rfl (Jq_add rfl rfl rfl (r:=((i + 1:Nat):Int)) (w64 (by omega) (by omega) (by omega))) (a_ FT 1 rfl (Tl_end (trim_ 2 rfl ?_)))))
   exact At_next (m':=r.lo.length - (i + 1)) (by omega) ⟨i + 1,_,_,rfl,rfl,rfl,hi,by rw [hout,insN_succ];unfold insQ;rw [ha,hb2];rfl⟩ ⟨rfl,rfl,rfl,rfl,trivial⟩
 ·refine t_q rfl (Jq_lss rfl rfl rfl (b:=false) (dF (by omega))) (c_n (Tc_f rfl (Tc_exitA (At_then_exit (At_then_exit (At_block_exit (At_then (Tc_seq ?_))))))))
  have hie:i = r.lo.length:=by omega
  rw [hie] at hout
  refine Tc_region (a_ FT 2 rfl (c_n (Tc_viewS 4 (x':=V.one (El.row ratE out)) rfl (RowAt.ofE ratE out rfl (by decide)) (.inr ⟨rfl,rfl⟩) ?_)))
  exact Tc_ret1 hq_ rfl rfl (by rw [hout])
end Go.Proofs.YtjdbopkbfkgpdaaGreatDoor
set_option linter.unusedSimpArgs false
set_option linter.unusedVariables false
namespace Go.Proofs.YtjdbopkbfkgpdaaGreatDoor
open Go Go.RowKit Rc
set_option maxRecDepth 10000 in
set_option maxHeartbeats 2000000 in
theorem law_member (l:List Nat) (hb:∀ x∈l,x < 256) (l2:List Nat) (hb2:∀ x∈l2,x < 256) (n:Nat) (hn:n < 256):Ctr Tryz.prog 6 [V.one (El.row u8E l),V.one (El.row u8E l2),V.one (Leaf.val (.int .u8 ((n:Nat):Int)))] (R.one (V.one (Leaf.val (.bool true)))):=by
 refine Ctr.of_body Tryz.func6 rfl Tryz.ntmps6 (Nat.le_of_ble_eq_true rfl) (fun w0 A0=>?_)
 refine c_a (a_ FT 1 rfl (cns (c_a (t_f rfl (Je_call rfl fn10 rfl (awake_t)) (a_ FT 1 rfl (c_n (Tc_f rfl (c_b (Tc_seq ?_)))))))))
 refine c_a (a_ FT 1 rfl (t_q rfl (Jq_len rfl rfl un22) ?_))
 by_cases hl3:300 < l.length
 ·refine t_q rfl (Jq_gtr rfl rfl rfl (b:=true) (dT (by omega))) (a_ FT 5 rfl (c_n (Tc_t rfl (c_a (a_ FT 1 rfl (c_n ?_))))))
  exact Tc_ret1 hq_ rfl rfl rfl
 ·refine t_q rfl (Jq_gtr rfl rfl rfl (b:=false) (dF (by omega))) (a_ FT 2 rfl (t_g rfl rfl rfl rfl (Jq_len rfl rfl un22) ?_))
  by_cases hl40:40 < l2.length
  ·refine t_g rfl rfl rfl rfl (Jq_gtr rfl rfl rfl (b:=true) (dT (by omega))) (a_ FT 1 rfl (c_n (Tc_t rfl (c_a (a_ FT 1 rfl (c_n ?_))))))
   exact Tc_ret1 hq_ rfl rfl rfl
  ·refine t_g rfl rfl rfl rfl (Jq_gtr rfl rfl rfl (b:=false) (dF (by omega))) (a_ FT 1 rfl (c_n (Tc_f rfl (c_b (Tc_seq ?_)))))
   have hl:l.length≤1000000:=by omega
   obtain ⟨hs,h8⟩:=extM_ok l
   have hq:=hs.q
   have hg:=hq.g;have hr:=hq.r;have hrl:=hr.lo
   have h1:=hg.i1;have h2:=hg.i3;have h3:=hg.u4;have h4:=hg.o1;have h5:=hg.o3
   have h0:(0:Int)≤((n % 64:Nat):Int):=by omega
   have hb4:((n % 64:Nat):Int)≤4096:=by omega
   have hx:InB (extM l).q.r (insN (extM l).q.r l2 (extM l).q.r.lo.length):=insN_in hr l2
   have hxl:(insN (extM l).q.r l2 (extM l).q.r.lo.length).length = (extM l).q.g.inp:=by rw [insN_len];exact hrl
   have hH:Holds (extM l).q.g (insN (extM l).q.r l2 (extM l).q.r.lo.length) (runM absD (extM l) ((n % 64:Nat):Int)).lems:=runM_holds hs (by omega) hx (extM_holds l hx) h0 hb4
   have hR:=(runM_ok absD_ok hs (by omega) ((n % 64:Nat):Int)).1
   have hRl:(runM absD (extM l) ((n % 64:Nat):Int)).lems.length≤100:=hR.ll
   refine Tc_norm [(0,some (D.v (V.one (El.row u8E l)))),(1,some (D.v (V.one (El.row u8E l2)))),(2,some (D.val (.int .u8 ((n:Nat):Int))))] [] ⟨rfl,rfl,rfl,trivial⟩ rfl (Tc_region (a_ FT 1 rfl (t_f rfl (Je_call rfl fn11 rfl (extend_r l hl hb)) (t_f rfl (Je_alloc (n:=0) rfl tz42 rfl) (a_ FT 1 rfl (cna (a_ FT 4 rfl ?_)))))))
   refine t_f rfl (Je_call rfl fn19 rfl (inside_r (extM l).q.r hr (by omega) (by omega) l2 hb2 (by omega))) (a_ FT 1 rfl (cns (Tc_norm [(2,some (D.val (.int .u8 ((n:Nat):Int)))),(7,some (D.ptr 0 0)),(8,some (D.v (V.one (El.row ratE (insN (extM l).q.r l2 (extM l).q.r.lo.length)))))] [hb_ 42 (scL (extM l))] ⟨rfl,rfl,rfl,trivial⟩ rfl (Tc_region ?_))))
   refine t_q rfl (Jq_build rfl tz48 rfl pl48 rfl) (t_q rfl (Jq_iface (vs:=[.string ⟨#[]⟩,.int .i64 0]) rfl rfl (by kernel_rfl)) (a_ FT 2 rfl (t_q rfl (Jq_rem rfl rfl rfl (by decide) (r:=((n % 64:Nat):Int)) (tmodN _ _)) (t_q rfl (Jq_convert rfl rfl un3 us5 (r:=((n % 64:Nat):Int)) (w64 (by omega) (by omega) (by omega))) ?_))))
   refine t_f rfl (Je_call rfl fn12 rfl (run_simple (extM l) hs (by omega) ((n % 64:Nat):Int) h0 hb4)) (a_ FT 3 rfl (t_f rfl (Je_alloc (n:=1) rfl tz42 rfl) (a_ FT 2 rfl (cns (Tc_seq ?_)))))
   refine Tc_norm [(7,some (D.ptr 0 0)),(8,some (D.v (V.one (El.row ratE (insN (extM l).q.r l2 (extM l).q.r.lo.length))))),(9,some (D.ptr 1 0)),(10,some (D.val (.int .i64 0)))] [hb_ 42 (scL (extM l)),hb_ 42 (scL (runM absD (extM l) ((n % 64:Nat):Int)))] ⟨rfl,rfl,rfl,rfl,trivial⟩ rfl (Tc_region (a_ FT 1 rfl (t_q rfl (Jq_neq rfl rfl rfl (b:=false) (rfl)) (c_n (Tc_f rfl ?_)))))
   refine c_b (Tc_seq (c_a (a_ FT 2 rfl (t_f rfl (Je_call rfl fn20 rfl (mem_r (extM l) hs (insN (extM l).q.r l2 (extM l).q.r.lo.length) hx)) (a_ FT 1 rfl (c_n ?_))))))
   refine Tc_cond rfl (fun hc48=>?_) (fun hc48=>?_)
   ·refine c_a (a_ FT 1 rfl (c_n ?_))
    exact Tc_ret1 hq_ rfl rfl rfl
   ·refine c_b (c_a (a_ FT 4 rfl (t_f rfl (Je_call rfl fn21 rfl (pre_r (extM l).q.g hg (insN (extM l).q.r l2 (extM l).q.r.lo.length) hx.bd hxl)) (a_ FT 5 rfl (cns (Tc_seq (Tc_free 0 ?_)))))))
    refine Tc_norm [(9,some (D.ptr 1 0)),(11,some (D.v (V.one (El.row ratE (preM (extM l).q.g (insN (extM l).q.r l2 (extM l).q.r.lo.length))))))] [none,hb_ 42 (scL (runM absD (extM l) ((n % 64:Nat):Int)))] ⟨rfl,rfl,trivial⟩ rfl (Tc_region (a_ FT 2 rfl (t_q rfl (Jq_len rfl rfl un40) (a_ FT 1 rfl (c_n (Tc_block (Tc_free 1 ?_)))))))
    refine Tc_loopR (fun m Γ H=>∃ (i:Nat),(runM absD (extM l) ((n % 64:Nat):Int)).lems.length - i = m∧Γ = [(11,some (D.v (V.one (El.row ratE (preM (extM l).q.g (insN (extM l).q.r l2 (extM l).q.r.lo.length)))))),(58,some (D.v (V.one (El.row lmE ((runM absD (extM l) ((n % 64:Nat):Int)).lems))))),(59,some (D.val (.int .i64 ((((runM absD (extM l) ((n % 64:Nat):Int)).lems).length:Nat):Int)))),(60,some (D.val (.int .i64 ((i:Nat):Int))))]∧H = [none,none]∧i≤(runM absD (extM l) ((n % 64:Nat):Int)).lems.length) ⟨0,rfl,rfl,rfl,Nat.zero_le _⟩ ⟨rfl,rfl,rfl,rfl,trivial⟩ ?_
    rintro m Γ H ⟨i,rfl,rfl,rfl,hi0⟩
    refine c_a ?_
    by_cases hi:i < (runM absD (extM l) ((n % 64:Nat):Int)).lems.length
    ·refine t_q rfl (Jq_lss rfl rfl rfl (b:=true) (dT (by omega))) (cns (Tc_t rfl (c_b (Tc_seq (Tc_block (Tc_seq ?_))))))
     obtain ⟨m,hm⟩:∃ m,(runM absD (extM l) ((n % 64:Nat):Int)).lems[i]? = some m:=⟨_,List.getElem?_eq_getElem hi⟩
     have hmm:=List.mem_of_getElem? hm
     have hL:=hR.l m hmm
     have hu0:=hL.u0
     have hu1:m.unit.toNat < (extM l).q.g.us.length:=hL.u
     haveI hmB:=hR.B m hmm
     obtain ⟨p,hp⟩:∃ p,(extM l).q.g.us[m.unit.toNat]? = some p:=⟨_,List.getElem?_eq_getElem hu1⟩
     obtain ⟨hh1,hh2⟩:=hH m hmm p hp
     have hpp:(preM (extM l).q.g (insN (extM l).q.r l2 (extM l).q.r.lo.length))[m.unit.toNat]? = some (evM p (actM (extM l).q.g (insN (extM l).q.r l2 (extM l).q.r.lo.length))):=by unfold preM;rw [List.getElem?_map,hp];rfl
     have hpl:(preM (extM l).q.g (insN (extM l).q.r l2 (extM l).q.r.lo.length)).length = (extM l).q.g.us.length:=by unfold preM;rw [List.length_map]
     have hal:(actM (extM l).q.g (insN (extM l).q.r l2 (extM l).q.r.lo.length)).length = (extM l).q.g.inp + (extM l).q.g.us.length:=by unfold actM;rw [actN_len _ (Nat.le_refl _),hxl]
     have hvb:VB 500000 (actM (extM l).q.g (insN (extM l).q.r l2 (extM l).q.r.lo.length)):=(actN_br hg hx.bd hxl _ (Nat.le_refl _)).mono (KV_le (by omega))
     haveI hev:=evM_br ((hg.us _ p hp).mono (Nat.le_refl 3) (show (extM l).q.g.inp + m.unit.toNat≤(extM l).q.g.inp + (extM l).q.g.us.length by omega)) hvb (by omega) (by omega)
     refine Tc_region (t_q rfl (Jq_indexX lmE ((runM absD (extM l) ((n % 64:Nat):Int)).lems) (i) rfl rfl rfl un40 ty64 hm) (t_q rfl (Jq_load_ref_agg rfl rfl ty64 rfl) (t_f rfl (Je_alloc (n:=2) rfl tz64 rfl) (a_ FT 1 rfl (cns (Tc_seq ?_))))))
     refine Tc_norm [(11,some (D.v (V.one (El.row ratE (preM (extM l).q.g (insN (extM l).q.r l2 (extM l).q.r.lo.length)))))),(14,some (D.ptr 2 0)),(58,some (D.v (V.one (El.row lmE ((runM absD (extM l) ((n % 64:Nat):Int)).lems))))),(59,some (D.val (.int .i64 ((((runM absD (extM l) ((n % 64:Nat):Int)).lems).length:Nat):Int)))),(60,some (D.val (.int .i64 ((i:Nat):Int))))] [none,none,hb_ 64 [Leaf.val (.int .i64 m.unit),Leaf.val (.bool m.up),Leaf.val (.bool m.v.neg),natL m.v.n,natL m.v.d,El.row muE m.pf]] ⟨rfl,rfl,rfl,rfl,rfl,trivial⟩ rfl ?_
     refine Tc_region (a_ FT 2 rfl (t_q rfl (Jq_lss rfl rfl rfl (b:=false) (dF (by omega))) (a_ FT 4 rfl (t_g rfl rfl rfl rfl (Jq_len rfl rfl un27) (t_g rfl rfl rfl rfl (Jq_geq rfl rfl rfl (b:=false) (dF (by omega))) (a_ FT 1 rfl (c_n (Tc_f rfl (c_b ?_)))))))))
     refine Tc_seq ?_
     refine Tc_norm [(11,some (D.v (V.one (El.row ratE (preM (extM l).q.g (insN (extM l).q.r l2 (extM l).q.r.lo.length)))))),(14,some (D.ptr 2 0)),(58,some (D.v (V.one (El.row lmE ((runM absD (extM l) ((n % 64:Nat):Int)).lems))))),(59,some (D.val (.int .i64 ((((runM absD (extM l) ((n % 64:Nat):Int)).lems).length:Nat):Int)))),(60,some (D.val (.int .i64 ((i:Nat):Int))))] [none,none,hb_ 64 [Leaf.val (.int .i64 m.unit),Leaf.val (.bool m.up),Leaf.val (.bool m.v.neg),natL m.v.n,natL m.v.d,El.row muE m.pf]] ⟨rfl,rfl,rfl,rfl,rfl,trivial⟩ rfl ?_
     refine Tc_drawK 0 [none,none,none,none,none,none,none,none,none] [] follows (by kernel_rfl) (d_ FT 3 rfl (dq_ rfl rfl (Jq_indexX ratE (preM (extM l).q.g (insN (extM l).q.r l2 (extM l).q.r.lo.length)) (m.unit.toNat) rfl rfl rfl un27 ty34 hpp (by omega)) (dq_ rfl rfl (Jq_load_ref_agg rfl rfl ty34 rfl) (d_ FT 2 rfl ?_))))
     refine DK_c rfl rfl (Jd_call rfl fn22 rfl (rqcmp (qOf ((evM p (actM (extM l).q.g (insN (extM l).q.r l2 (extM l).q.r.lo.length))))) ((evM p (actM (extM l).q.g (insN (extM l).q.r l2 (extM l).q.r.lo.length)))) (qOf_q _) (Br.use (by omega)) m.v (m.v.q) rfl (Fq.use (x:=m.v) (by omega)))) (d_ FT 1 rfl (DK_nil (At_then (Tc_seq ?_))))
     refine Tc_norm [(11,some (D.v (V.one (El.row ratE (preM (extM l).q.g (insN (extM l).q.r l2 (extM l).q.r.lo.length)))))),(14,some (D.ptr 2 0)),(15,some (D.val (.int .i64 (cmpq ((evM p (actM (extM l).q.g (insN (extM l).q.r l2 (extM l).q.r.lo.length)))) (m.v.q))))),(58,some (D.v (V.one (El.row lmE ((runM absD (extM l) ((n % 64:Nat):Int)).lems))))),(59,some (D.val (.int .i64 ((((runM absD (extM l) ((n % 64:Nat):Int)).lems).length:Nat):Int)))),(60,some (D.val (.int .i64 ((i:Nat):Int))))] [none,none,hb_ 64 [Leaf.val (.int .i64 m.unit),Leaf.val (.bool m.up),Leaf.val (.bool m.v.neg),natL m.v.n,natL m.v.d,El.row muE m.pf]] ⟨rfl,rfl,rfl,rfl,rfl,rfl,trivial⟩ rfl ?_
     refine Tc_region (a_ FT 3 rfl ?_)
     refine Tl_two (fun hm1=>?_) (fun hm1=>?_)
     ·refine a_ FT 6 rfl (Tl_is false (hm1) (a_ FT 3 rfl (t_g rfl rfl rfl rfl (Jq_lss rfl rfl rfl (b:=false) (dF (by have:=cmpq_ge.2 (hh2 hm1);omega))) (a_ FT 2 rfl (c_n (Tc_f rfl (Tc_skipA (At_block (At_then ?_)))))))))
      refine Tc_free 2 ?_
      refine Tc_norm [(11,some (D.v (V.one (El.row ratE (preM (extM l).q.g (insN (extM l).q.r l2 (extM l).q.r.lo.length)))))),(58,some (D.v (V.one (El.row lmE ((runM absD (extM l) ((n % 64:Nat):Int)).lems))))),(59,some (D.val (.int .i64 ((((runM absD (extM l) ((n % 64:Nat):Int)).lems).length:Nat):Int)))),(60,some (D.val (.int .i64 ((i:Nat):Int))))] [none,none,none] ⟨rfl,rfl,rfl,rfl,trivial⟩ rfl ?_
      refine Tc_region (t_q rfl (Jq_add rfl rfl rfl (r:=((i + 1:Nat):Int)) (w64 (by omega) (by omega) (by omega))) (a_ FT 1 rfl (Tl_end (trim_ 2 rfl ?_))))
      exact At_next (m':=(runM absD (extM l) ((n % 64:Nat):Int)).lems.length - (i + 1)) (by omega) ⟨i + 1,rfl,rfl,rfl,hi⟩ ⟨rfl,rfl,rfl,rfl,trivial⟩
     ·refine a_ FT 1 rfl (t_g rfl rfl rfl rfl (Jq_gtr rfl rfl rfl (b:=false) (dF (by have:=cmpq_le.2 (hh1 hm1);omega))) (a_ FT 4 rfl (Tl_is true (hm1) (a_ FT 6 rfl (c_n (Tc_f rfl (Tc_skipA (At_block (At_then ?_)))))))))
      refine Tc_free 2 ?_
      refine Tc_norm [(11,some (D.v (V.one (El.row ratE (preM (extM l).q.g (insN (extM l).q.r l2 (extM l).q.r.lo.length)))))),(58,some (D.v (V.one (El.row lmE ((runM absD (extM l) ((n % 64:Nat):Int)).lems))))),(59,some (D.val (.int .i64 ((((runM absD (extM l) ((n % 64:Nat):Int)).lems).length:Nat):Int)))),(60,some (D.val (.int .i64 ((i:Nat):Int))))] [none,none,none] ⟨rfl,rfl,rfl,rfl,trivial⟩ rfl ?_
      refine Tc_region (t_q rfl (Jq_add rfl rfl rfl (r:=((i + 1:Nat):Int)) (w64 (by omega) (by omega) (by omega))) (a_ FT 1 rfl (Tl_end (trim_ 2 rfl ?_))))
      exact At_next (m':=(runM absD (extM l) ((n % 64:Nat):Int)).lems.length - (i + 1)) (by omega) ⟨i + 1,rfl,rfl,rfl,hi⟩ ⟨rfl,rfl,rfl,rfl,trivial⟩
    ·refine t_q rfl (Jq_lss rfl rfl rfl (b:=false) (dF (by omega))) (cns (Tc_f rfl (Tc_exitA (At_then_exit (At_then_exit (At_block_exit (At_then (c_a (a_ FT 1 rfl ?_)))))))))
     refine c_n ?_
     exact Tc_ret1 hq_ rfl rfl rfl
end Go.Proofs.YtjdbopkbfkgpdaaGreatDoor
namespace Rc
open Go Go.RowKit Go.ChangeShapes Go.WideShapes
section
variable {H:Type} {enc:TypeId × Value→H} {P:Program} {w:World} {base:Nat} {held:Bool}
@[reducible] def here (w:World):Foot:=Foot.of fun k _=>k < w.heap.size
theorem wf_u8 {n:Int} (h:(Lit.int .u8 n).wf = true):0≤n∧n≤255:=by
 simp [Lit.wf,IntKind.min,IntKind.max,IntKind.bits,IntKind.signed] at h
 omega
theorem cell_lt {a:Addr} {v:Value} (h:w.cell? a = some v):a.block < w.heap.size:=by
 unfold World.cell? at h
 cases hb:w.heap[a.block]? with
 | none=>rw [hb] at h;simp at h
 | some o=>exact (Array.getElem?_eq_some_iff.1 hb).1
variable {tb tn tu tr:Nat}
theorem rdv_u8 {t:Nat} (ht:P.underlying t = some (.int .u8)) {r:Reach} {b0:Nat} {v:Value} {d:DataW H} {p:List MemPlace} (hv:Value.okWide P w r b0 t v) (h:DataW.Trod enc P w base (fun _=>true) held t v d p) :
  ∃ n:Nat,n < 256∧(V.one (Leaf.val (.int .u8 n))).den (here w) v w:=by
 obtain ⟨x,rfl,_,_,hw⟩:=open_int ht hv h
 have:=wf_u8 hw
 exact ⟨x.toNat,by omega,by show _ = _;congr 1;omega,rfl⟩
end
theorem law_calls {P:Program} {f:Nat} {xs:List V} {w:World} {vs:List Value} (h:Ctr P f xs (R.one (V.one (Leaf.val (.bool true))))) (hg:Glob w) (hd:denVs (here w) xs vs w) :
  Calls P f vs.toArray w fun e w'=>e = .returned (.bool true)∧Below w.heap.size w w':=by
 refine Calls.mono (h w vs (fun k _=>k < w.heap.size) hg (fun _ _ hk=>hk) hd) ?_
 rintro e w' ⟨v,rfl,hv,hb⟩
 obtain ⟨rfl,_⟩:v = .bool true∧_:=hv
 exact ⟨rfl,hb⟩
end Rc
set_option linter.unusedSimpArgs false
set_option linter.unusedVariables false
namespace Go.Proofs.YtjdbopkbfkgpdaaGreatDoor
open Go Go.RowKit Rc
theorem own:ownKnob Tryz.prog.godebug = none:=by kernel_rfl
theorem laidOut:laidOutB Tryz.prog = true:=by kernel_rfl
theorem und5:Tryz.prog.underlying 5 = some (.int .u8):=by kernel_rfl
end Go.Proofs.YtjdbopkbfkgpdaaGreatDoor
namespace Rc
open Go Go.RowKit Go.ChangeShapes Go.WideShapes
theorem u8_all:∀ l:List Nat,u8E.all l = l.map fun (x:Nat)=>Leaf.val (.int .u8 (x:Int))
 | []=>rfl
 | x :: l=>by show u8E.f x ++ u8E.all l = _;rw [u8_all l];rfl
section
variable {H:Type} {enc:TypeId × Value→H} {P:Program} {w:World} {base:Nat} {held:Bool}
theorem rdv_bytes {t u:Nat} (ht:P.underlying t = some (.slice u)) (hu:P.underlying u = some (.int .u8)) (hc:P.cellsOf u = 1) {r:Reach} {b0:Nat} {v:Value} {d:DataW H} {p:List MemPlace} (hv:Value.okWide P w r b0 t v)
  (h:DataW.Trod enc P w base (fun _=>true) held t v d p):∃ l:List Nat,l.length≤maxLen∧(∀ x∈l,x < 256)∧(V.one (u8E.row l)).den (here w) v w:=by
 obtain ⟨a0,len0,cap0,rfl⟩:=okWide_slice ht hv
 obtain ⟨fuel,hf⟩:=h
 rcases open_ints ht hu hc hf with ⟨hcs,_⟩ | ⟨a,len,cap,zs,hcs,_,hl,hm,hz,_,hcell,hwf⟩
 ·simp [Value.cells] at hcs
  obtain ⟨rfl,rfl,rfl⟩:=hcs
  exact ⟨[],Nat.zero_le _,fun x hx=>by simp at hx,nil_slice _ _⟩
 ·simp [Value.cells] at hcs
  obtain ⟨rfl,rfl,rfl⟩:=hcs
  simp only [if_true] at hz
  have hlen:((zs.take len0).map Int.toNat).length = len0:=by simp;omega
  refine ⟨(zs.take len0).map Int.toNat,by rw [hlen];omega,?_,?_⟩
  ·intro y hy
   obtain ⟨n,hn,rfl⟩:=List.mem_map.1 hy
   have:=wf_u8 (hwf n (List.mem_of_mem_take hn))
   omega
  ·show (sliceRep ((zs.take len0).map Int.toNat).length _).P _ _ _
   rw [hlen,u8_all]
   refine ⟨some a,cap0,rfl,hl,hm,fun h=>by simp at h,fun ad had=>?_⟩
   cases had
   refine ⟨fun h0=>?_,fun i lf hi=>?_⟩
   ·obtain ⟨b,off,rfl,_⟩:=ints_at hcell (by first | omega | (simp at h0;omega))
    rfl
   ·rw [List.getElem?_map,List.getElem?_map,List.getElem?_take] at hi
    split at hi
    ·rename_i hil
     have hiz:i < zs.length:=by omega
     obtain ⟨b,off,rfl,hc2⟩:=ints_at hcell (by omega)
     have hci:=hc2 i hiz
     rw [List.getElem?_eq_getElem hiz] at hi
     simp only [Option.map_some,Option.some.injEq] at hi
     subst hi
     have hw:=wf_u8 (hwf zs[i] (List.getElem_mem hiz))
     have hlt:b < w.heap.size:=cell_lt hci
     refine ⟨hlt,_,hci,?_,rfl⟩
     rw [List.getD_eq_getElem?_getD,List.getElem?_eq_getElem hiz]
     simp only [Option.getD_some]
     congr 1
     omega
    ·simp at hi
variable {tb tn tu tr:Nat}
end
end Rc
set_option linter.unusedSimpArgs false
set_option linter.unusedVariables false
namespace Go.Proofs.YtjdbopkbfkgpdaaGreatDoor
open Go Go.RowKit Rc
theorem undBs:Tryz.prog.underlying 22 = some (.slice 5):=by kernel_rfl
theorem undU8:Tryz.prog.underlying 5 = some (.int .u8):=by kernel_rfl
theorem cellsU8:Tryz.prog.cellsOf 5 = 1:=by kernel_rfl
end Go.Proofs.YtjdbopkbfkgpdaaGreatDoor
set_option linter.unusedSimpArgs false
set_option linter.unusedVariables false
namespace Go.Proofs.YtjdbopkbfkgpdaaGreatDoor
open Go Go.RowKit Rc
theorem gTab : Tryz.prog.globalNamed "math/bits.deBruijn32tab" = some 0:=by kernel_rfl
theorem tTab:(Tryz.prog.globals[0]?).map (·.type) = some 206:=by kernel_rfl
theorem uTab:Tryz.prog.underlying 206 = some (.array 32 5):=by kernel_rfl
theorem uEl:Tryz.prog.underlying 5 = some (.int .u8):=by kernel_rfl
theorem cEl:Tryz.prog.cellsOf 5 = 1:=by kernel_rfl
theorem cTab:Tryz.prog.cellsOf 206 = 32:=by kernel_rfl
open Go.ChangeShapes Go.WideShapes
@[reducible] def laidL:List (String × DataW Unit):=[("math/bits.deBruijn32tab",Rows.laid_math_bits_deBruijn32tab)]
theorem door_met (os:Os) (args:Array Value):laidMetH Tryz.prog laidL ((World.doorLaid Tryz.prog 400 os).forCall (fun _ _=>0) ⟨#[],args,[]⟩).memory:=
 laidMetH_of_parts3 (fuel:=8) (laidMet_of_run' 8 (by kernel_rfl) (by kernel_rfl)) (by kernel_rfl) (by kernel_rfl)
theorem tab_data:(Rows.laid_math_bits_deBruijn32tab:DataW Unit) = .agg (bruijn.map fun n:Nat=>.lit (.int .u8 (n:Int))):=by kernel_rfl
theorem glob_of_laid {W:World} (h:laidMetH Tryz.prog laidL W):Glob W:=by
 rw [MakeChecks.laidMetH_plain _ _ _ (by kernel_rfl)] at h
 obtain ⟨ps,⟨g0,t0,cs0,f0,p0,q0,hg0,ht0,hv0,hd0,_,_⟩,_⟩:=h
 obtain rfl:=Option.some.inj (gTab.symm.trans hg0)
 obtain rfl:=Option.some.inj (tTab.symm.trans ht0)
 obtain ⟨xs,m,_,hx,hlen,hxs,hel⟩:=DataW.trod_array uTab hd0
 rw [tab_data] at hx
 have hd:=congrArg Prod.fst hx
 simp only [DataW.agg.injEq] at hd
 rw [cTab] at hlen
 have key:∀ (i:Nat) (k:Nat),bruijn[i]? = some k→cs0[i]? = some (.int .u8 (k:Int)):=by
  intro i k hk
  have hi:i < 32:=(List.getElem?_eq_some_iff.1 hk).1
  have h1:=hel i hi
  rw [List.getElem?_eq_getElem (by omega)] at h1
  obtain ⟨n,hc,hxn,_⟩:=DataW.trod_int uEl h1
  have h2:=congrArg (fun l=>l[i]?) hd
  simp only [List.getElem?_map,hk,List.getElem?_eq_getElem (show i < xs.length by omega),Option.map_some,hxn] at h2
  have h3:n = (k:Int):=by
   have:=Option.some.inj h2
   simp only [DataW.lit.injEq,Lit.int.injEq,true_and] at this
   exact this.symm
  subst h3
  rw [cEl,Nat.mul_one] at hc
  have h4:=congrArg (fun l=>l[0]?) hc
  simp only [List.getElem?_take,List.getElem?_drop,Nat.add_zero,Nat.zero_lt_one,if_true,List.getElem?_cons_zero] at h4
  rw [← Array.getElem?_toList]
  exact h4
 intro p hp
 have hp':p = (0,bruijn.map fun n:Nat=>Value.int .u8 (n:Int)):=by simpa [tab,bruijn] using hp
 subst hp'
 have hcell:=fun i:Nat=>World.var?_cell hg0 hv0 i
 refine ⟨?_,fun i v hv=>?_⟩
 ·have h0:=hcell 0
  rw [key 0 0 rfl] at h0
  unfold World.cell? at h0
  cases hh:W.heap[0]? with
  | none=>simp [hh] at h0
  | some o=>exact (Array.getElem?_eq_some_iff.1 hh).1
 ·simp only [List.getElem?_map] at hv
  cases hk:bruijn[i]? with
  | none=>rw [hk] at hv;simp at hv
  | some k=>
   rw [hk] at hv
   simp only [Option.map_some,Option.some.injEq] at hv
   rw [hcell i,key i k hk,hv]
end Go.Proofs.YtjdbopkbfkgpdaaGreatDoor
