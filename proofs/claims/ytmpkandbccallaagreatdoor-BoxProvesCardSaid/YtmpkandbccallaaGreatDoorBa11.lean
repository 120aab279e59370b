/- Parts of the proof, 11: the texts Box, Ev, Mem, BoxB, BoxC, BoxW, WlB2, WlC2, WlD2, WlY, as far as they are used. -/
import Derived.Test.YtmpkandbccallaaGreatDoorBa10
set_option linter.unusedSimpArgs false
set_option linter.unusedVariables false
namespace Rc
open Go Go.RowKit
def lvr (l:List Lm) (n:Nat):Qr:=match l[n - 1]? with | some m=>m.v | none=>qZero
theorem lvr_get {l:List Lm} {n:Nat} {m:Lm} (h:l[n - 1]? = some m):lvr l n = m.v:=by unfold lvr;rw [h]
def one1 (r:Rw):List Mu:=[⟨r,qOf ((1:Int):Rat)⟩]
def inpS (up:Bool) (i:Nat) (b:Rat × Rw) (k:Nat) (d:Dc):Rat × Rw:=
 if d.kind = (if up = true then 4 else 3)∧d.idx = i∧(if up = true then d.pt < b.1 else b.1 < d.pt) then (d.pt,⟨4,(k:Int),0,0⟩) else b
def inp0 (s:Sc) (i:Nat) (up:Bool):Rat × Rw:=if up = true then ((s.q.r.hi[i]?).getD 0,⟨2,(i:Int),0,0⟩) else ((s.q.r.lo[i]?).getD 0,⟨1,(i:Int),0,0⟩)
def inpT (s:Sc) (i:Nat) (up:Bool) (b:Rat × Rw) (k:Nat):Rat × Rw:=match s.path[k]? with | some d=>inpS up i b k d | none=>b
def inpN (s:Sc) (i:Nat) (up:Bool) (n:Nat):Rat × Rw:=(List.range n).foldl (inpT s i up) (inp0 s i up)
def inpM (s:Sc) (i:Nat) (up:Bool):Rat × Rw:=inpN s i up s.path.length
theorem inpN_succ {s:Sc} {i:Nat} {up:Bool} {n:Nat} {d:Dc} (h:s.path[n]? = some d):inpN s i up (n + 1) = inpS up i (inpN s i up n) n d:=by
 unfold inpN;rw [List.range_succ,List.foldl_append];simp only [List.foldl_cons,List.foldl_nil]
 show inpT s i up _ n = _
 unfold inpT;rw [h]
@[reducible] def bLo (s:Sc) (j:Nat):Nat:=(best s.lems (j:Int)).1
@[reducible] def bHi (s:Sc) (j:Nat):Nat:=(best s.lems (j:Int)).2
@[reducible] def decO (s:Sc) (j:Nat):Bool:=decM s.path 1 (j:Int)
@[reducible] def decF (s:Sc) (j:Nat):Bool:=decM s.path 2 (j:Int)
def lowM (s:Sc) (j:Nat):Qr × List Mu:=
 if bLo s j≠0∧0 < lv s.lems (bLo s j) then (lvr s.lems (bLo s j),[⟨⟨6,(j:Int),0,0⟩,qOf ((1:Int):Rat)⟩,⟨⟨11,(j:Int),(bLo s j:Int),0⟩,qOf ((1:Int):Rat)⟩])
 else (qZero,one1 ⟨5,(j:Int),0,0⟩)
def highM (s:Sc) (j:Nat):Option (Qr × List Mu):=
 if decF s j = true ∨ (bHi s j≠0∧lv s.lems (bHi s j)≤0) then some (qZero,one1 ⟨10,(j:Int),0,if decF s j = true then 0 else (bHi s j:Int)⟩)
 else if bHi s j = 0 then none
 else if decO s j = true ∨ (bLo s j≠0∧0≤lv s.lems (bLo s j)) then some (lvr s.lems (bHi s j),[⟨⟨8,(j:Int),if decO s j = true then 0 else (bLo s j:Int),0⟩,qOf ((1:Int):Rat)⟩,⟨⟨12,(j:Int),0,(bHi s j:Int)⟩,qOf ((1:Int):Rat)⟩])
 else if bLo s j = 0 then none
 else some (lvr s.lems (bHi s j),[⟨⟨12,(j:Int),0,(bHi s j:Int)⟩,qOf (lv s.lems (bHi s j) * (((1:Int):Rat) / (lv s.lems (bHi s j) - lv s.lems (bLo s j))))⟩,⟨⟨13,(j:Int),(bLo s j:Int),(bHi s j:Int)⟩,qOf (((1:Int):Rat) / (lv s.lems (bHi s j) - lv s.lems (bLo s j)))⟩])
def bndM (s:Sc) (v:Nat) (up:Bool):Option (Qr × List Mu):=
 if v < s.q.g.inp then some (qOf (inpM s v up).1,one1 (inpM s v up).2)
 else if up = true then highM s (v - s.q.g.inp) else some (lowM s (v - s.q.g.inp))
def boxT (s:Sc) (a:Option (Rat × List Mu)) (t:Tm):Option (Rat × List Mu):=
 match a with
 | none=>none
 | some (x,l)=>match bndM s t.1 (decide (t.2 < 0)) with
  | none=>none
  | some (b,m)=>some (x + t.2 * b.q,mergeM l m (rq false (cnum t.2) (cden t.2)))
def boxN (s:Sc) (f:Af) (n:Nat):Option (Rat × List Mu):=(f.ts.take n).foldl (boxT s) (some (f.c,[]))
def boxO (s:Sc) (f:Af):Option (Rat × List Mu):=boxN s f f.ts.length
def boxD:Dom:=fun s f=>match boxO s f with | some (x,l)=>(x,l,true) | none=>(0,[],false)
theorem boxN_succ {s:Sc} {f:Af} {n:Nat} {t:Tm} (h:f.ts[n]? = some t):boxN s f (n + 1) = boxT s (boxN s f n) t:=by
 unfold boxN;rw [take_snoc h,List.foldl_append];rfl
theorem boxT_none {s:Sc}:∀ (ts:List Tm),ts.foldl (boxT s) none = none
 | []=>rfl
 | t :: ts=>boxT_none ts
theorem boxO_none {s:Sc} {f:Af} {n:Nat} (h:boxN s f n = none):boxO s f = none:=by
 unfold boxO boxN at *
 rw [List.take_length]
 conv=>lhs;rw [← List.take_append_drop n f.ts,List.foldl_append,h]
 exact boxT_none _
theorem boxD_some {s:Sc} {f:Af} {x:Rat} {l:List Mu} (h:boxO s f = some (x,l)):boxD s f = (x,l,true):=by unfold boxD;rw [h]
theorem boxD_none {s:Sc} {f:Af} (h:boxO s f = none):boxD s f = (0,[],false):=by unfold boxD;rw [h]
section
variable {s:Sc}
theorem form_path {k:Nat} {d:Dc} (hd:s.path[k]? = some d) (h3:3≤d.kind):formM s ⟨4,(k:Int),0,0⟩ = (pathF d,true):=by
 unfold formM
 rw [if_neg (by show ¬ (5:Int)≤4;decide),if_neg (by show ¬ ((0:Int)≠0 ∨ (0:Int)≠0 ∨ ((k:Nat):Int) < 0);omega),if_neg (by show ¬ (4:Int) = 1;decide),if_neg (by show ¬ (4:Int) = 2;decide),if_neg (by show ¬ (4:Int) = 3;decide),if_pos rfl]
 simp only [toNat_cast,hd]
 rw [if_pos h3]
theorem form_lower {j n:Nat} {p:Af} {m:Lm} (hp:s.q.g.us[j]? = some p) (hn:0 < n) (hm:s.lems[n - 1]? = some m) (hu:m.unit = (j:Int)) (hup:m.up = false) :
  formM s ⟨11,(j:Int),(n:Int),0⟩ = (fSub p (fN m.v.q),true):=
 form_unit (by decide) hp (by
  unfold unitF
  rw [if_neg (by simp),if_neg (by simp),if_neg (by simp),if_neg (by simp),if_neg (by simp),if_neg (by simp),if_pos rfl]
  unfold lowB lowQ
  simp only [lem_at hn hm hu hup]
  simp)
theorem form_on0 {j:Nat} {p:Af} (hp:s.q.g.us[j]? = some p) (hd:decM s.path 1 (j:Int) = true):formM s ⟨8,(j:Int),0,0⟩ = (fSub p (fV (s.q.g.inp + j)),true):=
 form_unit (by decide) hp (by
  unfold unitF
  rw [if_neg (by simp),if_neg (by simp),if_neg (by simp),if_pos rfl]
  unfold onB
  simp only [hd]
  simp)
theorem form_off0 {j:Nat} {p:Af} (hp:s.q.g.us[j]? = some p) (hd:decM s.path 2 (j:Int) = true):formM s ⟨10,(j:Int),0,0⟩ = (fSc (fV (s.q.g.inp + j)) ((-1:Int):Rat),true):=
 form_unit (by decide) hp (by
  unfold unitF
  rw [if_neg (by simp),if_neg (by simp),if_neg (by simp),if_neg (by simp),if_neg (by simp),if_pos rfl]
  unfold offB
  simp only [hd]
  simp)
end
structure SB (B:Nat) (s:Sc):Prop where
 q:QOk s.q
 d:∀ d∈s.path,DOk 200 s.q d
 pl:s.path.length≤100
 B:∀ m∈s.lems,Fq m.v B
 ll:s.lems.length≤1000
structure BvOk (s:Sc) (B v:Nat) (up:Bool) (b:Qr) (l:List Mu):Prop where
 step:StepOk s (4 * B + 12) l
 fq:Fq b (B + 201)
 co:∀ w,W (coR s w) l = if v = w then (if up = true then -1 else 1) else 0
 wc:W (rowC s) l = if up = true then b.q else -b.q
theorem one1_step {s:Sc} {r:Rw} {B:Nat} (h:(formM s r).2 = true):StepOk s (4 * B + 12) (one1 r):=
 ⟨(one_step (B:=B) h).ok,(one_step (B:=B) h).pos,(one_step (B:=B) h).bd.mono (by omega),by simp [one1]⟩
theorem one1_W (φ:Rw→Rat) (r:Rw):W φ (one1 r) = φ r:=by unfold one1;simp only [W,qOf_q,p1];grind
theorem ite_sub {v w:Nat}:(if v = w then (1:Rat) else 0) - 0 = if v = w then 1 else 0:=by split <;> grind
structure InpOk (s:Sc) (i:Nat) (up:Bool) (n:Nat) (b:Rat × Rw):Prop where
 ok:(formM s b.2).2 = true
 hb:Hb b.1 200
 co:∀ w,coR s w b.2 = if i = w then (if up = true then -1 else 1) else 0
 wc:rowC s b.2 = if up = true then b.1 else -b.1
theorem inp_ok {B:Nat} {s:Sc} (hs:SB B s) {i:Nat} (hi:i < s.q.g.inp) (up:Bool):∀ n,n≤s.path.length→InpOk s i up n (inpN s i up n)
 | 0,_=>by
  have hl:=hs.q.r.lo;have hh:=hs.q.r.hi
  obtain ⟨a,ha⟩:∃ a,s.q.r.lo[i]? = some a:=⟨_,List.getElem?_eq_getElem (by omega)⟩
  obtain ⟨c,hc⟩:∃ c,s.q.r.hi[i]? = some c:=⟨_,List.getElem?_eq_getElem (by omega)⟩
  obtain ⟨h1,h2,_⟩:=hs.q.r.bd i a c ha hc
  show InpOk s i up 0 (inp0 s i up)
  unfold inp0
  cases up
  ·rw [if_neg (by decide),ha]
   have hf:=form_lo ha
   refine ⟨?_,h1.mono (by omega),fun w=>?_,?_⟩
   ·show (formM s ⟨1,(i:Int),0,0⟩).2 = true
    rw [hf]
   ·show co (formM s ⟨1,(i:Int),0,0⟩).1.ts w = _
    rw [hf,co_sub (can_v _) (can_n _),co_v,co_n];split <;> (try simp) <;> (try grind)
   ·show (formM s ⟨1,(i:Int),0,0⟩).1.c = -a
    rw [hf]
    show 0 + a * ((-1:Int):Rat) = -a
    rw [m1];grind
  ·rw [if_pos rfl,hc]
   have hf:=form_hi hc
   refine ⟨?_,h2.mono (by omega),fun w=>?_,?_⟩
   ·show (formM s ⟨2,(i:Int),0,0⟩).2 = true
    rw [hf]
   ·show co (formM s ⟨2,(i:Int),0,0⟩).1.ts w = _
    rw [hf,co_sub (can_n _) (can_v _),co_v,co_n];split <;> (try simp) <;> (try grind)
   ·show (formM s ⟨2,(i:Int),0,0⟩).1.c = c
    rw [hf]
    show c + 0 * ((-1:Int):Rat) = c
    grind
 | n + 1,hn=>by
  have ih:=inp_ok hs hi up n (by omega)
  obtain ⟨d,hd⟩:∃ d,s.path[n]? = some d:=⟨_,List.getElem?_eq_getElem (by omega)⟩
  have hok:=hs.d d (List.mem_of_getElem? hd)
  rw [inpN_succ hd]
  by_cases hc:d.kind = (if up = true then 4 else 3)∧d.idx = i∧(if up = true then d.pt < (inpN s i up n).1 else (inpN s i up n).1 < d.pt)
  ·have e:inpS up i (inpN s i up n) n d = (d.pt,⟨4,(n:Int),0,0⟩):=if_pos hc
   rw [e]
   obtain ⟨hk,hx,_⟩:=hc
   have h3:3≤d.kind:=by rw [hk];split <;> omega
   have hf:=form_path hd h3
   refine ⟨?_,hok.2,fun w=>?_,?_⟩
   ·show (formM s ⟨4,(n:Int),0,0⟩).2 = true
    rw [hf]
   ·show co (formM s ⟨4,(n:Int),0,0⟩).1.ts w = _
    rw [hf]
    show co (pathF d).ts w = _
    unfold pathF
    cases up
    ·rw [if_pos (by simpa using hk),co_sub (can_v _) (can_n _),co_v,co_n,hx];split <;> (try simp) <;> (try grind)
    ·rw [if_neg (by simp at hk;omega),co_fsc (can_sub (can_v _)),co_sub (can_v _) (can_n _),co_v,co_n,hx,m1];split <;> (try simp) <;> (try grind)
   ·show (formM s ⟨4,(n:Int),0,0⟩).1.c = _
    rw [hf]
    show (pathF d).c = _
    unfold pathF
    cases up
    ·rw [if_pos (by simpa using hk)]
     show 0 + d.pt * ((-1:Int):Rat) = -d.pt
     rw [m1];grind
    ·rw [if_neg (by simp at hk;omega)]
     show (0 + d.pt * ((-1:Int):Rat)) * ((-1:Int):Rat) = d.pt
     rw [m1];grind
  ·have e:inpS up i (inpN s i up n) n d = inpN s i up n:=if_neg hc
   rw [e];exact ⟨ih.ok,ih.hb,ih.co,ih.wc⟩
theorem low_ok {B:Nat} {s:Sc} (hs:SB B s) {j:Nat} (hj:j < s.q.g.us.length):BvOk s B (s.q.g.inp + j) false (lowM s j).1 (lowM s j).2:=by
 obtain ⟨p,hp⟩:∃ p,s.q.g.us[j]? = some p:=⟨_,List.getElem?_eq_getElem hj⟩
 have hpc:=(hs.q.g.us j p hp).can
 unfold lowM
 split
 ·rename_i h
  obtain ⟨y,hy,yu,yp,hly,hy0,hyl⟩:=best_lo h.1
  haveI:=hs.B y (List.mem_of_getElem? hy)
  have f1:=form_above hp
  have f2:=form_lower hp hy0 hy yu yp
  simp only [lvr_get hy]
  refine ⟨⟨fun m hm=>?_,fun m hm=>?_,fun m hm=>?_,by simp⟩,(inferInstance:Fq y.v B).mono (by omega),fun w=>?_,?_⟩
  ·simp at hm
   rcases hm with rfl | rfl
   ·rw [f1]
   ·rw [f2]
  ·simp at hm
   rcases hm with rfl | rfl <;> rw [qOf_q] <;> decide
  ·simp only [List.mem_cons,List.not_mem_nil,or_false] at hm
   rcases hm with rfl | rfl <;> exact Fq.of.mono (by omega)
  ·simp only [W,coR,f1,f2,qOf_q,p1]
   rw [co_sub (can_v _) hpc,co_sub hpc (can_n _),co_v,co_n]
   simp;split <;> grind
  ·simp only [W,rowC,f1,f2,qOf_q,p1,fSub,fV,fN,m1]
   simp;grind
 ·have f1:=form_zero hp
  refine ⟨one1_step (by rw [f1]),⟨qZero_fit⟩,fun w=>?_,?_⟩
  ·rw [one1_W];simp only [coR,f1,co_v];simp
  ·rw [one1_W];simp only [rowC,f1,fV,qZero_q];simp
theorem high_ok {B:Nat} {s:Sc} (hs:SB B s) {j:Nat} (hj:j < s.q.g.us.length) {b:Qr} {l:List Mu} (h:highM s j = some (b,l)):BvOk s B (s.q.g.inp + j) true b l:=by
 obtain ⟨p,hp⟩:∃ p,s.q.g.us[j]? = some p:=⟨_,List.getElem?_eq_getElem hj⟩
 have hpc:=(hs.q.g.us j p hp).can
 unfold highM at h
 split at h
 ·rename_i hoff
  cases h
  have f1:formM s ⟨10,(j:Int),0,if decF s j = true then 0 else (bHi s j:Int)⟩ = (fSc (fV (s.q.g.inp + j)) ((-1:Int):Rat),true):=by
   split
   ·rename_i hd;exact form_off0 hp hd
   ·rename_i hd
    rcases hoff with h1 | h1
    ·exact absurd h1 hd
    ·obtain ⟨z,hz,zu,zp,hlz,hz0,hzl⟩:=best_hi h1.1
     exact form_off hp hz0 hz zu zp (by rw [← hlz];exact h1.2)
  refine ⟨one1_step (by rw [f1]),⟨qZero_fit⟩,fun w=>?_,?_⟩
  ·rw [one1_W];simp only [coR,f1];rw [co_fsc (can_v _),co_v,m1];simp;split <;> grind
  ·rw [one1_W];simp only [rowC,f1,fSc,fV,qZero_q,m1];simp
 ·rename_i hoff
  split at h
  ·cases h
  ·rename_i hh
   obtain ⟨z,hz,zu,zp,hlz,hz0,hzl⟩:=best_hi hh
   haveI:=hs.B z (List.mem_of_getElem? hz)
   have f2:=form_up hp hz0 hz zu zp
   have hu:0 < z.v.q:=by
    have:¬ z.v.q≤0:=fun e=>hoff (.inr ⟨hh,by rw [hlz];exact e⟩)
    grind
   split at h
   ·rename_i hon
    simp only [Option.some.injEq,Prod.mk.injEq] at h
    obtain ⟨rfl,rfl⟩:=h
    have f1:formM s ⟨8,(j:Int),if decO s j = true then 0 else (bLo s j:Int),0⟩ = (fSub p (fV (s.q.g.inp + j)),true):=by
     split
     ·rename_i hd;exact form_on0 hp hd
     ·rename_i hd
      rcases hon with h1 | h1
      ·exact absurd h1 hd
      ·obtain ⟨y,hy,yu,yp,hly,hy0,hyl⟩:=best_lo h1.1
       exact form_on hp hy0 hy yu yp (by rw [← hly];exact h1.2)
    rw [lvr_get hz]
    refine ⟨⟨fun m hm=>?_,fun m hm=>?_,fun m hm=>?_,by simp⟩,(inferInstance:Fq z.v B).mono (by omega),fun w=>?_,?_⟩
    ·simp at hm
     rcases hm with rfl | rfl
     ·simp only [f1]
     ·rw [f2]
    ·simp at hm
     rcases hm with rfl | rfl <;> rw [qOf_q] <;> decide
    ·simp only [List.mem_cons,List.not_mem_nil,or_false] at hm
     rcases hm with rfl | rfl <;> exact Fq.of.mono (by omega)
    ·simp only [W,coR,f1,f2,qOf_q,p1]
     rw [co_sub hpc (can_v _),co_sub (can_n _) hpc,co_v,co_n]
     simp;split <;> grind
    ·simp only [W,rowC,f1,f2,qOf_q,p1,fSub,fV,fN,m1]
     simp;grind
   ·rename_i hon
    split at h
    ·cases h
    ·rename_i hl
     obtain ⟨y,hy,yu,yp,hly,hy0,hyl⟩:=best_lo hl
     haveI:=hs.B y (List.mem_of_getElem? hy)
     have hl0:y.v.q < 0:=by
      have:¬ 0≤y.v.q:=fun e=>hon (.inr ⟨hl,by rw [hly];exact e⟩)
      grind
     have f3:=form_tri hp hy0 hy yu yp hz0 hz zu zp hl0 hu
     simp only [Option.some.injEq,Prod.mk.injEq] at h
     obtain ⟨rfl,rfl⟩:=h
     rw [lvr_get hz,hlz,hly]
     have h2:0 < z.v.q - y.v.q:=by grind
     have h3:0 < ((1:Int):Rat) / (z.v.q - y.v.q):=by
      rw [Rat.div_def]
      exact Rat.mul_pos (by decide) (Rat.inv_pos.2 h2)
     have h4:(z.v.q - y.v.q) * (((1:Int):Rat) / (z.v.q - y.v.q)) = 1:=by
      rw [Rat.div_def,p1,Rat.one_mul];exact Rat.mul_inv_cancel _ (by grind)
     refine ⟨⟨fun m hm=>?_,fun m hm=>?_,fun m hm=>?_,by simp⟩,(inferInstance:Fq z.v B).mono (by omega),fun w=>?_,?_⟩
     ·simp at hm
      rcases hm with rfl | rfl
      ·rw [f2]
      ·rw [f3]
     ·simp only [List.mem_cons,List.not_mem_nil,or_false] at hm
      rcases hm with rfl | rfl
      ·show 0 < (qOf _).q
       rw [qOf_q];exact Rat.mul_pos hu h3
      ·show 0 < (qOf _).q
       rw [qOf_q];exact h3
     ·simp only [List.mem_cons,List.not_mem_nil,or_false] at hm
      rcases hm with rfl | rfl <;> exact Fq.of.mono (by omega)
     ·simp only [W,coR,f2,f3,qOf_q]
      rw [co_sub (can_n _) hpc,co_sub (can_sc (can_sub hpc)) (can_sc (can_v _)),co_fsc (can_sub hpc),co_sub hpc (can_n _),co_fsc (can_v _),co_v,co_n,co_n]
      simp only [if_true]
      generalize ((1:Int):Rat) / (z.v.q - y.v.q) = t at *
      split <;> grind
     ·simp only [W,rowC,f2,f3,qOf_q,fSub,fSc,fV,fN,m1,if_true]
      generalize ((1:Int):Rat) / (z.v.q - y.v.q) = t at *
      grind
theorem bnd_ok {B:Nat} {s:Sc} (hs:SB B s) {v:Nat} (hv:v < s.q.g.inp + s.q.g.us.length) {up:Bool} {b:Qr} {l:List Mu} (h:bndM s v up = some (b,l)):BvOk s B v up b l:=by
 unfold bndM at h
 split at h
 ·rename_i hi
  simp only [Option.some.injEq,Prod.mk.injEq] at h
  obtain ⟨rfl,rfl⟩:=h
  have hok:=inp_ok hs hi up s.path.length (Nat.le_refl _)
  haveI:Br (inpM s v up).1 201:=hok.hb.br
  exact ⟨one1_step hok.ok,Fq.of.mono (by omega),fun w=>by rw [one1_W];exact hok.co w,by rw [one1_W,qOf_q];exact hok.wc⟩
 ·rename_i hi
  have e:v = s.q.g.inp + (v - s.q.g.inp):=by omega
  split at h
  ·rename_i hu
   subst hu
   have:=high_ok hs (j:=v - s.q.g.inp) (by omega) h
   rwa [← e] at this
  ·rename_i hu
   simp only [Option.some.injEq] at h
   have:=low_ok hs (j:=v - s.q.g.inp) (by omega)
   rw [h,← e] at this
   have hu:up = false:=by simpa using hu
   subst hu;exact this
structure BoxOk (s:Sc) (B F:Nat) (f:Af) (ts:List Tm) (x:Rat) (l:List Mu):Prop where
 der:DerOk s (ts.length * (8 * B + 2 * F + 40)) (2 * ts.length) l
 co:∀ w,W (coR s w) l = coS w ts
 wc:W (rowC s) l = f.c - x
 br:Br x (F + ts.length * (B + F + 210))
theorem abs_cases (c:Rat):(c < 0→rq false (cnum c) (cden c) = -c)∧(¬ c < 0→rq false (cnum c) (cden c) = c):=by
 rw [abs_eq];exact ⟨fun h=>if_pos h,fun h=>if_neg h⟩
theorem coS_snoc (w:Nat) (t:Tm):∀ ts:List Tm,coS w (ts ++ [t]) = coS w ts + if t.1 = w then t.2 else 0
 | []=>by simp only [List.nil_append,coS];grind
 | x :: ts=>by simp only [List.cons_append,coS,coS_snoc w t ts];grind
theorem box_step {B F:Nat} {s:Sc} (hs:SB B s) {f:Af} {ts:List Tm} {t:Tm} {x:Rat} {l:List Mu} (hv:t.1 < s.q.g.inp + s.q.g.us.length) (ht:Br t.2 F) (h:BoxOk s B F f ts x l) {c:Qr} {m:List Mu}
  (hb:bndM s t.1 (decide (t.2 < 0)) = some (c,m)):BoxOk s B F f (ts ++ [t]) (x + t.2 * c.q) (mergeM l m (rq false (cnum t.2) (cden t.2))):=by
 have hk:=bnd_ok hs hv hb
 have hd:=h.der
 have hm:=hk.step
 obtain ⟨a1,a2⟩:=abs_cases t.2
 refine ⟨⟨mergeM_ok (P:=fun r=>(formM s r).2 = true) hd.ok hm.ok,mergeM_can (abs_nonneg _) hd.can hm.pos,(mergeM_bd hd.bd hm.bd).mono ?_,?_⟩,fun w=>?_,?_,?_⟩
 ·have:=Nat.mul_le_mul_right (4 * B + 12 + (F + 1) + 2) hm.len
  simp only [List.length_append,List.length_singleton,Nat.add_mul,Nat.one_mul];omega
 ·have:=mergeM_len m l (rq false (cnum t.2) (cden t.2));have:=hd.len;have:=hm.len
  simp only [List.length_append,List.length_singleton];omega
 ·rw [W_merge,h.co w,hk.co w,coS_snoc]
  by_cases hn:t.2 < 0
  ·rw [a1 hn,decide_eq_true hn];simp only [if_true];split <;> grind
  ·rw [a2 hn,decide_eq_false hn];simp;split <;> grind
 ·rw [W_merge,h.wc,hk.wc]
  by_cases hn:t.2 < 0
  ·rw [a1 hn,decide_eq_true hn];simp only [if_true];grind
  ·rw [a2 hn,decide_eq_false hn];simp;grind
 ·haveI:=h.br;haveI:=hk.fq
  refine (inferInstance:Br (x + t.2 * c.q) _).mono ?_
  simp only [List.length_append,List.length_singleton,Nat.add_mul,Nat.one_mul];omega
theorem box_ok {B F:Nat} {s:Sc} (hs:SB B s) {f:Af} (hf:FL F (s.q.g.inp + s.q.g.us.length) f):∀ n,n≤f.ts.length→∀ x l,boxN s f n = some (x,l)→BoxOk s B F f (f.ts.take n) x l
 | 0,_,x,l,h=>by
  simp only [boxN,List.take_zero,List.foldl_nil,Option.some.injEq,Prod.mk.injEq] at h
  obtain ⟨rfl,rfl⟩:=h
  refine ⟨⟨fun m hm=>by simp at hm,trivial,fun m hm=>by simp at hm,by simp⟩,fun w=>rfl,?_,hf.cb.mono (by omega)⟩
  show (0:Rat) = _
  grind
 | n + 1,hn,x,l,h=>by
  obtain ⟨t,ht⟩:∃ t,f.ts[n]? = some t:=⟨_,List.getElem?_eq_getElem (by omega)⟩
  have htm:=List.mem_of_getElem? ht
  rw [boxN_succ ht] at h
  rw [take_snoc ht]
  cases ho:boxN s f n with
  | none=>rw [ho] at h;simp [boxT] at h
  | some a=>
   obtain ⟨x0,l0⟩:=a
   rw [ho] at h
   have ih:=box_ok hs hf n (by omega) x0 l0 ho
   unfold boxT at h
   simp only at h
   cases hbn:bndM s t.1 (decide (t.2 < 0)) with
   | none=>rw [hbn] at h;simp at h
   | some a=>
    obtain ⟨c,m⟩:=a
    rw [hbn] at h
    simp only [Option.some.injEq,Prod.mk.injEq] at h
    obtain ⟨rfl,rfl⟩:=h
    exact box_step hs (hf.var t htm) (hf.bd t htm) ih hbn
end Rc
set_option linter.unusedSimpArgs false
set_option linter.unusedVariables false
namespace Rc
open Go Go.RowKit
end Rc
set_option linter.unusedSimpArgs false
set_option linter.unusedVariables false
namespace Rc
open Go Go.RowKit
end Rc
set_option linter.unusedSimpArgs false
set_option linter.unusedVariables false
namespace Rc
open Go Go.RowKit
theorem SOk.sb {s:Sc} (h:SOk s):SB 40001 s:=⟨h.q,h.d,h.pl,h.B,by have:=h.ll;omega⟩
theorem af_ext {f g:Af} (h1:f.ts = g.ts) (h2:f.c = g.c):f = g:=by cases f;cases g;simp at *;exact ⟨h1,h2⟩
theorem sum_coB {B:Nat} {s:Sc} (hs:SB B s) {v:Nat}:∀ (l:List Mu) (a:Af),CanT a.ts→CanT (l.foldl (fun a m=>fAdd a (fSc (formM s m.r).1 m.c.q)) a).ts∧co (l.foldl (fun a m=>fAdd a (fSc (formM s m.r).1 m.c.q)) a).ts v = co a.ts v + W (coR s v) l
 | [],a,h=>⟨h,by simp only [List.foldl_nil,W];grind⟩
 | m :: l,a,h=>by
  have hc:=(formM_fl (r:=m.r) hs.q hs.d hs.B).can
  obtain ⟨i1,i2⟩:=sum_coB hs (v:=v) l (fAdd a (fSc (formM s m.r).1 m.c.q)) (sumT_can h)
  refine ⟨i1,?_⟩
  rw [List.foldl_cons,i2,co_add h (can_sc hc),co_fsc hc]
  simp only [W,coR];grind
def DerOf (s:Sc) (f:Af) (x:Rat) (l:List Mu):Prop:=sumM s l = fSub f (fN x)
theorem der_of {B:Nat} {s:Sc} (hs:SB B s) {f:Af} {x:Rat} {l:List Mu} (hf:CanT f.ts) (h1:∀ w,W (coR s w) l = co f.ts w) (h2:W (rowC s) l = f.c - x):DerOf s f x l:=by
 refine af_ext (co_ext (sum_coB hs (v:=0) l fZ trivial).1 (can_sub hf) (fun w=>?_)) ?_
 ·have:=(sum_coB hs (v:=w) l fZ trivial).2
  rw [show (sumM s l).ts = (l.foldl (fun a m=>fAdd a (fSc (formM s m.r).1 m.c.q)) fZ).ts from rfl,this,h1,co_sub hf (can_n _),co_n]
  show (0:Rat) + _ = _
  grind
 ·rw [sumM_c,h2]
  show _ = f.c + x * ((-1:Int):Rat)
  rw [m1];grind
theorem boxO_all {B F:Nat} {s:Sc} (hs:SB B s) {f:Af} (hf:FL F (s.q.g.inp + s.q.g.us.length) f) {x:Rat} {l:List Mu} (h:boxO s f = some (x,l)):BoxOk s B F f f.ts x l:=by
 have:=box_ok hs hf f.ts.length (Nat.le_refl _) x l h
 rwa [List.take_length] at this
theorem FL.len7 {F:Nat} {s:Sc} (hq:QOk s.q) {f:Af} (hf:FL F (s.q.g.inp + s.q.g.us.length) f):f.ts.length≤7:=by
 have:=hq.g.i3;have:=hq.g.u4
 have:=(hf.fm (by omega)).len;have:=hq.g.i3;have:=hq.g.u4;omega
structure Bnd (s:Sc) (B F:Nat) (f:Af) (x:Rat) (l:List Mu):Prop where
 der:DerOk s (7 * (8 * B + 2 * F + 40)) 14 l
 sum:DerOf s f x l
 br:Br x (F + 7 * (B + F + 210))
theorem box_bnd {B F:Nat} {s:Sc} (hs:SB B s) {f:Af} (hf:FL F (s.q.g.inp + s.q.g.us.length) f) {x:Rat} {l:List Mu} (h:boxO s f = some (x,l)):Bnd s B F f x l:=by
 have h1:=boxO_all hs hf h
 have h7:=hf.len7 hs.q
 have h8:=Nat.mul_le_mul_right (8 * B + 2 * F + 40) h7
 have h9:=Nat.mul_le_mul_right (B + F + 210) h7
 exact ⟨⟨h1.der.ok,h1.der.can,h1.der.bd.mono h8,Nat.le_trans h1.der.len (by omega)⟩,der_of hs hf.can (fun w=>by rw [h1.co w,coS_co hf.can]) h1.wc,h1.br.mono (by omega)⟩
theorem boxD_br {B F:Nat} {s:Sc} (hs:SB B s) {f:Af} (hf:FL F (s.q.g.inp + s.q.g.us.length) f):Br (boxD s f).1 (F + 7 * (B + F + 210)):=by
 cases h:boxO s f with
 | none=>rw [boxD_none h];exact Br.zero.mono (Nat.zero_le _)
 | some a=>obtain ⟨x,l⟩:=a;rw [boxD_some h];exact (box_bnd hs hf h).br
theorem boxD_der {B F:Nat} {s:Sc} (hs:SB B s) {f:Af} (hf:FL F (s.q.g.inp + s.q.g.us.length) f):DerOk s (7 * (8 * B + 2 * F + 40)) 14 (boxD s f).2.1:=by
 cases h:boxO s f with
 | none=>rw [boxD_none h];exact ⟨fun m hm=>by simp at hm,trivial,fun m hm=>by simp at hm,by simp⟩
 | some a=>obtain ⟨x,l⟩:=a;rw [boxD_some h];exact (box_bnd hs hf h).der
theorem boxD_sum {B F:Nat} {s:Sc} (hs:SB B s) {f:Af} (hf:FL F (s.q.g.inp + s.q.g.us.length) f) (h:(boxD s f).2.2 = true):DerOf s f (boxD s f).1 (boxD s f).2.1:=by
 cases ho:boxO s f with
 | none=>rw [boxD_none ho] at h;simp at h
 | some a=>obtain ⟨x,l⟩:=a;rw [boxD_some ho];exact (box_bnd hs hf ho).sum
def wgB (inp v:Nat):Nat:=if v < inp then 204 else KB (v - inp) + 4
def wB (inp:Nat):Nat→Nat
 | 0=>0
 | n + 1=>wB inp n + wgB inp n
theorem wB_mono (inp:Nat) {a b:Nat} (h:a≤b):wB inp a≤wB inp b:=by
 induction b with
 | zero=>
      have:a = 0:=by omega
      subst this;exact Nat.le_refl _
 | succ b ih=>
  by_cases e:a = b + 1
  ·subst e;exact Nat.le_refl _
  ·have:=ih (by omega);simp only [wB];omega
theorem wB_inp (inp:Nat):∀ n,n≤inp→wB inp n = 204 * n
 | 0,_=>rfl
 | n + 1,h=>by have:=wB_inp inp n (by omega);simp only [wB,wgB,this];rw [if_pos (by omega)];omega
theorem wB_unit (inp:Nat):∀ j,wB inp (inp + j) + 5000 = 204 * inp + 4 * j + 5000 * 2 ^ j
 | 0=>by
  have:=wB_inp inp inp (Nat.le_refl _)
  show wB inp inp + 5000 = _
  omega
 | j + 1=>by
  have:=wB_unit inp j
  show wB inp (inp + j) + wgB inp (inp + j) + 5000 = _
  unfold wgB KB
  rw [if_neg (by omega),show inp + j - inp = j by omega,Nat.pow_succ]
  omega
theorem bnd_hb {s:Sc} (hs:SOk s) {v:Nat} (hv:v < s.q.g.inp + s.q.g.us.length) {up:Bool} {b:Qr} {l:List Mu} (h:bndM s v up = some (b,l)):Hb b.q (wgB s.q.g.inp v - 4):=by
 have lvh:∀ {n:Nat} {m:Lm},s.lems[n - 1]? = some m→m.unit = ((v - s.q.g.inp:Nat):Int)→Hb (lvr s.lems n).q (KB (v - s.q.g.inp)):=fun {n m} hm hu=>by
  rw [lvr_get hm]
  have:=(hs.l m (List.mem_of_getElem? hm)).hb
  rw [hu] at this;exact this
 unfold bndM at h
 unfold wgB
 split at h
 ·rename_i hi
  simp only [Option.some.injEq,Prod.mk.injEq] at h
  obtain ⟨rfl,rfl⟩:=h
  rw [if_pos hi,qOf_q]
  exact (inp_ok hs.sb hi up s.path.length (Nat.le_refl _)).hb
 ·rename_i hi
  rw [if_neg hi,Nat.add_sub_cancel]
  split at h
  ·unfold highM at h
   split at h
   ·cases h;rw [qZero_q];exact Hb.z
   ·split at h
    ·cases h
    ·rename_i hh
     obtain ⟨z,hz,zu,_⟩:=best_hi hh
     split at h
     ·simp only [Option.some.injEq,Prod.mk.injEq] at h
      rw [← h.1];exact lvh hz zu
     ·split at h
      ·cases h
      ·simp only [Option.some.injEq,Prod.mk.injEq] at h
       rw [← h.1];exact lvh hz zu
  ·simp only [Option.some.injEq] at h
   unfold lowM at h
   split at h
   ·rename_i hl
    obtain ⟨y,hy,yu,_⟩:=best_lo hl.1
    simp only [Prod.mk.injEq] at h
    rw [← h.1];exact lvh hy yu
   ·simp only [Prod.mk.injEq] at h
    rw [← h.1,qZero_q];exact Hb.z
def lastV (ts:List Tm) (n:Nat):Nat:=match n with | 0=>0 | k + 1=>match ts[k]? with | some t=>t.1 + 1 | none=>0
theorem box_hb {s:Sc} (hs:SOk s) {f:Af} {m:Nat} (hm:m≤s.q.g.inp + s.q.g.us.length) (hf:FOk 3 m f):∀ n,n≤f.ts.length→∀ x l,boxN s f n = some (x,l)→Hb x (4 + wB s.q.g.inp (lastV f.ts n))
 | 0,_,x,l,h=>by
  simp only [boxN,List.take_zero,List.foldl_nil,Option.some.injEq,Prod.mk.injEq] at h
  obtain ⟨rfl,rfl⟩:=h
  exact hf.cb.mono (by omega)
 | n + 1,hn,x,l,h=>by
  obtain ⟨t,ht⟩:∃ t,f.ts[n]? = some t:=⟨_,List.getElem?_eq_getElem (by omega)⟩
  have htm:=List.mem_of_getElem? ht
  rw [boxN_succ ht] at h
  cases ho:boxN s f n with
  | none=>rw [ho] at h;simp [boxT] at h
  | some a=>
   obtain ⟨x0,l0⟩:=a
   rw [ho] at h
   have ih:=box_hb hs hm hf n (by omega) x0 l0 ho
   unfold boxT at h
   simp only at h
   cases hbn:bndM s t.1 (decide (t.2 < 0)) with
   | none=>rw [hbn] at h;simp at h
   | some a=>
    obtain ⟨c,k⟩:=a
    rw [hbn] at h
    simp only [Option.some.injEq,Prod.mk.injEq] at h
    obtain ⟨rfl,rfl⟩:=h
    have hv:=hf.var t htm
    haveI:=ih
    haveI:=bnd_hb hs (Nat.lt_of_lt_of_le hv hm) hbn
    haveI:=hf.bd t htm
    have hw:lastV f.ts n≤t.1:=by
     cases n with
     | zero=>exact Nat.zero_le _
     | succ k=>
      obtain ⟨y,hy⟩:∃ y,f.ts[k]? = some y:=⟨_,List.getElem?_eq_getElem (by omega)⟩
      simp only [lastV,hy]
      exact hf.can.prev (by omega) ht hy
    have h1:=wB_mono s.q.g.inp hw
    have h2:4≤wgB s.q.g.inp t.1:=by unfold wgB;split <;> omega
    have h3:lastV f.ts (n + 1) = t.1 + 1:=by simp only [lastV,ht]
    rw [h3]
    refine (inferInstance:Hb (x0 + t.2 * c.q) _).mono ?_
    simp only [wB];omega
theorem boxD_ok:DomOk boxD:=by
 intro s hs j f hj hf hb
 cases ho:boxO s f with
 | none=>rw [boxD_none ho] at hb;simp at hb
 | some a=>
  obtain ⟨x,l⟩:=a
  rw [boxD_some ho]
  have h:=box_hb hs (m:=s.q.g.inp + j) (by omega) hf f.ts.length (Nat.le_refl _) x l ho
  refine h.mono ?_
  have h1:lastV f.ts f.ts.length≤s.q.g.inp + j:=by
   unfold lastV
   split
   ·exact Nat.zero_le _
   ·rename_i k hk
    obtain ⟨t,ht⟩:∃ t,f.ts[k]? = some t:=⟨_,List.getElem?_eq_getElem (by omega)⟩
    rw [ht]
    exact hf.var t (List.mem_of_getElem? ht)
  have h2:=wB_mono s.q.g.inp h1
  have h3:=wB_unit s.q.g.inp j
  have h4:=hs.q.g.i3;have h5:=hs.q.g.u4
  unfold KB
  have:=Nat.one_le_two_pow (n:=j)
  omega
end Rc
set_option linter.unusedSimpArgs false
set_option linter.unusedVariables false
namespace Rc
open Go Go.RowKit
theorem inpS_tight {up:Bool} {i k:Nat} {b:Rat × Rw} {d:Dc}:if up = true then (inpS up i b k d).1≤b.1 else b.1≤(inpS up i b k d).1:=by
 unfold inpS
 cases up
 ·simp only [Bool.false_eq_true,if_false]
  split
  ·rename_i h;exact Rat.le_of_lt h.2.2
  ·exact Rat.le_refl
 ·simp only [if_true]
  split
  ·rename_i h;exact Rat.le_of_lt h.2.2
  ·exact Rat.le_refl
theorem inpN_tight {s:Sc} {i:Nat} {up:Bool} {n:Nat}:∀ k,n + k≤s.path.length→if up = true then (inpN s i up (n + k)).1≤(inpN s i up n).1 else (inpN s i up n).1≤(inpN s i up (n + k)).1
 | 0,_=>by cases up <;> exact Rat.le_refl
 | k + 1,h=>by
  have ih:=inpN_tight (s:=s) (i:=i) (up:=up) (n:=n) k (by omega)
  obtain ⟨d,hd⟩:∃ d,s.path[n + k]? = some d:=⟨_,List.getElem?_eq_getElem (by omega)⟩
  have e:inpN s i up (n + (k + 1)) = inpS up i (inpN s i up (n + k)) (n + k) d:=inpN_succ hd
  rw [e]
  have h2:=inpS_tight (up:=up) (i:=i) (k:=n + k) (b:=inpN s i up (n + k)) (d:=d)
  cases up
  ·simp only [Bool.false_eq_true,if_false] at *;exact Rat.le_trans ih h2
  ·simp only [if_true] at *;exact Rat.le_trans h2 ih
@[reducible] def moreS (s:Sc) (e:List Dc) (r:List Lm):Sc:=⟨s.q,s.path ++ e,s.lems ++ r⟩
section
variable {s:Sc} {e:List Dc} {r:List Lm}
theorem inpN_more {i:Nat} {up:Bool}:∀ n,n≤s.path.length→inpN (moreS s e r) i up n = inpN s i up n
 | 0,_=>rfl
 | n + 1,h=>by
  obtain ⟨d,hd⟩:∃ d,s.path[n]? = some d:=⟨_,List.getElem?_eq_getElem (by omega)⟩
  have hd2:(moreS s e r).path[n]? = some d:=by show (s.path ++ e)[n]? = _;rw [List.getElem?_append_left (by omega)];exact hd
  rw [inpN_succ hd,inpN_succ hd2,inpN_more n (by omega)]
theorem inp_more {i:Nat} {up:Bool}:if up = true then (inpM (moreS s e r) i up).1≤(inpM s i up).1 else (inpM s i up).1≤(inpM (moreS s e r) i up).1:=by
 have hl:(moreS s e r).path.length = s.path.length + e.length:=by show (s.path ++ e).length = _;rw [List.length_append]
 have:=inpN_tight (s:=moreS s e r) (i:=i) (up:=up) (n:=s.path.length) e.length (by omega)
 rw [inpN_more s.path.length (Nat.le_refl _)] at this
 unfold inpM
 rw [hl];exact this
theorem dec_more {k:Nat} {j:Int} (h:decM s.path k j = true):decM (moreS s e r).path k j = true:=by
 show decM (s.path ++ e) k j = true
 unfold decM at *
 rw [List.any_append,h];rfl
theorem low_more {j:Nat}:(lowM s j).1.q≤(lowM (moreS s e r) j).1.q:=by
 obtain ⟨b1,_⟩:=best_more (l:=s.lems) (r:=r) (u:=(j:Int))
 have hr:∀ {l:List Lm} {u:Int},(best l u).1≠0→(lvr l (best l u).1).q = lv l (best l u).1:=fun {l u} h=>by
  obtain ⟨m,hm,_⟩:=best_lo h;rw [lvr_get hm,lv_get hm]
 unfold lowM
 by_cases h:bLo s j≠0∧0 < lv s.lems (bLo s j)
 ·obtain ⟨c1,c2⟩:=b1 h.1
  have h2:bLo (moreS s e r) j≠0∧0 < lv (moreS s e r).lems (bLo (moreS s e r) j):=⟨c1,by have h3:=h.2;have c2:lv s.lems (bLo s j)≤lv (moreS s e r).lems (bLo (moreS s e r) j):=c2;grind⟩
  rw [if_pos h,if_pos h2]
  simp only []
  rw [hr h.1,hr h2.1];exact c2
 ·rw [if_neg h]
  simp only [qZero_q]
  split
  ·rename_i h2
   simp only []
   rw [hr h2.1];exact Rat.le_of_lt h2.2
  ·simp only [qZero_q];exact Rat.le_refl
theorem high_more {j:Nat} {b:Qr} {l:List Mu} (h:highM s j = some (b,l)):∃ b' l',highM (moreS s e r) j = some (b',l')∧b'.q≤b.q:=by
 obtain ⟨b1,b2⟩:=best_more (l:=s.lems) (r:=r) (u:=(j:Int))
 have hr:∀ {l:List Lm} {u:Int},(best l u).2≠0→(lvr l (best l u).2).q = lv l (best l u).2:=fun {l u} h=>by
  obtain ⟨m,hm,_⟩:=best_hi h;rw [lvr_get hm,lv_get hm]
 by_cases hoff':decF (moreS s e r) j = true ∨ (bHi (moreS s e r) j≠0∧lv (moreS s e r).lems (bHi (moreS s e r) j)≤0)
 ·refine ⟨qZero,_,by unfold highM;rw [if_pos hoff'],?_⟩
  rw [qZero_q]
  unfold highM at h
  split at h
  ·cases h;rw [qZero_q];exact Rat.le_refl
  ·rename_i hoff
   split at h
   ·cases h
   ·rename_i hh
    have hpos:0≤lv s.lems (bHi s j):=Rat.le_of_lt (Rat.not_le.1 (fun e=>hoff (.inr ⟨hh,e⟩)))
    split at h
    ·simp only [Option.some.injEq,Prod.mk.injEq] at h;rw [← h.1,hr hh];exact hpos
    ·split at h
     ·cases h
     ·simp only [Option.some.injEq,Prod.mk.injEq] at h;rw [← h.1,hr hh];exact hpos
 ·have hoff:¬ (decF s j = true ∨ (bHi s j≠0∧lv s.lems (bHi s j)≤0)):=by
   rintro (q | ⟨q1,q2⟩)
   ·exact hoff' (.inl (dec_more q))
   ·obtain ⟨c1,c2⟩:=b2 q1
    exact hoff' (.inr ⟨c1,Rat.le_trans c2 q2⟩)
  unfold highM at h
  rw [if_neg hoff] at h
  split at h
  ·cases h
  ·rename_i hh
   obtain ⟨c1,c2⟩:=b2 hh
   have hb:b = lvr s.lems (bHi s j):=by
    split at h
    ·simp only [Option.some.injEq,Prod.mk.injEq] at h;exact h.1.symm
    ·split at h
     ·cases h
     ·simp only [Option.some.injEq,Prod.mk.injEq] at h;exact h.1.symm
   have hex:decO s j = true ∨ bLo s j≠0:=by
    split at h
    ·rename_i hon;exact hon.imp id (fun q=>q.1)
    ·split at h
     ·cases h
     ·rename_i hl;exact .inr hl
   have hle:(lvr (moreS s e r).lems (bHi (moreS s e r) j)).q≤b.q:=by rw [hb,hr hh,hr c1];exact c2
   unfold highM
   rw [if_neg hoff',if_neg c1]
   by_cases hon':decO (moreS s e r) j = true ∨ (bLo (moreS s e r) j≠0∧0≤lv (moreS s e r).lems (bLo (moreS s e r) j))
   ·rw [if_pos hon'];exact ⟨_,_,rfl,hle⟩
   ·rw [if_neg hon']
    have hlo':bLo (moreS s e r) j≠0:=by
     rcases hex with q | q
     ·exact absurd (.inl (dec_more q)) hon'
     ·exact (b1 q).1
    rw [if_neg hlo'];exact ⟨_,_,rfl,hle⟩
theorem bnd_more {v:Nat} {up:Bool} {b:Qr} {l:List Mu} (h:bndM s v up = some (b,l)):∃ b' l',bndM (moreS s e r) v up = some (b',l')∧if up = true then b'.q≤b.q else b.q≤b'.q:=by
 unfold bndM at *
 split at h
 ·rename_i hi
  simp only [Option.some.injEq,Prod.mk.injEq] at h
  have hi2:v < (moreS s e r).q.g.inp:=hi
  rw [if_pos hi2]
  refine ⟨_,_,rfl,?_⟩
  rw [← h.1,qOf_q,qOf_q]
  exact inp_more
 ·rename_i hi
  have hi2:¬ v < (moreS s e r).q.g.inp:=hi
  rw [if_neg hi2]
  split at h
  ·rename_i hu
   rw [if_pos hu]
   subst hu
   exact high_more h
  ·rename_i hu
   rw [if_neg hu]
   simp only [Option.some.injEq] at h
   refine ⟨_,_,rfl,?_⟩
   rw [if_neg hu]
   have:b = (lowM s (v - s.q.g.inp)).1:=by rw [h]
   rw [this];exact low_more
theorem box_more {f:Af}:∀ n,n≤f.ts.length→∀ x l,boxN s f n = some (x,l)→∃ x' l',boxN (moreS s e r) f n = some (x',l')∧x≤x'
 | 0,_,x,l,h=>by
  simp only [boxN,List.take_zero,List.foldl_nil,Option.some.injEq,Prod.mk.injEq] at h
  exact ⟨f.c,[],rfl,by rw [h.1];exact Rat.le_refl⟩
 | n + 1,hn,x,l,h=>by
  obtain ⟨t,ht⟩:∃ t,f.ts[n]? = some t:=⟨_,List.getElem?_eq_getElem (by omega)⟩
  rw [boxN_succ ht] at h ⊢
  cases ho:boxN s f n with
  | none=>rw [ho] at h;simp [boxT] at h
  | some a=>
   obtain ⟨x0,l0⟩:=a
   rw [ho] at h
   obtain ⟨x1,l1,h1,h2⟩:=box_more n (by omega) x0 l0 ho
   rw [h1]
   unfold boxT at h ⊢
   simp only at h ⊢
   cases hbn:bndM s t.1 (decide (t.2 < 0)) with
   | none=>rw [hbn] at h;simp at h
   | some a=>
    obtain ⟨c,k⟩:=a
    rw [hbn] at h
    simp only [Option.some.injEq,Prod.mk.injEq] at h
    obtain ⟨c',k',h3,h4⟩:=bnd_more (e:=e) (r:=r) hbn
    rw [h3]
    refine ⟨_,_,rfl,?_⟩
    rw [← h.1]
    have key:t.2 * c.q≤t.2 * c'.q:=by
     by_cases hneg:t.2 < 0
     ·rw [decide_eq_true hneg] at h4
      have h4:c'.q≤c.q:=h4
      have:0≤(-t.2) * (c.q - c'.q):=Rat.mul_nonneg (by grind) (by grind)
      grind
     ·rw [decide_eq_false hneg] at h4
      have h4:c.q≤c'.q:=h4
      have:0≤t.2 * (c'.q - c.q):=Rat.mul_nonneg (by grind) (by grind)
      grind
    grind
end
structure DomD (d:Dom):Prop where
 ok:DomOk d
 der:∀ s:Sc,SOk s→∀ f:Af,FOk 3 (s.q.g.inp + s.q.g.us.length) f→DerOk s 3000000 14 (d s f).2.1
 sum:∀ s:Sc,SOk s→∀ f:Af,FOk 3 (s.q.g.inp + s.q.g.us.length) f→(d s f).2.2 = true→DerOf s f (d s f).1 (d s f).2.1
theorem boxD_d:DomD boxD:=⟨boxD_ok,fun s hs f hf=>by
  have:=boxD_der hs.sb hf.fl
  exact ⟨this.ok,this.can,this.bd.mono (by omega),this.len⟩,fun s hs f hf h=>boxD_sum hs.sb hf.fl h⟩
theorem der_sideD {d:Dom} (hd:DomD d) {s:Sc} (hs:SOk s) {j:Nat} {up:Bool} {p:Af} (hp:s.q.g.us[j]? = some p) {x:Rat} (hx:Hb x (KB j))
  (hb:(d s (if up = true then negF p else p)).2.2 = true) (hle:if up = true then -(d s (negF p)).1≤x else x≤(d s p).1):DerL s ⟨(j:Int),up,qOf x,(d s (if up = true then negF p else p)).2.1⟩:=by
 have hj:=(List.getElem?_eq_some_iff.1 hp).1
 have hpo:=unit_fok hs.q hp
 have hfo:FOk 3 (s.q.g.inp + s.q.g.us.length) (if up = true then negF p else p):=by
  split
  ·exact hpo.neg
  ·exact hpo
 have hdr:=hd.der s hs _ hfo
 have hsm:=hd.sum s hs _ hfo hb
 refine ⟨new_ok (f:=p) hs hj hx,hdr.can,hdr.bd,hdr.len,hdr.ok,fun q hq=>?_⟩
 have:q = p:=by
  have e:s.q.g.us[j]? = some q:=hq
  rw [hp] at e;exact (Option.some.inj e).symm
 subst this
 have hpc:=hpo.can
 have hsm:sumM s (d s (if up = true then negF q else q)).2.1 = _:=hsm
 show (fSub (lemF q _) (sumM s (d s (if up = true then negF q else q)).2.1)).ts = []∧_
 rw [hsm]
 unfold lemF
 cases up
 ·simp only [Bool.false_eq_true,if_false] at *
  rw [qOf_q]
  refine ⟨co_nil (can_sub (can_sub hpc)) (fun v=>?_),?_⟩
  ·rw [co_sub (can_sub hpc) (can_sub hpc),co_sub hpc (can_n _),co_sub hpc (can_n _),co_n,co_n];grind
  ·show 0≤(q.c + x * ((-1:Int):Rat)) + (q.c + (d s q).1 * ((-1:Int):Rat)) * ((-1:Int):Rat)
   rw [m1];grind
 ·simp only [if_true] at *
  rw [qOf_q]
  refine ⟨co_nil (can_sub (can_sc (can_sub hpc))) (fun v=>?_),?_⟩
  ·rw [co_sub (f:=fSc (fSub q (fN x)) ((-1:Int):Rat)) (can_sc (can_sub hpc)) (can_sub (can_sc hpc)),co_fsc (can_sub hpc),co_sub hpc (can_n _),co_n,co_sub (f:=negF q) (can_sc hpc) (can_n _),co_fsc hpc,co_n,m1];grind
  ·show 0≤(q.c + x * ((-1:Int):Rat)) * ((-1:Int):Rat) + (q.c * ((-1:Int):Rat) + (d s (negF q)).1 * ((-1:Int):Rat)) * ((-1:Int):Rat)
   rw [m1];grind
theorem side_derD {d:Dom} (hd:DomD d) {s:Sc} {l:List Lm} {bits:Int} (h0:0≤bits) (h4:bits≤4096) {j:Nat} {up:Bool} {p:Af} (hs:SOk (withL s l)) (hp:s.q.g.us[j]? = some p) (hA:DerA s l):DerA s (l ++ sideN d (withL s l) bits j up p):=by
 have hj:=(List.getElem?_eq_some_iff.1 hp).1
 have hK:=KB_le (j:=j) (by have:=hs.q.g.u4;have e:(withL s l).q = s.q:=rfl;rw [e] at this;omega)
 have hpo:=hs.q.g.us j p hp
 have hK1:5000≤KB j:=by unfold KB;have:=Nat.one_le_two_pow (n:=j);omega
 unfold sideN
 split
 ·rename_i hb
  rw [Bool.and_eq_true] at hb
  have hb1:=hb.1
  refine hA.snoc ?_
  unfold sideB at hb1
  cases up
  ·rw [if_neg (by decide)] at hb1
   have h1:Hb (d (withL s l) p).1 (KB j - 4200):=hd.ok _ hs j p hj hpo hb1
   exact der_sideD hd (up:=false) hs hp ((rndB_hb (up:=false) (bits:=bits) h1 (by omega)).mono (by omega)) hb1 (rndB_le h1 (by omega) h0 h4).1
  ·rw [if_pos rfl] at hb1
   haveI h1:Hb (d (withL s l) (negF p)).1 (KB j - 4200):=hd.ok _ hs j (negF p) hj hpo.neg hb1
   have h2:Hb (-(d (withL s l) (negF p)).1) (KB j - 4200):=Hb.neg
   exact der_sideD hd (up:=true) hs hp ((rndB_hb (up:=true) (bits:=bits) h2 (by omega)).mono (by omega)) hb1 (rndB_le h2 (by omega) h0 h4).2
 ·rw [List.append_nil];exact hA
theorem runN_derD {d:Dom} (hd:DomD d) {s:Sc} (hs:SOk s) (h80:s.lems.length≤80) {bits:Int} (h0:0≤bits) (h4:bits≤4096) (hA:DerA s s.lems):∀ n,n≤s.q.g.us.length→DerA s (Rc.runN d s bits n)
 | 0,_=>hA
 | n + 1,hn=>by
  obtain ⟨p,hp⟩:∃ p,s.q.g.us[n]? = some p:=⟨_,List.getElem?_eq_getElem (by omega)⟩
  have ih:=runN_derD hd hs h80 h0 h4 hA n (by omega)
  have h1:=runN_sok hd.ok hs h80 (bits:=bits) (n:=n) (by omega)
  have h2:=runN_ok hd.ok hs h80 bits n (by omega)
  have h3:=runA_ok hd.ok hs (bits:=bits) h1 hp
  have h4':=hs.q.g.u4
  have hAA:DerA s (runA d s bits (Rc.runN d s bits n) n p):=side_derD hd h0 h4 h1 hp ih
  rw [runN_get hp]
  exact side_derD hd h0 h4 (LOk.withL hs h3.1 (by omega)) hp hAA
theorem runM_derD {d:Dom} (hd:DomD d) {s:Sc} (hs:SOk s) (h80:s.lems.length≤80) {bits:Int} (h0:0≤bits) (h4:bits≤4096) (hA:DerA s s.lems):DerA (runM d s bits) (runM d s bits).lems:=runN_derD hd hs h80 h0 h4 hA _ (Nat.le_refl _)
theorem derA_pf {s:Sc} {l:List Lm} (h:DerA s l):∀ m∈l,m.pf.length≤14:=fun m hm=>by
 obtain ⟨i,hi⟩:=mem_get hm
 exact (h i m hi).len
def Full (s:Sc) (l:List Lm) (n:Nat):Prop:=∀ j,j < n→(best l (j:Int)).1≠0∧(best l (j:Int)).2≠0
theorem Full.more {s:Sc} {l:List Lm} {n:Nat} (h:Full s l n) (r:List Lm):Full s (l ++ r) n:=fun j hj=>by
 obtain ⟨h1,h2⟩:=h j hj
 obtain ⟨b1,b2⟩:=best_more (l:=l) (r:=r) (u:=(j:Int))
 exact ⟨(b1 h1).1,(b2 h2).1⟩
theorem bnd_full {s:Sc} {n v:Nat} (h:Full s s.lems n) (hv:v < s.q.g.inp + n) (up:Bool):∃ b l,bndM s v up = some (b,l):=by
 unfold bndM
 split
 ·exact ⟨_,_,rfl⟩
 ·split
  ·obtain ⟨h1,h2⟩:=h (v - s.q.g.inp) (by omega)
   unfold highM
   repeat' split
   all_goals first | exact ⟨_,_,rfl⟩ | (exfalso;contradiction)
  ·exact ⟨_,_,rfl⟩
theorem box_full {s:Sc} {m:Nat} (h:Full s s.lems m) {f:Af} (hv:∀ t∈f.ts,t.1 < s.q.g.inp + m):∀ n,n≤f.ts.length→∃ x l,boxN s f n = some (x,l)
 | 0,_=>⟨_,_,rfl⟩
 | n + 1,hn=>by
  obtain ⟨t,ht⟩:∃ t,f.ts[n]? = some t:=⟨_,List.getElem?_eq_getElem (by omega)⟩
  obtain ⟨x,l,h1⟩:=box_full h hv n (by omega)
  obtain ⟨b,k,h2⟩:=bnd_full h (hv t (List.mem_of_getElem? ht)) (decide (t.2 < 0))
  rw [boxN_succ ht,h1]
  unfold boxT
  simp only [h2]
  exact ⟨_,_,rfl⟩
theorem boxD_full {s:Sc} {m:Nat} (h:Full s s.lems m) {f:Af} (hv:∀ t∈f.ts,t.1 < s.q.g.inp + m):(boxD s f).2.2 = true:=by
 obtain ⟨x,l,h1⟩:=box_full h hv f.ts.length (Nat.le_refl _)
 rw [boxD_some (show boxO s f = some (x,l) from h1)]
def DomT (d:Dom):Prop:=∀ (s:Sc),SOk s→∀ (j:Nat),j≤s.q.g.us.length→Full s s.lems j→∀ f:Af,FOk 3 (s.q.g.inp + j) f→(d s f).2.2 = true
theorem boxD_t:DomT boxD:=fun s hs j hj h f hf=>boxD_full h hf.var
theorem side_full {d:Dom} {s:Sc} {bits:Int} {j:Nat} {up:Bool} {p:Af} (hb:sideB d s up p = true):if up = true then (best (s.lems ++ sideN d s bits j up p) (j:Int)).2≠0 else (best (s.lems ++ sideN d s bits j up p) (j:Int)).1≠0:=by
 cases hst:strong s.lems j up (sideV d s bits up p)
 ·have e:sideN d s bits j up p = []:=by unfold sideN;rw [hb,hst];rfl
  rw [e,List.append_nil]
  cases up
  ·unfold strong at hst
   simp at hst
   simp;exact hst.1
  ·unfold strong at hst
   simp at hst
   simp;exact hst.1
 ·have e:sideN d s bits j up p = [⟨(j:Int),up,qOf (sideV d s bits up p),sideL d s up p⟩]:=by unfold sideN;rw [hb,hst];rfl
  rw [e]
  have hm:(⟨(j:Int),up,qOf (sideV d s bits up p),sideL d s up p⟩:Lm)∈s.lems ++ [⟨(j:Int),up,qOf (sideV d s bits up p),sideL d s up p⟩]:=by simp
  obtain ⟨m1,m2⟩:=best_max hm rfl
  cases up
  ·simp only [Bool.false_eq_true,if_false];exact (m1 rfl).1
  ·simp only [if_true];exact (m2 rfl).1
theorem runN_full {d:Dom} (hd:DomOk d) (ht:DomT d) {s:Sc} (hs:SOk s) (h80:s.lems.length≤80) {bits:Int}:∀ n,n≤s.q.g.us.length→Full s (Rc.runN d s bits n) n
 | 0,_=>fun j hj=>by omega
 | n + 1,hn=>by
  obtain ⟨p,hp⟩:∃ p,s.q.g.us[n]? = some p:=⟨_,List.getElem?_eq_getElem (by omega)⟩
  have hpo:=hs.q.g.us n p hp
  have ih:=runN_full hd ht hs h80 (bits:=bits) n (by omega)
  have h1:=runN_sok hd hs h80 (bits:=bits) (n:=n) (by omega)
  have h2:=runN_ok hd hs h80 bits n (by omega)
  have h3:=runA_ok hd hs (bits:=bits) h1 hp
  have h4':=hs.q.g.u4
  have hs2:SOk (withL s (runA d s bits (Rc.runN d s bits n) n p)):=LOk.withL hs h3.1 (by omega)
  rw [runN_get hp]
  have t1:sideB d (withL s (Rc.runN d s bits n)) false p = true:=by
   unfold sideB;rw [if_neg (by decide)]
   exact ht _ h1 n (by show n≤s.q.g.us.length;omega) ih p hpo
  have f1:=side_full (bits:=bits) (j:=n) t1
  have ih2:Full s (runA d s bits (Rc.runN d s bits n) n p) n:=ih.more _
  have t2:sideB d (withL s (runA d s bits (Rc.runN d s bits n) n p)) true p = true:=by
   unfold sideB;rw [if_pos rfl]
   exact ht _ hs2 n (by show n≤s.q.g.us.length;omega) ih2 (negF p) hpo.neg
  have f2:=side_full (bits:=bits) (j:=n) t2
  intro j hj
  by_cases e:j = n
  ·subst e
   refine ⟨?_,by rw [if_pos rfl] at f2;exact f2⟩
   have g1:(best (runA d s bits (Rc.runN d s bits j) j p) (j:Int)).1≠0:=by rw [if_neg (by decide)] at f1;exact f1
   exact ((best_more (l:=runA d s bits (Rc.runN d s bits j) j p) (r:=sideN d (withL s (runA d s bits (Rc.runN d s bits j) j p)) bits j true p) (u:=(j:Int))).1 g1).1
  ·exact (ih2.more _) j (by omega)
theorem runM_full {d:Dom} (hd:DomOk d) (ht:DomT d) {s:Sc} (hs:SOk s) (h80:s.lems.length≤80) (bits:Int):Full s (runM d s bits).lems s.q.g.us.length:=runN_full hd ht hs h80 _ (Nat.le_refl _)
end Rc
set_option linter.unusedSimpArgs false
set_option linter.unusedVariables false
namespace Rc
open Go Go.RowKit
def boE:El Bool:=⟨fun b=>[Leaf.val (.bool b)],1,fun _=>rfl,fun _=>rfl⟩
@[reducible] def vwL (s:Sc):List Leaf:=[Leaf.val (.int .i64 (s.q.g.inp:Int)),afE.row s.q.g.us,afE.row s.q.g.os,ratE.row s.q.r.lo,ratE.row s.q.r.hi,afE.row s.q.r.rows,tmE.row s.q.goal.ts,Leaf.val (.bool (cneg s.q.goal.c)),natL (limbs (cnum s.q.goal.c)),natL (limbs (cden s.q.goal.c)),dcE.row s.path,lmE.row s.lems,boE.row (List.replicate s.path.length true)]
@[reducible] def vwV (s:Sc):V:=V.one (Leaf.rep (ptrRep (vwL s)))
theorem rep_get {n i:Nat} (h:i < n):(List.replicate n true)[i]? = some true:=by rw [List.getElem?_replicate,if_pos h]
theorem rep_snoc (n:Nat):List.replicate n true ++ [true] = List.replicate (n + 1) true:=by rw [← List.replicate_succ']
theorem lvr_q (l:List Lm) (n:Nat):(lvr l n).q = lv l n:=by
 unfold lvr lv;split <;> rename_i h
 ·rw [h]
 ·rw [h];exact qZero_q
theorem lvr_fq {B:Nat} {l:List Lm} (h:∀ m∈l,Fq m.v B) (n:Nat):Fq (lvr l n) B:=by
 unfold lvr;split
 ·rename_i m hm;exact h m (List.mem_of_getElem? hm)
 ·exact ⟨qZero_fit⟩
def highP (s:Sc) (j:Nat):Qr × List Mu × Bool:=match highM s j with | some (b,l)=>(b,l,true) | none=>(qZero,[],false)
def bndP (s:Sc) (v:Nat) (up:Bool):Qr × List Mu × Bool:=match bndM s v up with | some (b,l)=>(b,l,true) | none=>(qZero,[],false)
def hiOff (s:Sc) (j:Nat):Bool:=decF s j || (decide (bHi s j≠0) && decide (lv s.lems (bHi s j)≤0))
def hiOn (s:Sc) (j:Nat):Bool:=decO s j || (decide (bLo s j≠0) && decide (0≤lv s.lems (bLo s j)))
theorem hiOff_iff {s:Sc} {j:Nat}:hiOff s j = true↔(decF s j = true ∨ (bHi s j≠0∧lv s.lems (bHi s j)≤0)):=by
 unfold hiOff;rw [Bool.or_eq_true,Bool.and_eq_true,decide_eq_true_iff,decide_eq_true_iff]
theorem hiOn_iff {s:Sc} {j:Nat}:hiOn s j = true↔(decO s j = true ∨ (bLo s j≠0∧0≤lv s.lems (bLo s j))):=by
 unfold hiOn;rw [Bool.or_eq_true,Bool.and_eq_true,decide_eq_true_iff,decide_eq_true_iff]
section
variable {s:Sc} {j:Nat}
@[reducible] def offRow (s:Sc) (j:Nat):Rw:=⟨10,(j:Int),0,if decF s j = true then 0 else (bHi s j:Int)⟩
@[reducible] def onRow (s:Sc) (j:Nat):Rw:=⟨8,(j:Int),if decO s j = true then 0 else (bLo s j:Int),0⟩
theorem offRow_t (h:decF s j = true):offRow s j = ⟨10,(j:Int),0,0⟩:=by unfold offRow;rw [if_pos h]
theorem offRow_f (h:decF s j = false):offRow s j = ⟨10,(j:Int),0,(bHi s j:Int)⟩:=by unfold offRow;rw [if_neg (by rw [h];decide)]
theorem onRow_t (h:decO s j = true):onRow s j = ⟨8,(j:Int),0,0⟩:=by unfold onRow;rw [if_pos h]
theorem onRow_f (h:decO s j = false):onRow s j = ⟨8,(j:Int),(bLo s j:Int),0⟩:=by unfold onRow;rw [if_neg (by rw [h];decide)]
theorem highM_off (h:hiOff s j = true):highM s j = some (qZero,one1 (offRow s j)):=by
 unfold highM;rw [if_pos (hiOff_iff.1 h)]
theorem highM_n1 (h:hiOff s j = false) (h1:bHi s j = 0):highM s j = none:=by
 unfold highM;rw [if_neg (fun e=>by rw [hiOff_iff.2 e] at h;cases h),if_pos h1]
theorem highM_on (h:hiOff s j = false) (h1:bHi s j≠0) (h2:hiOn s j = true):highM s j = some (lvr s.lems (bHi s j),[⟨onRow s j,qOf ((1:Int):Rat)⟩,⟨⟨12,(j:Int),0,(bHi s j:Int)⟩,qOf ((1:Int):Rat)⟩]):=by
 unfold highM;rw [if_neg (fun e=>by rw [hiOff_iff.2 e] at h;cases h),if_neg h1,if_pos (hiOn_iff.1 h2)]
theorem highM_n2 (h:hiOff s j = false) (h1:bHi s j≠0) (h2:hiOn s j = false) (h3:bLo s j = 0):highM s j = none:=by
 unfold highM;rw [if_neg (fun e=>by rw [hiOff_iff.2 e] at h;cases h),if_neg h1,if_neg (fun e=>by rw [hiOn_iff.2 e] at h2;cases h2),if_pos h3]
theorem highM_tri (h:hiOff s j = false) (h1:bHi s j≠0) (h2:hiOn s j = false) (h3:bLo s j≠0):highM s j = some (lvr s.lems (bHi s j),[⟨⟨12,(j:Int),0,(bHi s j:Int)⟩,qOf ((lvr s.lems (bHi s j)).q * (((1:Int):Rat) / ((lvr s.lems (bHi s j)).q - (lvr s.lems (bLo s j)).q)))⟩,⟨⟨13,(j:Int),(bLo s j:Int),(bHi s j:Int)⟩,qOf (((1:Int):Rat) / ((lvr s.lems (bHi s j)).q - (lvr s.lems (bLo s j)).q))⟩]):=by
 rw [lvr_q,lvr_q]
 unfold highM;rw [if_neg (fun e=>by rw [hiOff_iff.2 e] at h;cases h),if_neg h1,if_neg (fun e=>by rw [hiOn_iff.2 e] at h2;cases h2),if_neg h3]
theorem highP_some {b:Qr} {l:List Mu} (h:highM s j = some (b,l)):highP s j = (b,l,true):=by unfold highP;rw [h]
theorem highP_none (h:highM s j = none):highP s j = (qZero,[],false):=by unfold highP;rw [h]
theorem tri_ne (h:hiOff s j = false) (h1:bHi s j≠0) (h2:hiOn s j = false) (h3:bLo s j≠0):(lvr s.lems (bHi s j)).q - (lvr s.lems (bLo s j)).q≠0:=by
 rw [lvr_q,lvr_q]
 have a1:¬ lv s.lems (bHi s j)≤0:=fun e=>by rw [hiOff_iff.2 (.inr ⟨h1,e⟩)] at h;cases h
 have a2:¬ 0≤lv s.lems (bLo s j):=fun e=>by rw [hiOn_iff.2 (.inr ⟨h3,e⟩)] at h2;cases h2
 grind
theorem bndP_in {v:Nat} {up:Bool} (h:v < s.q.g.inp):bndP s v up = (qOf (inpM s v up).1,one1 (inpM s v up).2,true):=by unfold bndP bndM;rw [if_pos h]
theorem bndP_up {v:Nat} (h:¬ v < s.q.g.inp):bndP s v true = highP s (v - s.q.g.inp):=by unfold bndP bndM highP;rw [if_neg h,if_pos rfl]
theorem bndP_lo {v:Nat} (h:¬ v < s.q.g.inp):bndP s v false = ((lowM s (v - s.q.g.inp)).1,(lowM s (v - s.q.g.inp)).2,true):=by unfold bndP bndM;rw [if_neg h,if_neg (by decide)]
theorem bndP_t {v:Nat} {up:Bool} (h:(bndP s v up).2.2 = true):bndM s v up = some ((bndP s v up).1,(bndP s v up).2.1):=by
 unfold bndP at *;split at h
 ·rename_i b l e;rw [e]
 ·cases h
theorem bndP_f {v:Nat} {up:Bool} (h:(bndP s v up).2.2 = false):bndM s v up = none:=by
 unfold bndP at *;split at h
 ·cases h
 ·rename_i e;rw [e]
theorem lowM_t (h:bLo s j≠0∧0 < lv s.lems (bLo s j)):lowM s j = (lvr s.lems (bLo s j),[⟨⟨6,(j:Int),0,0⟩,qOf ((1:Int):Rat)⟩,⟨⟨11,(j:Int),(bLo s j:Int),0⟩,qOf ((1:Int):Rat)⟩]):=if_pos h
theorem lowM_f (h:¬ (bLo s j≠0∧0 < lv s.lems (bLo s j))):lowM s j = (qZero,one1 ⟨5,(j:Int),0,0⟩):=if_neg h
end
theorem inpN_t {s:Sc} {i n:Nat} {up:Bool} {d:Dc} (hd:s.path[n]? = some d) (h:d.kind = (if up = true then 4 else 3)∧d.idx = i∧(if up = true then d.pt < (inpN s i up n).1 else (inpN s i up n).1 < d.pt)):inpN s i up (n + 1) = (d.pt,⟨4,(n:Int),0,0⟩):=by rw [inpN_succ hd];exact if_pos h
theorem inpN_f {s:Sc} {i n:Nat} {up:Bool} {d:Dc} (hd:s.path[n]? = some d) (h:¬ (d.kind = (if up = true then 4 else 3)∧d.idx = i∧(if up = true then d.pt < (inpN s i up n).1 else (inpN s i up n).1 < d.pt))):inpN s i up (n + 1) = inpN s i up n:=by rw [inpN_succ hd];exact if_neg h
theorem inpN_hb {B:Nat} {s:Sc} (hs:SB B s) {i:Nat} (hi:i < s.q.g.inp) (up:Bool) {n:Nat} (hn:n≤s.path.length):Br (inpN s i up n).1 201:=(inp_ok hs hi up n hn).hb.br
@[reducible] def absM (c:Rat):Rat:=mx c (-c)
theorem absM_eq (c:Rat):absM c = rq false (cnum c) (cden c):=by
 obtain ⟨a1,a2⟩:=abs_cases c
 by_cases h:c < 0
 ·rw [a1 h];unfold absM mx;split <;> grind
 ·rw [a2 h];unfold absM mx;split <;> grind
def boxQ (s:Sc) (a:Option (Rat × List Mu)) (t:Tm):Option (Rat × List Mu):=
 match a with
 | none=>none
 | some (x,l)=>match bndM s t.1 (decide (t.2 < 0)) with
  | none=>none
  | some (b,m)=>some (x + t.2 * b.q,l ++ sclM (absM t.2) m)
def boxR (s:Sc) (f:Af) (n:Nat):Option (Rat × List Mu):=(f.ts.take n).foldl (boxQ s) (some (f.c,[]))
theorem boxR_succ {s:Sc} {f:Af} {n:Nat} {t:Tm} (h:f.ts[n]? = some t):boxR s f (n + 1) = boxQ s (boxR s f n) t:=by
 unfold boxR;rw [take_snoc h,List.foldl_append];rfl
theorem boxQ_coll {s:Sc} {a:Option (Rat × List Mu)} {t:Tm}:(boxQ s a t).map (fun p=>(p.1,collM p.2)) = boxT s (a.map fun p=>(p.1,collM p.2)) t:=by
 cases a with
 | none=>rfl
 | some p=>
  obtain ⟨x,l⟩:=p
  unfold boxQ boxT
  simp only [Option.map_some]
  cases bndM s t.1 (decide (t.2 < 0)) with
  | none=>rfl
  | some b=>simp only [Option.map_some];rw [coll_scl,absM_eq]
theorem boxR_coll {s:Sc} {f:Af} (n:Nat):(boxR s f n).map (fun p=>(p.1,collM p.2)) = boxN s f n:=by
 unfold boxR boxN
 have:∀ (ts:List Tm) (a:Option (Rat × List Mu)),(ts.foldl (boxQ s) a).map (fun p=>(p.1,collM p.2)) = ts.foldl (boxT s) (a.map fun p=>(p.1,collM p.2)):=by
  intro ts
  induction ts with
  | nil=>intro a;rfl
  | cons t ts ih=>intro a;rw [List.foldl_cons,List.foldl_cons,ih,boxQ_coll]
 exact this _ _
structure PlOk (B F n:Nat) (l:List Mu):Prop where
 len:l.length≤2 * n
 mb:MB (4 * B + F + 20) l
 cof:CofOk l
theorem abs_nn (c:Rat):0≤absM c:=by rw [absM_eq];exact abs_nonneg c
theorem absM_br {c:Rat} {B:Nat} (h:Br c B):Br (absM c) (B + 1):=by
 unfold absM mx;split
 ·exact h.mono (by omega)
 ·haveI:=h;exact (inferInstance:Br (-c) _).mono (by omega)
theorem scl_mem {c:Rat} {m:Mu} {l:List Mu} (h:m∈sclM c l):∃ x∈l,m = ⟨x.r,qOf (c * x.c.q)⟩:=by
 obtain ⟨x,hx,rfl⟩:=List.mem_map.1 h;exact ⟨x,hx,rfl⟩
theorem PlOk.next {B F n:Nat} {l:List Mu} (h:PlOk B F n l) {s:Sc} {m:List Mu} (hm:StepOk s (4 * B + 12) m) {c:Rat} (hc:Br c F):PlOk B F (n + 1) (l ++ sclM (absM c) m):=by
 refine ⟨?_,fun x hx=>?_,fun x hx=>?_⟩
 ·have h1:=h.len;have h2:=hm.len
  simp only [List.length_append,sclM,List.length_map];omega
 ·rcases List.mem_append.1 hx with hx | hx
  ·exact h.mb x hx
  ·obtain ⟨y,hy,rfl⟩:=scl_mem hx
   haveI:=absM_br hc;haveI:=hm.bd y hy
   exact (Fq.of (r:=absM c * y.c.q)).mono (by omega)
 ·rcases List.mem_append.1 hx with hx | hx
  ·exact h.cof x hx
  ·obtain ⟨y,hy,rfl⟩:=scl_mem hx
   show qOf _ = qOf (qOf _).q∧0≤(qOf _).q
   rw [qOf_q]
   exact ⟨rfl,Rat.mul_nonneg (abs_nn c) (Rat.le_of_lt (hm.pos y hy))⟩
theorem scl_take {c:Rat} {m:List Mu} {k:Nat} {x:Mu} (h:m[k]? = some x):sclM c (m.take k) ++ [⟨x.r,qOf (c * x.c.q)⟩] = sclM c (m.take (k + 1)):=by
 unfold sclM;rw [take_snoc h,List.map_append];rfl
theorem boxR_get {s:Sc} {f:Af} {n:Nat} {x:Rat} {l:List Mu} (h:boxR s f n = some (x,l)):boxN s f n = some (x,collM l):=by rw [← boxR_coll,h];rfl
theorem boxR_step {s:Sc} {f:Af} {n:Nat} {t:Tm} {x:Rat} {l:List Mu} (ht:f.ts[n]? = some t) (h:boxR s f n = some (x,l)) (hb:(bndP s t.1 (decide (t.2 < 0))).2.2 = true) :
  boxR s f (n + 1) = some (x + t.2 * (bndP s t.1 (decide (t.2 < 0))).1.q,l ++ sclM (absM t.2) (bndP s t.1 (decide (t.2 < 0))).2.1):=by
 rw [boxR_succ ht,h];unfold boxQ;simp only [bndP_t hb]
theorem boxR_stop {s:Sc} {f:Af} {n:Nat} {t:Tm} {x:Rat} {l:List Mu} (ht:f.ts[n]? = some t) (h:boxR s f n = some (x,l)) (hb:(bndP s t.1 (decide (t.2 < 0))).2.2 = false):boxD s f = (0,[],false):=by
 refine boxD_none (boxO_none (n:=n + 1) ?_)
 rw [boxN_succ ht,boxR_get h];unfold boxT;simp only [bndP_f hb]
theorem boxR_end {s:Sc} {f:Af} {x:Rat} {l:List Mu} (h:boxR s f f.ts.length = some (x,l)):boxD s f = (x,collM l,true):=boxD_some (boxR_get h)
theorem boxN_step {s:Sc} {f:Af} {n:Nat} {t:Tm} {x:Rat} {l:List Mu} (ht:f.ts[n]? = some t) (h:boxN s f n = some (x,l)) (hb:(bndP s t.1 (decide (t.2 < 0))).2.2 = true) :
  boxN s f (n + 1) = some (x + t.2 * (bndP s t.1 (decide (t.2 < 0))).1.q,mergeM l (bndP s t.1 (decide (t.2 < 0))).2.1 (rq false (cnum t.2) (cden t.2))):=by
 rw [boxN_succ ht,h];unfold boxT;simp only [bndP_t hb]
theorem boxN_stop {s:Sc} {f:Af} {n:Nat} {t:Tm} {x:Rat} {l:List Mu} (ht:f.ts[n]? = some t) (h:boxN s f n = some (x,l)) (hb:(bndP s t.1 (decide (t.2 < 0))).2.2 = false):boxD s f = (0,[],false):=by
 refine boxD_none (boxO_none (n:=n + 1) ?_)
 rw [boxN_succ ht,h];unfold boxT;simp only [bndP_f hb]
theorem inp_sg {up:Bool} {a b:Rat}:cmpq a b = (if up = true then (-1:Int) else 1)↔(if up = true then a < b else b < a):=by
 cases up
 ·simp only [Bool.false_eq_true,if_false];exact cmpq_gt1
 ·simp only [if_true];exact cmpq_lt1
theorem PlOk.start {B F:Nat}:PlOk B F 0 []:=⟨by simp,fun m hm=>by simp at hm,fun m hm=>by simp at hm⟩
@[reducible] def bdL (x:Rat) (l:List Mu) (b:Bool):List Leaf:=[Leaf.val (.bool (cneg x)),natL (limbs (cnum x)),natL (limbs (cden x)),muE.row l,Leaf.val (.bool b)]
@[reducible] def bdV (x:Rat) (l:List Mu) (b:Bool):V:=V.agg (bdL x l b)
theorem bdZ:D.agg [Leaf.val (.bool false),nilL,nilL,nilL,Leaf.val (.bool false)] = D.agg (bdL 0 [] false):=by
 unfold bdL;rw [cneg_nonneg Rat.le_refl,cnum_zero,cden_zero,limbs_zero];rfl
theorem inp_sg2 {up:Bool} {a b:Rat}:0 < (if up = true then (-1:Int) else 1) * cmpq a b↔(if up = true then a < b else b < a):=by
 cases up
 ·simp only [Bool.false_eq_true,if_false,Int.one_mul];exact cmpq_gt
 ·simp only [if_true]
  rw [← cmpq_lt];omega
theorem inp_rg {up:Bool} {a b:Rat}:-1≤(if up = true then (-1:Int) else 1) * cmpq a b∧(if up = true then (-1:Int) else 1) * cmpq a b≤1:=by
 have h:cmpq a b = -1 ∨ cmpq a b = 0 ∨ cmpq a b = 1:=by unfold cmpq;(repeat' split) <;> decide
 cases up
 ·simp only [Bool.false_eq_true,if_false,Int.one_mul];omega
 ·simp only [if_true];omega
theorem smallB_of {l:List Lm} (h:smallB l = true):l.length≤20∧∀ m∈l,Fq m.v 40001:=by
 unfold smallB at h
 rw [Bool.and_eq_true,decide_eq_true_iff] at h
 refine ⟨h.2,fun m hm=>?_⟩
 have h1:=List.all_eq_true.1 h.1 m hm
 unfold smallL at h1
 simp only [Bool.and_eq_true,decide_eq_true_iff] at h1
 exact ⟨⟨by omega,by omega⟩⟩
theorem sb_more {s:Sc} (hs:SOk s) (h8:s.lems.length≤80) {l:List Lm} (hl:l.length≤20) (hB:∀ m∈l,Fq m.v 40001):SB 40001 (withL s (s.lems ++ l)):=by
 refine ⟨hs.q,hs.d,hs.pl,fun m hm=>?_,?_⟩
 ·rcases List.mem_append.1 hm with h | h
  ·exact hs.B m h
  ·exact hB m h
 ·show (s.lems ++ l).length≤1000
  rw [List.length_append];omega
end Rc
set_option linter.unusedSimpArgs false
set_option linter.unusedVariables false
namespace Go.Proofs.YtmpkandbccallaaGreatDoor
open Go Go.RowKit Rc
set_option maxRecDepth 10000 in
theorem qsub (x:Qr) (r:Rat) (hr:x.q = r) (hfx:Fit 200000000000 x) (y:Qr) (s:Rat) (hs:y.q = s) (hfy:Fit 200000000000 y):Ctr Tryz.prog 151 [qV x,qV y] (R.one (qV (qOf (r - s)))):=by
 refine bd_ Tryz.func151 Tryz.ntmps151 rfl (fun w0 A0=>?_)
 haveI ixn:Bn (val x.n) 200000000000:=Bn.val x.hn hfx.n
 haveI ixd:Bn (val x.d) 200000000000:=Bn.val x.hd hfx.d
 haveI iyn:Bn (val y.n) 200000000000:=Bn.val y.hn hfy.n
 haveI iyd:Bn (val y.d) 200000000000:=Bn.val y.hd hfy.d
 haveI ir:Br r 200000000000:=hr ▸ Br.q hfx
 haveI is:Br s 200000000000:=hs ▸ Br.q hfy
 refine zc 20 rfl (tc_ fn44 rfl (qadd x (r) hr (hfx.mono (by omega)) (Qr.mk (!y.neg) y.n y.d y.hn y.hd) (-(s)) (qr_neg hs) (Fit.neg (hfy.mono (by omega)))) (zl 3 rfl ?_))
 exact r1_ hq_ rfl (by rw [Rat.sub_eq_add_neg] <;> rfl)
set_option maxRecDepth 10000 in
theorem qdiv (x:Qr) (r:Rat) (hr:x.q = r) (hfx:Fit 1000000000000 x) (y:Qr) (s:Rat) (hs:y.q = s) (hfy:Fit 1000000000000 y) (hs0:s≠0):Ctr Tryz.prog 150 [qV x,qV y] (R.tup [qV (qOf (r / s)),V.one (Leaf.val (.int .i64 0))]):=by
 refine bd_ Tryz.func150 Tryz.ntmps150 rfl (fun w0 A0=>?_)
 haveI ixn:Bn (val x.n) 1000000000000:=Bn.val x.hn hfx.n
 haveI ixd:Bn (val x.d) 1000000000000:=Bn.val x.hd hfx.d
 haveI iyn:Bn (val y.n) 1000000000000:=Bn.val y.hn hfy.n
 haveI iyd:Bn (val y.d) 1000000000000:=Bn.val y.hd hfy.d
 have hyn:val y.n≠0:=fun e=>hs0 (by rw [← hs];unfold Qr.q;rw [rq_eq_zero];exact e)
 refine zc 12 rfl (tc_ fn43 rfl (qsign y (s) hs (hfy.mono (by omega))) (tq_ rfl (eqF rfl (sg_ne hs0)) (zl 6 rfl (dr_ 0 [(16,2)] [2] (dz 4 rfl (kq_ rfl (Jq_neq_bool rfl rfl rfl un4 (d:=_) (rfl)) (dz 3 rfl (kc_ fn101 rfl (qunder y (hfy.mono (by omega))) ?_))))))))
 refine kc_ fn100 rfl (mul_w x.n x.hn (hfx.mono (by omega)).n (dl y.d) (small_dl y.hd) (len_dl hfy.d (by omega)) (val x.n) rfl (dn (val y.d)) (val_dl _)) (dz 1 rfl (kc_ fn101 rfl (qunder x (hfx.mono (by omega))) (dz 2 rfl (kc_ fn100 rfl (mul_w (dl x.d) (small_dl x.hd) (len_dl hfx.d (by omega)) y.n y.hn (hfy.mono (by omega)).n (dn (val x.d)) (val_dl _) (val y.n) rfl) ?_))))
 refine kc_ fn99 rfl (qquot (x.neg != y.neg) (limbs ((val x.n) * (dn (val y.d)))) (limbs ((dn (val x.d)) * (val y.n))) (small_limbs _) (small_limbs _) (Bn.use (by omega)) (Bn.use (by omega)) ((val x.n) * (dn (val y.d))) ((dn (val x.d)) * (val y.n)) (val_limbs _) (val_limbs _) (Nat.mul_ne_zero (dn_ne _) hyn)) (dz 2 rfl (DK_nil (za 1 rfl ?_)))
 exact r2_ hq_ rfl (by subst hr;subst hs;rw [rq_quo _ _ _ _ _ _ hyn] <;> rfl)
set_option maxRecDepth 10000 in
theorem zero_p (x:Rat) (h:x = 0):Ctr Tryz.prog 189 [V.agg (qL (x))] (R.one (V.one (Leaf.val (.bool true)))):=by
 refine bd_ Tryz.func189 Tryz.ntmps189 rfl (fun w0 A0=>?_)
 refine zc 11 rfl (is_ true rfl (by rw [h];rfl) (zl 3 rfl (tq_ rfl (jln rfl) (tq_ rfl (eqT rfl (by rw [h,cnum_zero,limbs_zero];rfl)) (zl 4 rfl (tq_ rfl (jln rfl) (tq_ rfl (eqT rfl (by rw [h,cden_zero,limbs_zero];rfl)) (zl 4 rfl ?_))))))))
 exact r1_ hq_ rfl rfl
set_option maxRecDepth 10000 in
theorem fits_i (q:Qu) (d:Dc) {b:Nat} (hd:DOk b q d) (hb:b≤1000000):Ctr Tryz.prog 144 [quV q,dcV d] (R.one (V.one (Leaf.val (.bool true)))):=by
 refine bd_ Tryz.func144 Tryz.ntmps144 rfl (fun w0 A0=>?_)
 obtain ⟨hk,hbt⟩:=hd
 haveI:=hbt.br
 have hkk:d.kind = 1 ∨ d.kind = 2 ∨ d.kind = 3 ∨ d.kind = 4:=by rcases hk with ⟨h,_⟩ | ⟨h,_⟩ <;> omega
 refine zc 18 rfl ?_
 by_cases h1:d.kind = 1
 ·refine tq_ rfl (eqT rfl) (zl 8 rfl ?_)
  have hp0:d.idx < q.g.us.length∧d.pt = 0:=by rcases hk with ⟨_,h⟩ | ⟨h,_⟩ <;> first | exact h | omega
  refine zc 3 rfl (tq_ rfl (geT rfl) (zl 6 rfl (tq_ rfl (jln rfl) (tq_ rfl (ltT rfl) (zl 4 rfl (tc_ fn189 rfl (zero_p d.pt hp0.2) (zl 4 rfl ?_)))))))
  exact r1_ hq_ rfl rfl
 ·refine tq_ rfl (eqF rfl) (zl 5 rfl ?_)
  by_cases h2:d.kind = 2
  ·refine tq_ rfl (eqT rfl) (zl 5 rfl ?_)
   have hp0:d.idx < q.g.us.length∧d.pt = 0:=by rcases hk with ⟨_,h⟩ | ⟨h,_⟩ <;> first | exact h | omega
   refine zc 3 rfl (tq_ rfl (geT rfl) (zl 6 rfl (tq_ rfl (jln rfl) (tq_ rfl (ltT rfl) (zl 4 rfl (tc_ fn189 rfl (zero_p d.pt hp0.2) (zl 4 rfl ?_)))))))
   exact r1_ hq_ rfl rfl
  ·refine tq_ rfl (eqF rfl) (zl 7 rfl ?_)
   by_cases h3:d.kind = 3
   ·refine tq_ rfl (eqT rfl) (zl 8 rfl ?_)
    have hp0:d.idx < q.g.inp:=by rcases hk with ⟨h,_⟩ | ⟨_,h⟩ <;> first | exact h | omega
    refine zc 3 rfl (tq_ rfl (geT rfl) (zl 6 rfl (tq_ rfl (ltT rfl) (zl 4 rfl (tc_ fn90 rfl (qvalid (qOf (d.pt)) (d.pt) (qOf_q _) (Br.use (by omega))) (is_ true rfl (isC_of _) (zl 4 rfl ?_)))))))
    exact r1_ hq_ rfl rfl
   ·refine tq_ rfl (eqF rfl) (zl 5 rfl (tq_ rfl (eqT rfl) (zl 5 rfl ?_)))
    have hp0:d.idx < q.g.inp:=by rcases hk with ⟨h,_⟩ | ⟨_,h⟩ <;> first | exact h | omega
    refine zc 3 rfl (tq_ rfl (geT rfl) (zl 6 rfl (tq_ rfl (ltT rfl) (zl 4 rfl (tc_ fn90 rfl (qvalid (qOf (d.pt)) (d.pt) (qOf_q _) (Br.use (by omega))) (is_ true rfl (isC_of _) (zl 4 rfl ?_)))))))
    exact r1_ hq_ rfl rfl
set_option maxRecDepth 10000 in
theorem fits_p (q:Qu) (hq:QOk q) (d:Dc) {b:Nat} (hd:DOk b q d) (hb:b≤1000000):Ctr Tryz.prog 89 [quV q,dcV d] (R.one (V.one (Leaf.val (.bool true)))):=by
 refine bd_ Tryz.func89 Tryz.ntmps89 rfl (fun w0 A0=>?_)
 refine zc 10 rfl (tc_ fn75 rfl (qvalid_p q hq) (zl 3 rfl (tc_ fn144 rfl (fits_i q d hd hb) (zl 4 rfl ?_))))
 exact r1_ hq_ rfl rfl
set_option maxRecDepth 10000 in
theorem gvars_p (g:Gr) (hg:GOk g):Ctr Tryz.prog 41 [grV g] (R.one (V.one (Leaf.val (.int .i64 (((g.inp + g.us.length:Nat):Int)))))):=by
 refine bd_ Tryz.func41 Tryz.ntmps41 rfl (fun w0 A0=>?_)
 have h1:=hg.i1;have h2:=hg.i3;have h3:=hg.u4;have h4:=hg.o1;have h5:=hg.o3
 refine zc 10 rfl (tc_ fn91 rfl (gvalid_p g (by assumption)) (zl 12 rfl (tq_ rfl (jln rfl) (tq_ rfl (jad (g.inp + g.us.length) rfl) (zl 3 rfl ?_)))))
 exact r1_ hq_ rfl rfl
set_option maxRecDepth 10000 in
theorem look_p (s:Sc) (hs:SB 40001 s):Ctr Tryz.prog 39 [scV s] (R.tup [vwV s,V.one (Leaf.val (.bool true))]):=by
 refine bd_ Tryz.func39 Tryz.ntmps39 rfl (fun w0 A0=>?_)
 have hB:=hs.B;have hq:=hs.q;have hd:=hs.d;have hpl:=hs.pl;have hl:=hs.ll
 have hg:=hq.g;have hr:=hq.r;have hlo:=hr.lo;have hhi:=hr.hi
 have h1:=hg.i1;have h2:=hg.i3;have h3:=hg.u4;have h4:=hg.o1;have h5:=hg.o3
 refine zc 12 rfl (tc_ fn75 rfl (qvalid_p s.q hq) (zl 9 rfl (tq_ rfl (Jq_build rfl tx144 rfl pl144 rfl) (zl 6 rfl ?_))))
 refine Tc_growB 1 4 1 (ls':=[Leaf.val (.int .i64 ((s.q.g.inp:Nat):Int)),El.row afE s.q.g.us,El.row afE s.q.g.os,El.row ratE s.q.r.lo,El.row ratE s.q.r.hi,El.row afE s.q.r.rows,El.row tmE s.q.goal.ts,Leaf.val (.bool (cneg s.q.goal.c)),natL (limbs (cnum s.q.goal.c)),natL (limbs (cden s.q.goal.c)),El.row dcE s.path,El.row lmE s.lems,Leaf.own 2 0]) rfl rfl rfl ⟨.inl rfl,.inl rfl,.inl rfl,.inl rfl,.inl rfl,.inl rfl,.inl rfl,.inl rfl,.inl rfl,.inl rfl,.inl rfl,.inl rfl,.inr ⟨rfl,rfl⟩,trivial⟩ ?_
 refine zc 3 rfl (tq_ rfl (jln rfl) (zl 4 rfl ?_))
 refine lpR_ (fun m Γ H=>∃ (i:Nat) (n:Nat) (out:List Bool),s.path.length - i = m∧Γ = [(1,some (D.ptr 0 0)),(4,some (D.ptr 1 0)),(15,some (D.v (V.one (El.row dcE s.path)))),(16,some (D.val (.int .i64 ((s.path.length:Nat):Int)))),(17,some (D.val (.int .i64 ((i:Nat):Int))))]∧H = [hb_ 42 (scL s),hb_ 144 (quL s.q ++ [El.row dcE s.path,El.row lmE s.lems,Leaf.own 2 n]),hgr 4 1 boE out n]∧i≤s.path.length∧out = List.replicate i true) ⟨0,0,[],rfl,rfl,rfl,Nat.zero_le _,rfl⟩ rfl ?_
 rintro m Γ H ⟨i,n,out,rfl,rfl,rfl,hi0,hout⟩
 refine zc 2 rfl ?_
 by_cases hi:i < s.path.length
 ·refine tq_ rfl (ltT rfl) (zl 9 rfl ?_)
  obtain ⟨d,hdx⟩:∃ d,s.path[i]? = some d:=⟨_,List.getElem?_eq_getElem hi⟩
  have hdo:=hd d (List.mem_of_getElem? hdx)
  have hol:out.length≤100:=by rw [hout,List.length_replicate];omega
  refine zc 1 rfl (tq_ rfl (jix i hdx rfl) (tq_ rfl (jlr rfl) (zl 4 rfl (dr_ 0 [(10,2),(13,1)] [2,1] (dz 4 rfl (kp_ [2] rfl (jld rfl) (dz 3 rfl (kc_ fn89 rfl (fits_p s.q hq d hdo (by omega)) (ke_ rfl (fun _=>Je_buildSlice rfl un142 ty4 tz4 rfl (by decide) (by decide) rfl (by decide) rfl) ?_)))))))))
  refine ki_ 2 rfl (dap true rfl rfl) (dz 3 rfl (DK_nil (za 3 rfl (tq_ rfl (jad (i + 1) rfl) (zl 2 rfl (At_free 3 (trim_ 3 rfl ?_)))))))
  exact nx_ ⟨i + 1,_,_,rfl,rfl,rfl,hi,(by rw [hout,rep_snoc])⟩ rfl
 ·refine tq_ rfl (ltF rfl) (zl 10 rfl ?_)
  have hie:i = s.path.length:=by omega
  rw [hie] at hout
  refine Tc_viewB 1 (ls':=[Leaf.val (.int .i64 ((s.q.g.inp:Nat):Int)),El.row afE s.q.g.us,El.row afE s.q.g.os,El.row ratE s.q.r.lo,El.row ratE s.q.r.hi,El.row afE s.q.r.rows,El.row tmE s.q.goal.ts,Leaf.val (.bool (cneg s.q.goal.c)),natL (limbs (cnum s.q.goal.c)),natL (limbs (cden s.q.goal.c)),El.row dcE s.path,El.row lmE s.lems,El.row boE out]) rfl rfl (RowAt.ofE boE out rfl (by decide)) ⟨.inl rfl,.inl rfl,.inl rfl,.inl rfl,.inl rfl,.inl rfl,.inl rfl,.inl rfl,.inl rfl,.inl rfl,.inl rfl,.inl rfl,.inr ⟨rfl,rfl⟩,trivial⟩ ?_
  refine zc 1 rfl (Tl_freeze 4 rfl rfl rfl (zl 5 rfl ?_))
  exact r2_ hq_ rfl (by rw [hout])
set_option maxRecDepth 10000 in
theorem mult_p (r:Rw) (c:Qr):Ctr Tryz.prog 48 [rwV r,qV c] (R.one (muV ⟨r,c⟩)):=by
 refine bd_ Tryz.func48 Tryz.ntmps48 rfl (fun w0 A0=>?_)
 refine zc 15 rfl ?_
 exact r1_ hq_ rfl rfl
set_option maxRecDepth 10000 in
theorem value_p (s:Sc) (hs:SB 40001 s) (n:Nat) (h0:0 < n) (hn:n≤s.lems.length):Ctr Tryz.prog 149 [vwV s,V.one (Leaf.val (.int .i64 ((n:Int))))] (R.one (qV (lvr s.lems n))):=by
 refine bd_ Tryz.func149 Tryz.ntmps149 rfl (fun w0 A0=>?_)
 have hB:=hs.B;have hq:=hs.q;have hd:=hs.d;have hpl:=hs.pl;have hl:=hs.ll
 have hg:=hq.g;have hr:=hq.r;have hlo:=hr.lo;have hhi:=hr.hi
 have h1:=hg.i1;have h2:=hg.i3;have h3:=hg.u4;have h4:=hg.o1;have h5:=hg.o3
 refine zc 6 rfl ?_
 obtain ⟨y,hy⟩:∃ y,s.lems[n - 1]? = some y:=⟨_,List.getElem?_eq_getElem (by omega)⟩
 refine zc 2 rfl (tq_ rfl (Jq_nilCheckR rfl rfl) (tq_ rfl (jft rfl) (tq_ rfl (jfr rfl) (tq_ rfl (jli rfl) (zl 1 rfl (tq_ rfl (jsb (n - 1) rfl) (tq_ rfl (jix (n - 1) hy rfl) (tq_ rfl (jft rfl) (tq_ rfl (jlr rfl) ?_)))))))))
 refine zl 3 rfl ?_
 exact r1_ hq_ rfl (by rw [lvr_get hy])
set_option maxRecDepth 10000 in
theorem dec_p (s:Sc) (hs:SB 40001 s) (k:Nat) (j:Int):Ctr Tryz.prog 148 [vwV s,V.one (Leaf.val (.int .i64 ((k:Int)))),V.one (Leaf.val (.int .i64 (j)))] (R.one (V.one (Leaf.val (.bool (decM s.path k j))))):=by
 refine bd_ Tryz.func148 Tryz.ntmps148 rfl (fun w0 A0=>?_)
 have hB:=hs.B;have hq:=hs.q;have hd:=hs.d;have hpl:=hs.pl;have hl:=hs.ll
 have hg:=hq.g;have hr:=hq.r;have hlo:=hr.lo;have hhi:=hr.hi
 have h1:=hg.i1;have h2:=hg.i3;have h3:=hg.u4;have h4:=hg.o1;have h5:=hg.o3
 refine zc 9 rfl (tq_ rfl (Jq_nilCheckR rfl rfl) (tq_ rfl (jft rfl) (tq_ rfl (jfr rfl) (tq_ rfl (jli rfl) (tq_ rfl (jln rfl) (zl 4 rfl ?_))))))
 refine lpR_ (fun m Γ H=>∃ (i:Nat),s.path.length - i = m∧Γ = [(0,some (D.rep (ptrRep (vwL s)))),(1,some (D.val (.int .i64 ((k:Nat):Int)))),(2,some (D.val (.int .i64 j))),(13,some (D.v (V.one (El.row dcE s.path)))),(14,some (D.val (.int .i64 ((s.path.length:Nat):Int)))),(15,some (D.val (.int .i64 ((i:Nat):Int))))]∧H = []∧i≤s.path.length∧decN s.path k j i = false) ⟨0,rfl,rfl,rfl,Nat.zero_le _,rfl⟩ rfl ?_
 rintro m Γ H ⟨i,rfl,rfl,rfl,hi0,hno⟩
 refine zc 2 rfl ?_
 by_cases hi:i < s.path.length
 ·refine tq_ rfl (ltT rfl) (zl 9 rfl ?_)
  obtain ⟨x,hx⟩:∃ x,s.path[i]? = some x:=⟨_,List.getElem?_eq_getElem hi⟩
  refine zc 2 rfl (tq_ rfl (jix i hx rfl) (tq_ rfl (jlr rfl) (zl 8 rfl (tq_ rfl (Jq_nilCheckR rfl rfl) (tq_ rfl (jfr rfl) (tq_ rfl (jli rfl) (zl 1 rfl (tq_ rfl (jix i (rep_get hi) rfl) (tq_ rfl (jli rfl) ?_)))))))))
  refine zl 7 rfl ?_
  refine two_ rfl (fun hk1=>?_) (fun hk1=>?_)
  ·refine zl 12 rfl (tq_ rfl (jad (i + 1) rfl) (zl 2 rfl (At_free 0 (trim_ 0 rfl ?_))))
   exact nx_ ⟨i + 1,rfl,rfl,rfl,hi,by rw [decN_succ hx,hno,hk1];rfl⟩ rfl
  ·refine zl 7 rfl ?_
   refine Tc_cond rfl (fun hk2=>?_) (fun hk2=>?_)
   ·refine zc 5 rfl ?_
    exact r1_ hq_ rfl (by rw [decM_t hx hk1 hk2])
   ·refine zc 4 rfl (tq_ rfl (jad (i + 1) rfl) (zl 2 rfl (At_free 0 (trim_ 0 rfl ?_))))
    exact nx_ ⟨i + 1,rfl,rfl,rfl,hi,by rw [decN_succ hx,hno,hk1,hk2];rfl⟩ rfl
 ·refine tq_ rfl (ltF rfl) (zl 14 rfl ?_)
  exact r1_ hq_ rfl (by rw [← decM_end,← show i = s.path.length by omega,hno])
end Go.Proofs.YtmpkandbccallaaGreatDoor
set_option linter.unusedSimpArgs false
set_option linter.unusedVariables false
namespace Go.Proofs.YtmpkandbccallaaGreatDoor
open Go Go.RowKit Rc
set_option maxRecDepth 10000 in
theorem input_p (s:Sc) (hs:SB 40001 s) (i:Nat) (hi:i < s.q.g.inp) (up:Bool):Ctr Tryz.prog 92 [vwV s,V.one (Leaf.val (.int .i64 ((i:Int)))),V.one (Leaf.val (.bool up))] (R.tup [qV (qOf (inpM s i up).1),V.one (El.row muE (one1 (inpM s i up).2)),V.one (Leaf.val (.bool true))]):=by
 refine bd_ Tryz.func92 Tryz.ntmps92 rfl (fun w0 A0=>?_)
 have hB:=hs.B;have hq:=hs.q;have hd:=hs.d;have hpl:=hs.pl;have hl:=hs.ll
 have hg:=hq.g;have hr:=hq.r;have hlo:=hr.lo;have hhi:=hr.hi
 have h1:=hg.i1;have h2:=hg.i3;have h3:=hg.u4;have h4:=hg.o1;have h5:=hg.o3
 obtain ⟨a0,ha0⟩:∃ a,s.q.r.lo[i]? = some a:=⟨_,List.getElem?_eq_getElem (by omega)⟩
 obtain ⟨c0,hc0⟩:∃ a,s.q.r.hi[i]? = some a:=⟨_,List.getElem?_eq_getElem (by omega)⟩
 have ha:s.q.r.lo[i]? = some ((s.q.r.lo[i]?).getD 0):=by rw [ha0];rfl
 have hc_:s.q.r.hi[i]? = some ((s.q.r.hi[i]?).getD 0):=by rw [hc0];rfl
 obtain ⟨hb1,hb2,_⟩:=hr.bd i a0 c0 ha0 hc0
 haveI:Br ((s.q.r.lo[i]?).getD 0) 4:=by rw [ha0];exact hb1.br
 haveI:Br ((s.q.r.hi[i]?).getD 0) 8:=by rw [hc0];exact hb2.br.mono (by omega)
 refine zc 10 rfl (tq_ rfl (Jq_nilCheckR rfl rfl) (tq_ rfl (jft rfl) (tq_ rfl (jft rfl) (tq_ rfl (jft rfl) (tq_ rfl (jlr rfl) (zl 5 rfl ?_))))))
 refine nz_ [so 0 (D.rep (ptrRep (vwL s))),so 1 (D.val (.int .i64 ((i:Nat):Int))),so 2 (D.bool up),so 6 (D.ptr 0 0),so 9 (D.ptr 1 0)] [hb_ 27 [Leaf.val (.bool false),natL ([]),natL ([])],hb_ 36 [El.row ratE s.q.r.lo,El.row ratE s.q.r.hi,El.row afE s.q.r.rows]] rfl rfl (zc 4 rfl (tq_ rfl (jix i ha rfl) (tq_ rfl (jlr rfl) (zl 10 rfl ?_))))
 refine mt_ [so 0 (D.rep (ptrRep (vwL s))),so 1 (D.val (.int .i64 ((i:Nat):Int))),so 6 (D.ptr 0 0),so 10 (D.ptr 2 0),so 11 (D.ptr 3 0),so 12 (D.val (.int .i64 (((if up = true then 4 else 3):Nat):Int))),so 13 (D.val (.int .i64 (if up = true then -1 else 1)))] [hb_ 27 [Leaf.val (.bool false),natL ([]),natL ([])],none,hb_ 27 (qL ((inp0 s i up).1)),hb_ 103 [Leaf.val (.int .i64 ((inp0 s i up).2.kind)),Leaf.val (.int .i64 ((inp0 s i up).2.idx)),Leaf.val (.int .i64 ((inp0 s i up).2.lo)),Leaf.val (.int .i64 ((inp0 s i up).2.hi))]] ?_ ?_
 ·refine zc 1 rfl (nz_ [so 0 _,so 1 _,so 2 _,so 6 _,so 9 _,so 10 (D.ptr 2 0),so 11 (D.ptr 3 0),so 12 (D.val (.int .i64 3)),so 13 (D.val (.int .i64 1))] [_,_,hb_ 27 (qL ((s.q.r.lo[i]?).getD 0)),hb_ 103 [Leaf.val (.int .i64 1),Leaf.val (.int .i64 ((i:Nat):Int)),Leaf.val (.int .i64 0),Leaf.val (.int .i64 0)]] rfl rfl (zc 4 rfl ?_))
  refine Tc_cond rfl (fun hup=>?_) (fun hup=>?_)
  ·subst hup
   refine zc 4 rfl (tq_ rfl (jix i hc_ rfl) (tq_ rfl (jlr rfl) (zl 7 rfl (At_free 1 ?_))))
   exact mx_ rfl
  ·subst hup
   refine zc 1 rfl (At_free 1 ?_)
   exact mx_ rfl
 ·refine zc 4 rfl (tq_ rfl (Jq_nilCheckR rfl rfl) (tq_ rfl (jft rfl) (tq_ rfl (jfr rfl) (tq_ rfl (jli rfl) (tq_ rfl (jln rfl) (zl 4 rfl ?_))))))
  refine lpR_ (fun m Γ H=>∃ (n:Nat) (b:Rat × Rw),s.path.length - n = m∧Γ = [(0,some (D.rep (ptrRep (vwL s)))),(1,some (D.val (.int .i64 ((i:Nat):Int)))),(6,some (D.ptr 0 0)),(10,some (D.ptr 2 0)),(11,some (D.ptr 3 0)),(12,some (D.val (.int .i64 (((if up = true then 4 else 3):Nat):Int)))),(13,some (D.val (.int .i64 (if up = true then -1 else 1)))),(41,some (D.v (V.one (El.row dcE s.path)))),(42,some (D.val (.int .i64 ((s.path.length:Nat):Int)))),(43,some (D.val (.int .i64 ((n:Nat):Int))))]∧H = [hb_ 27 [Leaf.val (.bool false),natL ([]),natL ([])],none,hb_ 27 (qL b.1),hb_ 103 [Leaf.val (.int .i64 b.2.kind),Leaf.val (.int .i64 b.2.idx),Leaf.val (.int .i64 b.2.lo),Leaf.val (.int .i64 b.2.hi)]]∧n≤s.path.length∧b = inpN s i up n) ⟨0,inp0 s i up,rfl,rfl,rfl,Nat.zero_le _,rfl⟩ rfl ?_
  rintro m Γ H ⟨n,b,rfl,rfl,rfl,hn0,hb⟩
  refine zc 2 rfl ?_
  by_cases hn:n < s.path.length
  ·refine tq_ rfl (ltT rfl) (zl 9 rfl ?_)
   obtain ⟨d,hdx⟩:∃ d,s.path[n]? = some d:=⟨_,List.getElem?_eq_getElem hn⟩
   have hdo:=hd d (List.mem_of_getElem? hdx)
   haveI:=hdo.2.br
   haveI hbb:Br b.1 201:=by rw [hb];exact inpN_hb hs hi up (by omega)
   refine nz_ [so 0 (D.rep (ptrRep (vwL s))),so 1 (D.val (.int .i64 ((i:Nat):Int))),so 6 (D.ptr 0 0),so 10 (D.ptr 2 0),so 11 (D.ptr 3 0),so 12 (D.val (.int .i64 (((if up = true then 4 else 3):Nat):Int))),so 13 (D.val (.int .i64 (if up = true then -1 else 1))),so 41 (D.v (V.one (El.row dcE s.path))),so 42 (D.val (.int .i64 ((s.path.length:Nat):Int))),so 43 (D.val (.int .i64 ((n:Nat):Int)))] [hb_ 27 [Leaf.val (.bool false),natL ([]),natL ([])],none,hb_ 27 (qL b.1),hb_ 103 [Leaf.val (.int .i64 b.2.kind),Leaf.val (.int .i64 b.2.idx),Leaf.val (.int .i64 b.2.lo),Leaf.val (.int .i64 b.2.hi)]] rfl rfl ?_
   refine zc 2 rfl (tq_ rfl (jix n hdx rfl) (tq_ rfl (jlr rfl) (zl 8 rfl (tq_ rfl (Jq_nilCheckR rfl rfl) (tq_ rfl (jfr rfl) (tq_ rfl (jli rfl) (zl 1 rfl (tq_ rfl (jix n (rep_get hn) rfl) (tq_ rfl (jli rfl) ?_)))))))))
   refine zl 4 rfl ?_
   by_cases hk:d.kind = (if up = true then 4 else 3)
   ·refine tq_ rfl (eqT rfl (by rw [hk])) (zl 5 rfl ?_)
    by_cases hx:d.idx = i
    ·refine tq_ rfl (eqT rfl) (zl 5 rfl (tc_ fn83 rfl (qcmp (qOf (d.pt)) (d.pt) (qOf_q _) (Br.use (by omega)) (qOf (b.1)) (b.1) (qOf_q _) (Br.use (by omega))) (zl 1 rfl ?_)))
     by_cases hc:(if up = true then d.pt < b.1 else b.1 < d.pt)
     ·refine tq_ rfl (eqT rfl (inp_sg.2 hc)) (zl 4 rfl ?_)
      refine nz_ [so 0 _,so 1 _,so 6 _,so 10 _,so 11 _,so 12 _,so 13 _,so 14 (D.val (.int .i64 ((n:Nat):Int))),so 15 (D.ptr 4 0),so 41 _,so 42 _,so 43 _] [_,none,_,_,hb_ 78 [Leaf.val (.int .i64 ((d.kind:Nat):Int)),Leaf.val (.int .i64 ((d.idx:Nat):Int)),Leaf.val (.bool (cneg d.pt)),natL (limbs (cnum d.pt)),natL (limbs (cden d.pt))]] rfl rfl (zc 11 rfl ?_)
      refine tq_ rfl (jad (n + 1) rfl) (zl 2 rfl (At_free 4 (trim_ 4 rfl ?_)))
      exact nx_ ⟨n + 1,(d.pt,⟨4,(n:Int),0,0⟩),rfl,rfl,rfl,hn,(by rw [hb] at hc;exact (inpN_t hdx ⟨hk,hx,hc⟩).symm)⟩ rfl
     ·refine tq_ rfl (eqF rfl (fun e=>hc (inp_sg.1 e))) (zl 7 rfl (nf_ [4] [so 0 _,so 1 _,so 6 _,so 10 _,so 11 _,so 12 _,so 13 _,so 41 _,so 42 _,so 43 _] [_,none,_,_,none] rfl rfl rfl (zc 1 rfl (tq_ rfl (jad (n + 1) rfl) (zl 2 rfl (trim_ 4 rfl ?_))))))
      exact nx_ ⟨n + 1,b,rfl,rfl,rfl,hn,(by rw [hb];exact (inpN_f hdx (fun e=>hc (by rw [hb];exact e.2.2))).symm)⟩ rfl
    ·refine tq_ rfl (eqF rfl) (zl 15 rfl (nf_ [4] [so 0 _,so 1 _,so 6 _,so 10 _,so 11 _,so 12 _,so 13 _,so 41 _,so 42 _,so 43 _] [_,none,_,_,none] rfl rfl rfl (zc 1 rfl (tq_ rfl (jad (n + 1) rfl) (zl 2 rfl (trim_ 4 rfl ?_))))))
     exact nx_ ⟨n + 1,b,rfl,rfl,rfl,hn,(by rw [hb];exact (inpN_f hdx (fun e=>hx e.2.1)).symm)⟩ rfl
   ·refine tq_ rfl (eqF rfl (fun e=>hk (Int.ofNat_inj.1 e))) (zl 21 rfl (nf_ [4] [so 0 _,so 1 _,so 6 _,so 10 _,so 11 _,so 12 _,so 13 _,so 41 _,so 42 _,so 43 _] [_,none,_,_,none] rfl rfl rfl (zc 1 rfl (tq_ rfl (jad (n + 1) rfl) (zl 2 rfl (trim_ 4 rfl ?_))))))
    exact nx_ ⟨n + 1,b,rfl,rfl,rfl,hn,(by rw [hb];exact (inpN_f hdx (fun e=>hk e.1)).symm)⟩ rfl
  ·refine tq_ rfl (ltF rfl) (zl 10 rfl ?_)
   have hie:n = s.path.length:=by omega
   rw [hie] at hb
   refine dr_ 0 [(5,0)] [0] (dz 2 rfl (kc_ fn80 rfl (qof_spec 1 (by decide) (by decide)) (kc_ fn48 rfl (mult_p b.2 (qOf (((1:Int):Rat)))) (ke_ rfl (fun _=>Je_buildSlice rfl un44 ty105 tz105 rfl (by decide) (by decide) rfl (by decide) rfl) (dz 3 rfl (DK_nil (za 1 rfl ?_)))))))
   exact r3_ hq_ rfl (by unfold inpM;rw [← hb] <;> rfl)
set_option maxRecDepth 10000 in
theorem low_p (s:Sc) (hs:SB 40001 s) (j:Nat) (hj:j < s.q.g.us.length):Ctr Tryz.prog 94 [vwV s,V.one (Leaf.val (.int .i64 ((j:Int))))] (R.tup [qV (lowM s j).1,V.one (El.row muE (lowM s j).2),V.one (Leaf.val (.bool true))]):=by
 refine bd_ Tryz.func94 Tryz.ntmps94 rfl (fun w0 A0=>?_)
 have hB:=hs.B;have hq:=hs.q;have hd:=hs.d;have hpl:=hs.pl;have hl:=hs.ll
 have hg:=hq.g;have hr:=hq.r;have hlo:=hr.lo;have hhi:=hr.hi
 have h1:=hg.i1;have h2:=hg.i3;have h3:=hg.u4;have h4:=hg.o1;have h5:=hg.o3
 haveI:=lvr_fq hB (bLo s j);haveI:=lvr_fq hB (bHi s j)
 refine zc 9 rfl (tc_ fn80 rfl (qof_spec 1 (by decide) (by decide)) (zl 7 rfl (tq_ rfl (Jq_nilCheckR rfl rfl) (tq_ rfl (jft rfl) (tq_ rfl (jlr rfl) (zl 1 rfl (tc_ fn81 rfl (best_p s (by assumption) (by omega) (by omega) ((j:Nat):Int)) (zl 9 rfl ?_))))))))
 refine nz_ [so 0 (D.rep (ptrRep (vwL s))),so 1 (D.val (.int .i64 ((j:Nat):Int))),so 4 (D.ptr 0 0),so 7 (D.ptr 1 0),so 8 (D.val (.int .i64 (((best s.lems ((j:Nat):Int)).1:Nat):Int)))] [hb_ 27 [Leaf.val (.bool false),natL ([]),natL ([])],hb_ 27 (qL ((1:Int):Rat))] rfl rfl (zc 2 rfl ?_)
 by_cases h1:(best s.lems ((j:Nat):Int)).1≠0
 ·refine tq_ rfl (gtT rfl) ?_
  obtain ⟨y,hy,_,_,hly,hy0,hyl⟩:=best_lo h1
  refine zl 3 rfl (tc_ fn149 rfl (value_p s (by assumption) ((best s.lems ((j:Nat):Int)).1) (by omega) (by omega)) (tc_ fn43 rfl (qsign (lvr s.lems ((best s.lems ((j:Nat):Int)).1)) ((lvr s.lems ((best s.lems ((j:Nat):Int)).1)).q) rfl (Fq.use (x:=(lvr s.lems ((best s.lems ((j:Nat):Int)).1))) (by omega))) ?_))
  by_cases h2:0 < lv s.lems (best s.lems ((j:Nat):Int)).1
  ·refine tq_ rfl (gtT rfl (by rw [lvr_q];exact sg_gt.2 h2)) (zl 5 rfl (nz_ [so 0 _,so 1 _,so 4 _,so 7 _,so 8 _] [_,_] rfl rfl (dr_ 0 [(13,0)] [0] (dz 2 rfl (kc_ fn149 rfl (value_p s (by assumption) ((best s.lems ((j:Nat):Int)).1) (by omega) (by omega)) (dz 3 rfl (kc_ fn48 rfl (mult_p ⟨6,((j:Nat):Int),0,0⟩ (qOf (((1:Int):Rat)))) (dz 4 rfl ?_))))))))
   refine kc_ fn48 rfl (mult_p ⟨11,((j:Nat):Int),(((best s.lems ((j:Nat):Int)).1:Nat):Int),0⟩ (qOf (((1:Int):Rat)))) (ke_ rfl (fun _=>Je_buildSlice rfl un44 ty105 tz105 rfl (by decide) (by decide) rfl (by decide) rfl) (dz 3 rfl (DK_nil (za 1 rfl ?_))))
   exact r3_ hq_ rfl (by rw [lowM_t ⟨h1,h2⟩] <;> rfl)
  ·refine tq_ rfl (gtF rfl (by rw [lvr_q];exact fun e=>h2 (sg_gt.1 e))) (zl 7 rfl (nz_ [so 1 _,so 4 _,so 7 _] [_,_] rfl rfl (zc 5 rfl (tc_ fn48 rfl (mult_p ⟨5,((j:Nat):Int),0,0⟩ (qOf (((1:Int):Rat)))) (te_ rfl (Je_buildSlice rfl un44 ty105 tz105 rfl (by decide) (by decide) rfl (by decide) rfl) (zl 5 rfl ?_))))))
   exact r3_ hq_ rfl (by rw [lowM_f (fun e=>h2 e.2)] <;> rfl)
 ·refine tq_ rfl (gtF rfl) (zl 13 rfl (nz_ [so 1 _,so 4 _,so 7 _] [_,_] rfl rfl (zc 5 rfl (tc_ fn48 rfl (mult_p ⟨5,((j:Nat):Int),0,0⟩ (qOf (((1:Int):Rat)))) (te_ rfl (Je_buildSlice rfl un44 ty105 tz105 rfl (by decide) (by decide) rfl (by decide) rfl) (zl 5 rfl ?_))))))
  exact r3_ hq_ rfl (by rw [lowM_f (fun e=>h1 e.1)] <;> rfl)
set_option maxRecDepth 10000 in
set_option maxHeartbeats 2000000 in
theorem high_p (s:Sc) (hs:SB 40001 s) (j:Nat) (hj:j < s.q.g.us.length):Ctr Tryz.prog 93 [vwV s,V.one (Leaf.val (.int .i64 ((j:Int))))] (R.tup [qV (highP s j).1,V.one (El.row muE (highP s j).2.1),V.one (Leaf.val (.bool (highP s j).2.2))]):=by
 refine bd_ Tryz.func93 Tryz.ntmps93 rfl (fun w0 A0=>?_)
 have hB:=hs.B;have hq:=hs.q;have hd:=hs.d;have hpl:=hs.pl;have hl:=hs.ll
 have hg:=hq.g;have hr:=hq.r;have hlo:=hr.lo;have hhi:=hr.hi
 have h1:=hg.i1;have h2:=hg.i3;have h3:=hg.u4;have h4:=hg.o1;have h5:=hg.o3
 haveI:=lvr_fq hB (bLo s j);haveI:=lvr_fq hB (bHi s j)
 refine zc 9 rfl (tc_ fn80 rfl (qof_spec 1 (by decide) (by decide)) (zl 7 rfl (tq_ rfl (Jq_nilCheckR rfl rfl) (tq_ rfl (jft rfl) (tq_ rfl (jlr rfl) (zl 1 rfl (tc_ fn81 rfl (best_p s (by assumption) (by omega) (by omega) ((j:Nat):Int)) (zl 8 rfl ?_))))))))
 refine nz_ [so 0 (D.rep (ptrRep (vwL s))),so 1 _,so 4 _,so 7 _,so 8 (D.val (.int .i64 (((best s.lems ((j:Nat):Int)).1:Nat):Int))),so 9 (D.val (.int .i64 (((best s.lems ((j:Nat):Int)).2:Nat):Int)))] [_,_] rfl rfl (zc 3 rfl (tc_ fn148 rfl (dec_p s (by assumption) 1 ((j:Nat):Int)) (zl 2 rfl (tc_ fn148 rfl (dec_p s (by assumption) 2 ((j:Nat):Int)) ?_))))
 refine zl 5 rfl ?_
 refine mt_ [so 0 (D.rep (ptrRep (vwL s))),so 1 (D.val (.int .i64 ((j:Nat):Int))),so 4 (D.ptr 0 0),so 7 (D.ptr 1 0),so 8 (D.val (.int .i64 (((best s.lems ((j:Nat):Int)).1:Nat):Int))),so 9 (D.val (.int .i64 (((best s.lems ((j:Nat):Int)).2:Nat):Int))),so 10 (D.bool (decM s.path 1 ((j:Nat):Int))),so 11 (D.bool (decM s.path 2 ((j:Nat):Int))),so 45 (D.bool (hiOff s j))] [hb_ 27 [Leaf.val (.bool false),natL ([]),natL ([])],hb_ 27 (qL ((1:Int):Rat))] ?_ ?_
 ·refine nz_ [so 0 _,so 1 _,so 4 _,so 7 _,so 8 _,so 9 _,so 10 (D.bool (decM s.path 1 ((j:Nat):Int))),so 11 (D.bool (decM s.path 2 ((j:Nat):Int)))] [_,_] rfl rfl (zc 3 rfl ?_)
  refine two_ rfl (fun hf1=>?_) (fun hf1=>?_)
  ·refine zl 1 rfl ?_
   by_cases h1:(best s.lems ((j:Nat):Int)).2≠0
   ·refine tq_ rfl (gtT rfl) ?_
    obtain ⟨z,hz,_,_,hlz,hz0,hzl⟩:=best_hi h1
    refine zl 3 rfl (tc_ fn149 rfl (value_p s (by assumption) ((best s.lems ((j:Nat):Int)).2) (by omega) (by omega)) (tc_ fn43 rfl (qsign (lvr s.lems ((best s.lems ((j:Nat):Int)).2)) ((lvr s.lems ((best s.lems ((j:Nat):Int)).2)).q) rfl (Fq.use (x:=(lvr s.lems ((best s.lems ((j:Nat):Int)).2))) (by omega))) ?_))
    by_cases h2:lv s.lems (best s.lems ((j:Nat):Int)).2≤0
    ·refine tq_ rfl (leT rfl (by rw [lvr_q];exact sg_le.2 h2)) (zl 2 rfl (is_ (hiOff s j) rfl (by simp [hiOff,hf1,h1,h2]) (zl 1 rfl ?_)))
     exact mx_ rfl
    ·refine tq_ rfl (leF rfl (by rw [lvr_q];exact fun e=>h2 (sg_le.1 e))) (zl 2 rfl (is_ (hiOff s j) rfl (by simp [hiOff,hf1,h1,h2]) (zl 1 rfl ?_)))
     exact mx_ rfl
   ·refine tq_ rfl (gtF rfl) (zl 8 rfl (is_ (hiOff s j) rfl (by simp [hiOff,hf1,h1]) (zl 1 rfl ?_)))
    exact mx_ rfl
  ·refine zl 10 rfl (is_ (hiOff s j) rfl (by simp [hiOff,hf1]) (zl 1 rfl ?_))
   exact mx_ rfl
 ·refine Tc_cond rfl (fun hof=>?_) (fun hof=>?_)
  ·refine zc 15 rfl ?_
   refine Tc_cond rfl (fun hd1=>?_) (fun hd1=>?_)
   ·refine zc 7 rfl (nz_ [so 4 _,so 7 _,so 12 (D.ptr 2 0)] [_,_,hb_ 103 [Leaf.val (.int .i64 10),Leaf.val (.int .i64 ((j:Nat):Int)),Leaf.val (.int .i64 0),Leaf.val (.int .i64 (((best s.lems ((j:Nat):Int)).2:Nat):Int))]] rfl rfl (zc 4 rfl (tc_ fn48 rfl (mult_p ⟨10,((j:Nat):Int),0,(((best s.lems ((j:Nat):Int)).2:Nat):Int)⟩ (qOf (((1:Int):Rat)))) ?_)))
    refine te_ rfl (Je_buildSlice rfl un44 ty105 tz105 rfl (by decide) (by decide) rfl (by decide) rfl) (zl 5 rfl ?_)
    exact r3_ hq_ rfl (by rw [highP_some (highM_off hof),offRow_f (by simpa using hd1)] <;> rfl)
   ·refine zc 3 rfl (nz_ [so 4 _,so 7 _,so 12 (D.ptr 2 0)] [_,_,hb_ 103 [Leaf.val (.int .i64 10),Leaf.val (.int .i64 ((j:Nat):Int)),Leaf.val (.int .i64 0),Leaf.val (.int .i64 0)]] rfl rfl (zc 4 rfl (tc_ fn48 rfl (mult_p ⟨10,((j:Nat):Int),0,0⟩ (qOf (((1:Int):Rat)))) (te_ rfl (Je_buildSlice rfl un44 ty105 tz105 rfl (by decide) (by decide) rfl (by decide) rfl) ?_))))
    refine zl 5 rfl ?_
    exact r3_ hq_ rfl (by rw [highP_some (highM_off hof),offRow_t (by simpa using hd1)] <;> rfl)
  ·refine zc 4 rfl (nz_ [so 0 _,so 1 _,so 4 _,so 7 _,so 8 _,so 9 _,so 10 (D.bool (decM s.path 1 ((j:Nat):Int)))] [_,_] rfl rfl (zc 2 rfl ?_))
   by_cases hh:(best s.lems ((j:Nat):Int)).2 = 0
   ·refine tq_ rfl (eqT rfl) (zl 11 rfl ?_)
    exact r3_ hq_ rfl (by rw [highP_none (highM_n1 hof hh)] <;> rfl)
   ·refine tq_ rfl (eqF rfl) (zl 6 rfl ?_)
    obtain ⟨z,hz,_,_,hlz,hz0,hzl⟩:=best_hi hh
    refine nz_ [so 0 _,so 1 _,so 4 _,so 7 _,so 8 _,so 9 _,so 10 _] [_,_] rfl rfl (zc 3 rfl (tc_ fn149 rfl (value_p s (by assumption) ((best s.lems ((j:Nat):Int)).2) (by omega) (by omega)) (zl 10 rfl ?_)))
    refine mt_ [so 0 (D.rep (ptrRep (vwL s))),so 1 (D.val (.int .i64 ((j:Nat):Int))),so 4 (D.ptr 0 0),so 7 (D.ptr 1 0),so 8 (D.val (.int .i64 (((best s.lems ((j:Nat):Int)).1:Nat):Int))),so 9 (D.val (.int .i64 (((best s.lems ((j:Nat):Int)).2:Nat):Int))),so 10 (D.bool (decM s.path 1 ((j:Nat):Int))),so 13 (D.ptr 2 0),so 14 (D.ptr 3 0),so 77 (D.bool (hiOn s j))] [hb_ 27 [Leaf.val (.bool false),natL ([]),natL ([])],hb_ 27 (qL ((1:Int):Rat)),hb_ 27 [Leaf.val (.bool (lvr s.lems ((best s.lems ((j:Nat):Int)).2)).neg),natL (lvr s.lems ((best s.lems ((j:Nat):Int)).2)).n,natL (lvr s.lems ((best s.lems ((j:Nat):Int)).2)).d],hb_ 103 [Leaf.val (.int .i64 12),Leaf.val (.int .i64 ((j:Nat):Int)),Leaf.val (.int .i64 0),Leaf.val (.int .i64 (((best s.lems ((j:Nat):Int)).2:Nat):Int))]] ?_ ?_
    ·refine nz_ [so 0 _,so 1 _,so 4 _,so 7 _,so 8 _,so 9 _,so 10 _,so 13 (D.ptr 2 0),so 14 (D.ptr 3 0)] [_,_,hb_ 27 [Leaf.val (.bool (lvr s.lems ((best s.lems ((j:Nat):Int)).2)).neg),natL (lvr s.lems ((best s.lems ((j:Nat):Int)).2)).n,natL (lvr s.lems ((best s.lems ((j:Nat):Int)).2)).d],hb_ 103 [Leaf.val (.int .i64 12),Leaf.val (.int .i64 ((j:Nat):Int)),Leaf.val (.int .i64 0),Leaf.val (.int .i64 (((best s.lems ((j:Nat):Int)).2:Nat):Int))]] rfl rfl ?_
     refine zc 3 rfl ?_
     refine two_ rfl (fun hn1=>?_) (fun hn1=>?_)
     ·refine zl 1 rfl ?_
      by_cases h1:(best s.lems ((j:Nat):Int)).1≠0
      ·refine tq_ rfl (gtT rfl) ?_
       obtain ⟨y,hy,_,_,hly,hy0,hyl⟩:=best_lo h1
       refine zl 3 rfl (tc_ fn149 rfl (value_p s (by assumption) ((best s.lems ((j:Nat):Int)).1) (by omega) (by omega)) (tc_ fn43 rfl (qsign (lvr s.lems ((best s.lems ((j:Nat):Int)).1)) ((lvr s.lems ((best s.lems ((j:Nat):Int)).1)).q) rfl (Fq.use (x:=(lvr s.lems ((best s.lems ((j:Nat):Int)).1))) (by omega))) ?_))
       by_cases h2:0≤lv s.lems (best s.lems ((j:Nat):Int)).1
       ·refine tq_ rfl (geT rfl (by rw [lvr_q];exact sg_ge.2 h2)) (zl 2 rfl (is_ (hiOn s j) rfl (by simp [hiOn,hn1,h1,h2]) (zl 1 rfl ?_)))
        exact mx_ rfl
       ·refine tq_ rfl (geF rfl (by rw [lvr_q];exact fun e=>h2 (sg_ge.1 e))) (zl 2 rfl (is_ (hiOn s j) rfl (by simp [hiOn,hn1,h1,h2]) (zl 1 rfl ?_)))
        exact mx_ rfl
      ·refine tq_ rfl (gtF rfl) (zl 8 rfl (is_ (hiOn s j) rfl (by simp [hiOn,hn1,h1]) (zl 1 rfl ?_)))
       exact mx_ rfl
     ·refine zl 10 rfl (is_ (hiOn s j) rfl (by simp [hiOn,hn1]) (zl 1 rfl ?_))
      exact mx_ rfl
    ·refine Tc_cond rfl (fun hon=>?_) (fun hon=>?_)
     ·refine zc 15 rfl ?_
      refine Tc_cond rfl (fun hd1=>?_) (fun hd1=>?_)
      ·refine zc 7 rfl ?_
       refine nz_ [so 4 _,so 7 _,so 13 (D.ptr 2 0),so 14 (D.ptr 3 0),so 15 (D.ptr 4 0)] [_,_,hb_ 27 [Leaf.val (.bool (lvr s.lems ((best s.lems ((j:Nat):Int)).2)).neg),natL (lvr s.lems ((best s.lems ((j:Nat):Int)).2)).n,natL (lvr s.lems ((best s.lems ((j:Nat):Int)).2)).d],hb_ 103 [Leaf.val (.int .i64 12),Leaf.val (.int .i64 ((j:Nat):Int)),Leaf.val (.int .i64 0),Leaf.val (.int .i64 (((best s.lems ((j:Nat):Int)).2:Nat):Int))],hb_ 103 [Leaf.val (.int .i64 8),Leaf.val (.int .i64 ((j:Nat):Int)),Leaf.val (.int .i64 (((best s.lems ((j:Nat):Int)).1:Nat):Int)),Leaf.val (.int .i64 0)]] rfl rfl ?_
       refine dr_ 0 [(8,0)] [0] (dz 3 rfl (kc_ fn48 rfl (mult_p ⟨8,((j:Nat):Int),(((best s.lems ((j:Nat):Int)).1:Nat):Int),0⟩ (qOf (((1:Int):Rat)))) (dz 2 rfl (kc_ fn48 rfl (mult_p ⟨12,((j:Nat):Int),0,(((best s.lems ((j:Nat):Int)).2:Nat):Int)⟩ (qOf (((1:Int):Rat)))) ?_))))
       refine ke_ rfl (fun _=>Je_buildSlice rfl un44 ty105 tz105 rfl (by decide) (by decide) rfl (by decide) rfl) (dz 3 rfl (DK_nil (za 1 rfl ?_)))
       exact r3_ hq_ rfl (by rw [highP_some (highM_on hof hh hon),onRow_f (by simpa using hd1)] <;> rfl)
      ·refine zc 3 rfl ?_
       refine nz_ [so 4 _,so 7 _,so 13 (D.ptr 2 0),so 14 (D.ptr 3 0),so 15 (D.ptr 4 0)] [_,_,hb_ 27 [Leaf.val (.bool (lvr s.lems ((best s.lems ((j:Nat):Int)).2)).neg),natL (lvr s.lems ((best s.lems ((j:Nat):Int)).2)).n,natL (lvr s.lems ((best s.lems ((j:Nat):Int)).2)).d],hb_ 103 [Leaf.val (.int .i64 12),Leaf.val (.int .i64 ((j:Nat):Int)),Leaf.val (.int .i64 0),Leaf.val (.int .i64 (((best s.lems ((j:Nat):Int)).2:Nat):Int))],hb_ 103 [Leaf.val (.int .i64 8),Leaf.val (.int .i64 ((j:Nat):Int)),Leaf.val (.int .i64 0),Leaf.val (.int .i64 0)]] rfl rfl ?_
       refine dr_ 0 [(8,0)] [0] (dz 3 rfl (kc_ fn48 rfl (mult_p ⟨8,((j:Nat):Int),0,0⟩ (qOf (((1:Int):Rat)))) (dz 2 rfl (kc_ fn48 rfl (mult_p ⟨12,((j:Nat):Int),0,(((best s.lems ((j:Nat):Int)).2:Nat):Int)⟩ (qOf (((1:Int):Rat)))) (ke_ rfl (fun _=>Je_buildSlice rfl un44 ty105 tz105 rfl (by decide) (by decide) rfl (by decide) rfl) (dz 3 rfl (DK_nil (za 1 rfl ?_))))))))
       exact r3_ hq_ rfl (by rw [highP_some (highM_on hof hh hon),onRow_t (by simpa using hd1)] <;> rfl)
     ·refine zc 4 rfl ?_
      refine nz_ [so 0 _,so 1 _,so 4 _,so 7 _,so 8 _,so 9 _,so 13 (D.ptr 2 0),so 14 (D.ptr 3 0)] [_,_,hb_ 27 [Leaf.val (.bool (lvr s.lems ((best s.lems ((j:Nat):Int)).2)).neg),natL (lvr s.lems ((best s.lems ((j:Nat):Int)).2)).n,natL (lvr s.lems ((best s.lems ((j:Nat):Int)).2)).d],hb_ 103 [Leaf.val (.int .i64 12),Leaf.val (.int .i64 ((j:Nat):Int)),Leaf.val (.int .i64 0),Leaf.val (.int .i64 (((best s.lems ((j:Nat):Int)).2:Nat):Int))]] rfl rfl ?_
      refine zc 2 rfl ?_
      by_cases hl0:(best s.lems ((j:Nat):Int)).1 = 0
      ·refine tq_ rfl (eqT rfl) (zl 11 rfl ?_)
       exact r3_ hq_ rfl (by rw [highP_none (highM_n2 hof hh hon hl0)] <;> rfl)
      ·refine tq_ rfl (eqF rfl) (zl 6 rfl ?_)
       obtain ⟨y,hy,_,_,hly,hy0,hyl⟩:=best_lo hl0
       have hne:=tri_ne hof hh hon hl0
       refine nz_ [so 0 _,so 1 _,so 4 _,so 7 _,so 8 _,so 9 _,so 13 _,so 14 _] [_,_,_,_] rfl rfl (dr_ 1 [(10,4),(11,4)] [4] (dz 4 rfl (kc_ fn149 rfl (value_p s (by assumption) ((best s.lems ((j:Nat):Int)).1) (by omega) (by omega)) ?_)))
       refine kc_ fn151 rfl (qsub (lvr s.lems ((best s.lems ((j:Nat):Int)).2)) ((lvr s.lems ((best s.lems ((j:Nat):Int)).2)).q) rfl (Fq.use (x:=(lvr s.lems ((best s.lems ((j:Nat):Int)).2))) (by omega)) (lvr s.lems ((best s.lems ((j:Nat):Int)).1)) ((lvr s.lems ((best s.lems ((j:Nat):Int)).1)).q) rfl (Fq.use (x:=(lvr s.lems ((best s.lems ((j:Nat):Int)).1))) (by omega))) ?_
       refine kc_ fn150 rfl (qdiv (qOf (((1:Int):Rat))) (((1:Int):Rat)) (qOf_q _) (Br.use (by omega)) (qOf (((lvr s.lems ((best s.lems ((j:Nat):Int)).2)).q) - ((lvr s.lems ((best s.lems ((j:Nat):Int)).1)).q))) (((lvr s.lems ((best s.lems ((j:Nat):Int)).2)).q) - ((lvr s.lems ((best s.lems ((j:Nat):Int)).1)).q)) (qOf_q _) (Br.use (by omega)) (by assumption)) (dz 6 rfl ?_)
       refine DK_nil (za 2 rfl (nf_ [1] [so 1 _,so 4 _,so 8 _,so 9 _,so 13 _,so 14 _,so 16 (D.ptr 4 0)] [_,none,_,_,hb_ 27 (qL ((((1:Int):Rat)) / (((lvr s.lems ((best s.lems ((j:Nat):Int)).2)).q) - ((lvr s.lems ((best s.lems ((j:Nat):Int)).1)).q))))] rfl rfl rfl (dr_ 0 [(13,0)] [0] (dz 4 rfl ?_))))
       refine kc_ fn45 rfl (qmul (lvr s.lems ((best s.lems ((j:Nat):Int)).2)) ((lvr s.lems ((best s.lems ((j:Nat):Int)).2)).q) rfl (Fq.use (x:=(lvr s.lems ((best s.lems ((j:Nat):Int)).2))) (by omega)) (qOf ((((1:Int):Rat)) / (((lvr s.lems ((best s.lems ((j:Nat):Int)).2)).q) - ((lvr s.lems ((best s.lems ((j:Nat):Int)).1)).q)))) ((((1:Int):Rat)) / (((lvr s.lems ((best s.lems ((j:Nat):Int)).2)).q) - ((lvr s.lems ((best s.lems ((j:Nat):Int)).1)).q))) (qOf_q _) (Br.use (by omega))) ?_
       refine kc_ fn48 rfl (mult_p ⟨12,((j:Nat):Int),0,(((best s.lems ((j:Nat):Int)).2:Nat):Int)⟩ (qOf (((lvr s.lems ((best s.lems ((j:Nat):Int)).2)).q) * ((((1:Int):Rat)) / (((lvr s.lems ((best s.lems ((j:Nat):Int)).2)).q) - ((lvr s.lems ((best s.lems ((j:Nat):Int)).1)).q)))))) (dz 5 rfl ?_)
       refine kc_ fn48 rfl (mult_p ⟨13,((j:Nat):Int),(((best s.lems ((j:Nat):Int)).1:Nat):Int),(((best s.lems ((j:Nat):Int)).2:Nat):Int)⟩ (qOf ((((1:Int):Rat)) / (((lvr s.lems ((best s.lems ((j:Nat):Int)).2)).q) - ((lvr s.lems ((best s.lems ((j:Nat):Int)).1)).q))))) ?_
       refine ke_ rfl (fun _=>Je_buildSlice rfl un44 ty105 tz105 rfl (by decide) (by decide) rfl (by decide) rfl) (dz 3 rfl (DK_nil (za 1 rfl ?_)))
       exact r3_ hq_ rfl (by rw [highP_some (highM_tri hof hh hon hl0)] <;> rfl)
set_option maxRecDepth 10000 in
theorem bound_p (s:Sc) (hs:SB 40001 s) (v:Nat) (hv:v < (s.q.g.inp + s.q.g.us.length)) (up:Bool):Ctr Tryz.prog 42 [vwV s,V.one (Leaf.val (.int .i64 ((v:Int)))),V.one (Leaf.val (.bool up))] (R.tup [qV (bndP s v up).1,V.one (El.row muE (bndP s v up).2.1),V.one (Leaf.val (.bool (bndP s v up).2.2))]):=by
 refine bd_ Tryz.func42 Tryz.ntmps42 rfl (fun w0 A0=>?_)
 have hB:=hs.B;have hq:=hs.q;have hd:=hs.d;have hpl:=hs.pl;have hl:=hs.ll
 have hg:=hq.g;have hr:=hq.r;have hlo:=hr.lo;have hhi:=hr.hi
 have h1:=hg.i1;have h2:=hg.i3;have h3:=hg.u4;have h4:=hg.o1;have h5:=hg.o3
 refine zc 8 rfl ?_
 by_cases hvi:v < s.q.g.inp
 ·refine zc 3 rfl (tq_ rfl (Jq_nilCheckR rfl rfl) (tq_ rfl (jft rfl) (tq_ rfl (jft rfl) (tq_ rfl (jft rfl) (tq_ rfl (jfr rfl) (tq_ rfl (jli rfl) (tq_ rfl (Jq_sub rfl rfl rfl (r:=((v:Int) - (s.q.g.inp:Int))) (w64 (by omega) (by omega) (by omega))) (zl 8 rfl (tq_ rfl (ltT rfl) ?_)))))))))
  refine zl 9 rfl (tc_ fn92 rfl (input_p s hs v hvi up) (zl 8 rfl ?_))
  exact r3_ hq_ rfl (by rw [bndP_in hvi])
 ·refine zc 3 rfl (tq_ rfl (Jq_nilCheckR rfl rfl) (tq_ rfl (jft rfl) (tq_ rfl (jft rfl) (tq_ rfl (jft rfl) (tq_ rfl (jfr rfl) (tq_ rfl (jli rfl) (tq_ rfl (jsb (v - s.q.g.inp) rfl) (zl 8 rfl (tq_ rfl (ltF rfl) ?_)))))))))
  refine zl 10 rfl ?_
  refine Tc_cond rfl (fun hup=>?_) (fun hup=>?_)
  ·refine zc 4 rfl (tc_ fn93 rfl (high_p s (by assumption) (v - s.q.g.inp) (by omega)) (zl 8 rfl ?_))
   exact r3_ hq_ rfl (by rw [hup,bndP_up hvi])
  ·refine zc 7 rfl (tc_ fn94 rfl (low_p s (by assumption) (v - s.q.g.inp) (by omega)) (zl 8 rfl ?_))
   exact r3_ hq_ rfl (by rw [hup,bndP_lo hvi])
end Go.Proofs.YtmpkandbccallaaGreatDoor
set_option linter.unusedSimpArgs false
set_option linter.unusedVariables false
namespace Go.Proofs.YtmpkandbccallaaGreatDoor
open Go Go.RowKit Rc
set_option maxRecDepth 10000 in
set_option maxHeartbeats 2000000 in
theorem box_p (s:Sc) (hs:SB 40001 s) (f:Af) {b:Nat} (hf:FOk b (s.q.g.inp + s.q.g.us.length) f) (hb:b≤50000000):Ctr Tryz.prog 12 [V.agg [],scV s,afV f] (R.tup [qV (qOf (boxD s f).1),V.one (El.row muE (boxD s f).2.1),V.one (Leaf.val (.bool (boxD s f).2.2))]):=by
 refine bd_ Tryz.func12 Tryz.ntmps12 rfl (fun w0 A0=>?_)
 have hB:=hs.B;have hq:=hs.q;have hd:=hs.d;have hpl:=hs.pl;have hl:=hs.ll
 have hg:=hq.g;have hr:=hq.r;have hlo:=hr.lo;have hhi:=hr.hi
 have h1:=hg.i1;have h2:=hg.i3;have h3:=hg.u4;have h4:=hg.o1;have h5:=hg.o3
 have hfl:=hf.fl
 haveI:=hfl.fm (by omega);haveI:=hfl.cb
 have h7:=hfl.len7 hq
 refine zc 13 rfl (tc_ fn39 rfl (look_p s hs) (zl 9 rfl (nf_ [0] [so 4 (D.ptr 1 0),so 5 (D.ptr 2 0),so 6 (D.ptr 3 0),so 9 (D.rep (ptrRep (vwL s))),so 10 (D.bool true)] [none,hb_ 42 (scL s),hb_ 29 (afL f),hb_ 27 [Leaf.val (.bool false),natL ([]),natL ([])]] rfl rfl rfl (dr_ 0 [] [] (dz 7 rfl (kc_ fn41 rfl (gvars_p s.q.g (by assumption)) ?_))))))
 refine kc_ fn40 rfl (lvalid f hf (by omega) (s.q.g.inp + s.q.g.us.length) (Nat.le_refl _) (by omega)) (dz 2 rfl (DK_nil (za 5 rfl (nf_ [1] [so 5 _,so 6 _,so 9 _] [none,none,_,_] rfl rfl rfl (zc 9 rfl (tq_ rfl (Jq_assign rfl (rfl)) (zl 4 rfl (Tc_growS 12 105 7 rfl rfl (zc 3 rfl ?_)))))))))
 refine tq_ rfl (jln rfl) (zl 4 rfl (fr_ [2] rfl ?_))
 refine lpR_ (fun m Γ H=>∃ (i:Nat) (n:Nat) (x:Rat) (out:List Mu),f.ts.length - i = m∧Γ = [(6,some (D.ptr 3 0)),(9,some (D.rep (ptrRep (vwL s)))),(11,some (D.ptr 4 0)),(12,some (D.v (V.one (Leaf.own 5 n)))),(41,some (D.v (V.one (El.row tmE f.ts)))),(42,some (D.val (.int .i64 ((f.ts.length:Nat):Int)))),(43,some (D.val (.int .i64 ((i:Nat):Int))))]∧H = [none,none,none,hb_ 27 [Leaf.val (.bool false),natL ([]),natL ([])],hb_ 27 (qL x),hgr 105 7 muE out n]∧i≤f.ts.length∧boxR s f i = some (x,out)∧PlOk 40001 (b + 1) i out) ⟨0,0,f.c,[],rfl,rfl,rfl,Nat.zero_le _,rfl,PlOk.start⟩ rfl ?_
 rintro m Γ H ⟨i,n,x,out,rfl,rfl,rfl,hi0,hR,hP⟩
 refine zc 1 rfl (nz_ [so 6 (D.ptr 3 0),so 9 (D.rep (ptrRep (vwL s))),so 11 (D.ptr 4 0),so 12 (D.v (V.one (Leaf.own 5 n))),so 41 (D.v (V.one (El.row tmE f.ts))),so 42 (D.val (.int .i64 ((f.ts.length:Nat):Int))),so 43 (D.val (.int .i64 ((i:Nat):Int)))] [none,none,none,hb_ 27 [Leaf.val (.bool false),natL ([]),natL ([])],hb_ 27 (qL x),hgr 105 7 muE out n] rfl rfl ?_)
 refine zc 1 rfl ?_
 by_cases hi:i < f.ts.length
 ·refine tq_ rfl (ltT rfl) (zl 9 rfl ?_)
  obtain ⟨t,ht⟩:∃ t,f.ts[i]? = some t:=⟨_,List.getElem?_eq_getElem hi⟩
  have htm:=List.mem_of_getElem? ht
  have htv:=hf.var t htm
  haveI htb:Br t.2 (b + 1):=(hf.bd t htm).br
  have hxb:=(box_ok hs hfl i (by omega) x _ (boxR_get hR)).br
  have hmul:=Nat.mul_le_mul_right (40001 + (b + 1) + 210) (show (f.ts.take i).length≤7 by rw [List.length_take];omega)
  haveI:Br x (b + 1 + 7 * (40001 + (b + 1) + 210)):=hxb.mono (by omega)
  have hol:=hP.len
  refine zc 1 rfl (tq_ rfl (jix i ht rfl) (tq_ rfl (jlr rfl) (zl 5 rfl (dr_ 1 [(12,7),(13,7)] [7] (dz 5 rfl (kc_ fn43 rfl (qsign (qOf (t.2)) (t.2) (qOf_q _) (Br.use (by omega))) (kq_ rfl (Jq_lss rfl rfl rfl (b:=(decide (t.2 < 0))) (decide_eq_decide.2 sg_lt)) (kc_ fn42 rfl (bound_p s hs t.1 htv (decide (t.2 < 0))) (dz 8 rfl ?_)))))))))
  refine DK_nil (za 3 rfl ?_)
  refine nz_ [so 6 _,so 9 _,so 11 _,so 12 _,so 14 (D.ptr 6 0),so 15 (D.ptr 7 0),so 16 (D.v (V.one (El.row muE (((bndP s t.1 (decide (t.2 < 0)))).2.1)))),so 17 (D.bool (((bndP s t.1 (decide (t.2 < 0)))).2.2)),so 41 _,so 42 _,so 43 _] [none,none,none,_,_,_,hb_ 92 [Leaf.val (.int .i64 ((t.1:Nat):Int)),Leaf.val (.bool (cneg t.2)),natL (limbs (cnum t.2)),natL (limbs (cden t.2))],hb_ 27 [Leaf.val (.bool ((bndP s t.1 (decide (t.2 < 0)))).1.neg),natL ((bndP s t.1 (decide (t.2 < 0)))).1.n,natL ((bndP s t.1 (decide (t.2 < 0)))).1.d]] rfl rfl ?_
  refine zc 5 rfl ?_
  refine Tc_cond rfl (fun hok=>?_) (fun hok=>?_)
  ·refine zc 8 rfl ?_
   exact r3_ hq_ rfl (by rw [boxR_stop ht hR (by simpa using hok)];show _ = R.tup [qV (qOf 0),_,_];rw [← qV_zero] <;> rfl)
  ·refine zc 3 rfl ?_
   have hok1:(bndP s t.1 (decide (t.2 < 0))).2.2 = true:=by simpa using hok
   have hbk:=bnd_ok hs htv (bndP_t hok1)
   haveI:=hbk.fq
   have hst:=hbk.step
   have hsl:=hst.len
   refine dr_ 0 [(6,4)] [4] (kp_ [] rfl (Jq_load_agg rfl rfl rfl (by decide) ty27 (by decide) (Nat.le_of_ble_eq_true rfl) rfl) (dz 3 rfl (kc_ fn45 rfl (qmul (qOf (t.2)) (t.2) (qOf_q _) (Br.use (by omega)) ((bndP s t.1 (decide (t.2 < 0)))).1 (((bndP s t.1 (decide (t.2 < 0)))).1.q) rfl (Fq.use (x:=((bndP s t.1 (decide (t.2 < 0)))).1) (by omega))) ?_)))
   refine kc_ fn44 rfl (qadd (qOf (x)) (x) (qOf_q _) (Br.use (by omega)) (qOf ((t.2) * (((bndP s t.1 (decide (t.2 < 0)))).1.q))) ((t.2) * (((bndP s t.1 (decide (t.2 < 0)))).1.q)) (qOf_q _) (Br.use (by omega))) (dz 1 rfl (DK_nil (za 2 rfl ?_)))
   refine nf_ [7] [so 6 _,so 9 _,so 11 _,so 12 _,so 14 _,so 16 _,so 41 _,so 42 _,so 43 _] [none,none,none,_,hb_ 27 (qL ((x) + ((t.2) * (((bndP s t.1 (decide (t.2 < 0)))).1.q)))),_,_,none] rfl rfl rfl (dr_ 1 [(6,8),(7,8)] [8] (dz 4 rfl (kc_ fn47 rfl (qneg (qOf (t.2)) (t.2) (qOf_q _) (Br.use (by omega))) ?_)))
   refine kc_ fn46 rfl (qmax (qOf (t.2)) (t.2) (qOf_q _) (Br.use (by omega)) (qOf (-(t.2))) (-(t.2)) (qOf_q _) (Br.use (by omega))) (dz 2 rfl (DK_nil (za 2 rfl (nf_ [6] [so 6 _,so 9 _,so 11 _,so 12 _,so 16 _,so 18 (D.ptr 8 0),so 41 _,so 42 _,so 43 _] [none,none,none,_,_,_,none,none,hb_ 27 (qL (mx (t.2) (-(t.2))))] rfl rfl rfl (zc 2 rfl (tq_ rfl (jln rfl) (zl 4 rfl ?_)))))))
   refine lpR_ (fun m Γ H=>∃ (k:Nat) (n2:Nat) (out2:List Mu),(bndP s t.1 (decide (t.2 < 0))).2.1.length - k = m∧Γ = [(6,some (D.ptr 3 0)),(9,some (D.rep (ptrRep (vwL s)))),(11,some (D.ptr 4 0)),(12,some (D.v (V.one (Leaf.own 5 n2)))),(18,some (D.ptr 8 0)),(41,some (D.v (V.one (El.row tmE f.ts)))),(42,some (D.val (.int .i64 ((f.ts.length:Nat):Int)))),(43,some (D.val (.int .i64 ((i:Nat):Int)))),(74,some (D.v (V.one (El.row muE (((bndP s t.1 (decide (t.2 < 0)))).2.1))))),(75,some (D.val (.int .i64 (((((bndP s t.1 (decide (t.2 < 0)))).2.1).length:Nat):Int)))),(76,some (D.val (.int .i64 ((k:Nat):Int))))]∧H = [none,none,none,hb_ 27 [Leaf.val (.bool false),natL ([]),natL ([])],hb_ 27 (qL ((x) + ((t.2) * (((bndP s t.1 (decide (t.2 < 0)))).1.q)))),hgr 105 7 muE out2 n2,none,none,hb_ 27 (qL (mx (t.2) (-(t.2))))]∧k≤(bndP s t.1 (decide (t.2 < 0))).2.1.length∧out2 = out ++ sclM (absM t.2) ((bndP s t.1 (decide (t.2 < 0))).2.1.take k)) ⟨0,n,out,rfl,rfl,rfl,Nat.zero_le _,by simp [sclM]⟩ rfl ?_
   rintro m Γ H ⟨k,n2,out2,rfl,rfl,rfl,hk0,hout2⟩
   refine zc 2 rfl ?_
   by_cases hk:k < (bndP s t.1 (decide (t.2 < 0))).2.1.length
   ·refine tq_ rfl (ltT rfl) (zl 9 rfl ?_)
    obtain ⟨y,hy⟩:∃ y,(bndP s t.1 (decide (t.2 < 0))).2.1[k]? = some y:=⟨_,List.getElem?_eq_getElem hk⟩
    haveI hyb:=hst.bd y (List.mem_of_getElem? hy)
    have hol2:out2.length≤30:=by rw [hout2,List.length_append,sclM,List.length_map,List.length_take];omega
    refine zc 1 rfl (tq_ rfl (jix k hy rfl) (tq_ rfl (jlr rfl) (zl 4 rfl ?_)))
    refine nz_ [so 6 (D.ptr 3 0),so 9 (D.rep (ptrRep (vwL s))),so 11 (D.ptr 4 0),so 12 (D.v (V.one (Leaf.own 5 n2))),so 18 (D.ptr 8 0),so 20 (D.ptr 9 0),so 41 (D.v (V.one (El.row tmE f.ts))),so 42 (D.val (.int .i64 ((f.ts.length:Nat):Int))),so 43 (D.val (.int .i64 ((i:Nat):Int))),so 74 (D.v (V.one (El.row muE (((bndP s t.1 (decide (t.2 < 0)))).2.1)))),so 75 (D.val (.int .i64 (((((bndP s t.1 (decide (t.2 < 0)))).2.1).length:Nat):Int))),so 76 (D.val (.int .i64 ((k:Nat):Int)))] [none,none,none,hb_ 27 [Leaf.val (.bool false),natL ([]),natL ([])],hb_ 27 (qL ((x) + ((t.2) * (((bndP s t.1 (decide (t.2 < 0)))).1.q)))),hgr 105 7 muE out2 n2,none,none,hb_ 27 (qL (mx (t.2) (-(t.2)))),hb_ 105 [Leaf.val (.int .i64 y.r.kind),Leaf.val (.int .i64 y.r.idx),Leaf.val (.int .i64 y.r.lo),Leaf.val (.int .i64 y.r.hi),Leaf.val (.bool y.c.neg),natL y.c.n,natL y.c.d]] rfl rfl ?_
    refine dr_ 0 [(9,5)] [5] (dz 6 rfl (kc_ fn45 rfl (qmul (qOf (mx (t.2) (-(t.2)))) (mx (t.2) (-(t.2))) (qOf_q _) (Br.use (by omega)) y.c (y.c.q) rfl (Fq.use (x:=y.c) (by omega))) (kc_ fn48 rfl (mult_p y.r (qOf ((mx (t.2) (-(t.2))) * (y.c.q)))) (ke_ rfl (fun _=>Je_buildSlice rfl un44 ty105 tz105 rfl (by decide) (by decide) rfl (by decide) rfl) ?_))))
    refine ki_ 5 rfl (dap (e:=muE) (⟨⟨y.r.kind,y.r.idx,y.r.lo,y.r.hi⟩,(qOf ((mx (t.2) (-(t.2))) * (y.c.q)))⟩) rfl rfl) (dz 1 rfl (DK_nil (za 2 rfl ?_)))
    refine nf_ [9] [so 6 _,so 9 _,so 11 _,so 12 (D.v (V.one (Leaf.own 5 (n2 + 1)))),so 18 _,so 41 _,so 42 _,so 43 _,so 74 _,so 75 _,so 76 _] [none,none,none,_,_,hgr 105 7 muE (out2 ++ [⟨⟨y.r.kind,y.r.idx,y.r.lo,y.r.hi⟩,(qOf ((mx (t.2) (-(t.2))) * (y.c.q)))⟩]) (n2 + 1),none,none,_,none] rfl rfl rfl (zc 1 rfl (tq_ rfl (jad (k + 1) rfl) (zl 2 rfl (trim_ 9 rfl ?_))))
    exact nx_ ⟨k + 1,_,_,rfl,rfl,rfl,hk,(by rw [hout2,List.append_assoc,scl_take hy])⟩ rfl
   ·refine tq_ rfl (ltF rfl) (zl 10 rfl ?_)
    rw [show k = (bndP s t.1 (decide (t.2 < 0))).2.1.length by omega,List.take_length] at hout2
    subst hout2
    refine zc 1 rfl (tq_ rfl (jad (i + 1) rfl) (zl 2 rfl (At_free 8 (trim_ 6 rfl ?_))))
    exact nx_ ⟨i + 1,_,_,_,rfl,rfl,rfl,hi,boxR_step ht hR hok1,hP.next hst htb⟩ rfl
 ·refine tq_ rfl (ltF rfl) (zl 10 rfl ?_)
  have hie:i = f.ts.length:=by omega
  rw [hie] at hR
  have hc:=hP.cof
  have hmb:=hP.mb
  have hol:=hP.len
  refine zc 1 rfl (tq_ rfl (Jq_view (r:=5) (n:=n) (x:=V.one (Leaf.own 5 n)) (x':=V.one (El.row muE out)) (Jq_move rfl rfl) (RowAt.ofE muE out rfl (by decide)) (by decide) (.inr ⟨rfl,rfl⟩)) (tc_ fn49 rfl (collect out (by assumption) (by assumption) (by omega) (by omega)) (zl 7 rfl ?_)))
  refine nz_ [so 6 _,so 11 _,so 12 (D.v (V.one (El.row muE (collM out))))] [none,none,none,_,_,_] rfl rfl (zc 8 rfl ?_)
  exact r3_ hq_ rfl (by rw [boxR_end hR])
set_option maxRecDepth 10000 in
theorem var_p (s:Sc) (hs:SB 40001 s) (v:Nat) (hv:v < (s.q.g.inp + s.q.g.us.length)):Ctr Tryz.prog 14 [scV s,V.one (Leaf.val (.int .i64 ((v:Int))))] (R.tup [qV (bndP s v false).1,qV (bndP s v true).1,V.one (Leaf.val (.bool (bndP s v false).2.2)),V.one (Leaf.val (.bool (bndP s v true).2.2))]):=by
 refine bd_ Tryz.func14 Tryz.ntmps14 rfl (fun w0 A0=>?_)
 have hB:=hs.B;have hq:=hs.q;have hd:=hs.d;have hpl:=hs.pl;have hl:=hs.ll
 have hg:=hq.g;have hr:=hq.r;have hlo:=hr.lo;have hhi:=hr.hi
 have h1:=hg.i1;have h2:=hg.i3;have h3:=hg.u4;have h4:=hg.o1;have h5:=hg.o3
 refine zc 12 rfl (tc_ fn39 rfl (look_p s hs) (zl 14 rfl (tq_ rfl (ltF rfl) (zl 6 rfl (tc_ fn41 rfl (gvars_p s.q.g (by assumption)) (tq_ rfl (geF rfl) (zl 10 rfl (tc_ fn42 rfl (bound_p s hs v hv false) (zl 12 rfl ?_)))))))))
 refine tc_ fn42 rfl (bound_p s hs v hv true) (zl 8 rfl ?_)
 exact Tc_ret4 hq_ rfl (rA ty27 rfl rfl rfl rfl) (rA ty27 rfl rfl rfl rfl) rfl rfl rfl
set_option maxRecDepth 10000 in
theorem box_name  : Ctr Tryz.prog 35 [V.agg []] (R.one (V.one (Leaf.val (.string ⟨#[98,111,120]⟩)))):=by
 refine bd_ Tryz.func35 Tryz.ntmps35 rfl (fun w0 A0=>?_)
 refine zc 11 rfl ?_
 exact r1_ hq_ rfl rfl
end Go.Proofs.YtmpkandbccallaaGreatDoor
set_option linter.unusedSimpArgs false
set_option linter.unusedVariables false
namespace Go.Proofs.YtmpkandbccallaaGreatDoor
open Go Go.RowKit Rc
set_option maxRecDepth 10000 in
theorem rvalid_big (f:Af) {B n:Nat} (hcan:CanT f.ts) (hB:∀ t∈f.ts,Br t.2 B) [Br f.c B] (hBC:B≤300000000000) (hl:f.ts.length≤1000) (hvr:∀ t∈f.ts,t.1 < n) (hn:n≤1000):Ctr Tryz.prog 51 [afV f,V.one (Leaf.val (.int .i64 (4611686018427387904)))] (R.one (V.one (Leaf.val (.bool true)))):=by
 refine bd_ Tryz.func51 Tryz.ntmps51 rfl (fun w0 A0=>?_)
 refine zc 13 rfl (lpR_ (fun m Γ H=>∃ (i:Nat),f.ts.length - i = m∧Γ = [(1,some (D.val (.int .i64 4611686018427387904))),(2,some (D.ptr 0 0)),(5,some (D.val (.int .i64 ((i:Nat):Int))))]∧H = [hb_ 29 (afL f)]∧i≤f.ts.length) ⟨0,rfl,rfl,rfl,Nat.zero_le _⟩ rfl ?_)
 rintro m Γ H ⟨i,rfl,rfl,rfl,hi0⟩
 refine zc 6 rfl (tq_ rfl (jln rfl) ?_)
 by_cases hi:i < f.ts.length
 ·refine tq_ rfl (ltT rfl) (zl 8 rfl ?_)
  obtain ⟨x,hx⟩:∃ x,f.ts[i]? = some x:=⟨_,List.getElem?_eq_getElem hi⟩
  haveI hbx:=hB x (List.mem_of_getElem? hx)
  obtain ⟨hn0,hgt,hlt⟩:=hcan.get hx
  have hxv:=hvr x (List.mem_of_getElem? hx)
  refine zc 4 rfl (tq_ rfl (jix i hx rfl) (tq_ rfl (jlr rfl) (zl 5 rfl (dr_ 0 [] [] (dz 2 rfl (kq_ rfl (ltF rfl) (dz 4 rfl (kq_ rfl (geF rfl) (dz 3 rfl ?_)))))))))
  by_cases hi1:0 < i
  ·refine kq_ rfl (gtT rfl) (dz 4 rfl ?_)
   obtain ⟨y,hy⟩:∃ y,f.ts[i - 1]? = some y:=⟨_,List.getElem?_eq_getElem (by omega)⟩
   have hyx:=hcan.prev hi1 hx hy
   refine kq_ rfl (jsb (i - 1) rfl) (kq_ rfl (jix (i - 1) hy rfl) (kq_ rfl (jfr rfl) (kq_ rfl (jli rfl) (dz 2 rfl (kq_ rfl (geF rfl) (dz 5 rfl (kc_ fn37 rfl (rqsign (qOf (x.2)) (x.2) (qOf_q _) (Br.use (by omega))) (kq_ rfl (eqF rfl (sg_ne hn0)) (dz 4 rfl ?_)))))))))
   refine kc_ fn110 rfl (rqvalid (qOf (x.2)) (x.2) (qOf_q _) (Br.use (by omega))) (kis_ true rfl (isC_of _) (dz 2 rfl (DK_nil (za 7 rfl (tq_ rfl (jad (i + 1) rfl) (zl 2 rfl (At_free 1 (trim_ 1 rfl ?_))))))))
   exact nx_ ⟨i + 1,rfl,rfl,rfl,hi⟩ rfl
  ·refine kq_ rfl (gtF rfl) (dz 16 rfl (kc_ fn37 rfl (rqsign (qOf (x.2)) (x.2) (qOf_q _) (Br.use (by omega))) (kq_ rfl (eqF rfl (sg_ne hn0)) (dz 4 rfl (kc_ fn110 rfl (rqvalid (qOf (x.2)) (x.2) (qOf_q _) (Br.use (by omega))) (kis_ true rfl (isC_of _) (dz 2 rfl (DK_nil (za 7 rfl ?_)))))))))
   refine tq_ rfl (jad (i + 1) rfl) (zl 2 rfl (At_free 1 (trim_ 1 rfl ?_)))
   exact nx_ ⟨i + 1,rfl,rfl,rfl,hi⟩ rfl
 ·refine tq_ rfl (ltF rfl) (zl 12 rfl (tc_ fn110 rfl (rqvalid (qOf (f.c)) (f.c) (qOf_q _) (Br.use (by omega))) (is_ true rfl (isC_of _) (zl 3 rfl ?_))))
  exact r1_ hq_ rfl rfl
set_option maxRecDepth 10000 in
set_option maxHeartbeats 2000000 in
theorem proves_r (s:Sc) (hs:SOk s) (f:Af) {B:Nat} (hf:FL B (s.q.g.inp + s.q.g.us.length) f) (hBf:B≤1000000) (l:List Mu) (hc:CanM l) (hm:MB 3000000 l) (hok:∀ x∈l,(formM s x.r).2 = true) (hll2:l.length≤14) (h:(fSub f (sumM s l)).ts = []∧0≤(fSub f (sumM s l)).c):Ctr Tryz.prog 139 [scV s,afV f,V.one (El.row muE l)] (R.one (V.one (Leaf.val (.bool true)))):=by
 refine bd_ Tryz.func139 Tryz.ntmps139 rfl (fun w0 A0=>?_)
 have hq:=hs.q;have hd:=hs.d;have hpl:=hs.pl;have hB:=hs.B;have hll:=hs.ll
 have hg:=hq.g;have hr:=hq.r;have hlo:=hr.lo;have hhi:=hr.hi
 have g1:=hg.i1;have g2:=hg.i3;have g3:=hg.u4;have g4:=hg.o1;have g5:=hg.o3
 haveI:=hf.fm (by omega);haveI:=hf.cb
 have hfl:=(hf.fm (n:=(s.q.g.inp + s.q.g.us.length)) (by omega)).len
 have hsm:FL (14 * (4 * 40001 + 200 + 3000000 + 42)) (s.q.g.inp + s.q.g.us.length) (sumM s l):=(sumM_fl hq hd hB hm).mono (Nat.mul_le_mul_right _ hll2) (Nat.le_refl _)
 haveI:=hsm.fm (by omega);haveI:=hsm.cb
 haveI:=((hf.sub hsm).cb)
 refine zc 11 rfl (tc_ fn18 rfl (sum_r s hB (by omega) (by omega) hq hd (by omega) (by omega) l hc hm (by omega) hok (by omega)) (zl 10 rfl (nf_ [0] [so 4 (D.ptr 1 0),so 7 (D.ptr 2 0),so 8 (D.val (.int .i64 0))] [none,hb_ 29 (afL f),hb_ 29 (afL (sumM s l))] rfl rfl rfl (zc 5 rfl (tc_ fn51 rfl (rvalid_big f hf.can hf.bd (by omega) (by omega) hf.var (by omega)) (zl 11 rfl ?_))))))
 refine tc_ fn20 rfl (rsub7 f (sumM s l) (by omega) (by omega) (by omega)) (zl 5 rfl (nf_ [1,2] [so 9 (D.ptr 3 0)] [none,none,none,hb_ 29 (afL (fSub f (sumM s l)))] rfl rfl rfl (zc 3 rfl (tq_ rfl (jln rfl) (tq_ rfl (eqT rfl (by rw [h.1];rfl)) (zl 3 rfl (tc_ fn37 rfl (rqsign (qOf ((fSub f (sumM s l)).c)) ((fSub f (sumM s l)).c) (qOf_q _) (Br.use (by omega))) ?_)))))))
 refine tq_ rfl (geT rfl (sg_ge.2 h.2)) (zl 4 rfl ?_)
 exact r1_ hq_ rfl rfl
set_option maxRecDepth 10000 in
set_option maxHeartbeats 2000000 in
theorem lemma_d (s:Sc) (hs:SOk s) (m:Lm) (hm:DerL s m):Ctr Tryz.prog 84 [scV s,lmV m] (R.one (V.one (Leaf.val (.bool true)))):=by
 refine bd_ Tryz.func84 Tryz.ntmps84 rfl (fun w0 A0=>?_)
 have hq:=hs.q;have hd:=hs.d;have hpl:=hs.pl;have hB:=hs.B;have hll:=hs.ll
 have hg:=hq.g;have hr:=hq.r;have hlo:=hr.lo;have hhi:=hr.hi
 have g1:=hg.i1;have g2:=hg.i3;have g3:=hg.u4;have g4:=hg.o1;have g5:=hg.o3
 have hu0:=hm.lok.u0;have hu1:=hm.lok.u
 obtain ⟨p,hp⟩:∃ p,s.q.g.us[m.unit.toNat]? = some p:=⟨_,List.getElem?_eq_getElem hu1⟩
 have hpo:=(unit_fok hq hp).fl
 haveI hvq:Br m.v.q 40001:=(hm.lok.hb.mono (KB_le (j:=m.unit.toNat) (by omega))).br
 haveI hvF:Fq m.v 40001:=by rw [hm.lok.can];infer_instance
 have hfn:FL 40001 (s.q.g.inp + s.q.g.us.length) (fN m.v.q):=FL.n hvq
 have hfs:=hpo.sub hfn
 have hfc:=FL.sc (c:=((-1:Int):Rat)) hfs
 haveI:=hpo.fm (by omega);haveI:=hpo.cb
 haveI:=hfn.fm (by omega);haveI:=hfn.cb
 haveI:=hfs.fm (by omega);haveI:=hfs.cb
 haveI:=hfc.fm (by omega);haveI:=hfc.cb
 refine zc 12 rfl (tc_ fn50 rfl (qvalid_r s.q hq) (zl 4 rfl (tq_ rfl (ltF rfl) (zl 8 rfl (tq_ rfl (jln rfl) (tq_ rfl (geF rfl) (zl 4 rfl (tc_ fn110 rfl (rqvalid m.v m.v.q rfl (Fq.use (x:=m.v) (by omega))) (is_ true rfl (isC_iff.2 hm.lok.can) ?_)))))))))
 refine zl 8 rfl (nz_ [so 2 (D.ptr 0 0),so 3 (D.ptr 1 0)] [hb_ 42 (scL s),hb_ 133 [Leaf.val (.int .i64 m.unit),Leaf.val (.bool m.up),Leaf.val (.bool m.v.neg),natL m.v.n,natL m.v.d,El.row muE m.pf]] rfl rfl (dr_ 1 [(12,2),(13,2)] [2] (dz 6 rfl (kq_ rfl (jix m.unit.toNat hp rfl (by omega)) (kq_ rfl (jlr rfl) (dz 2 rfl (keq_ (D.agg (qL m.v.q)) rfl (dq_can hm.lok.can) ?_)))))))
 refine kc_ fn21 rfl (rnumber m.v.q) (kc_ fn20 rfl (rsub7 p (fN m.v.q) (by omega) (by omega) (by omega)) (dz 2 rfl (DK_nil (za 3 rfl (nz_ [so 2 _,so 3 _,so 5 (D.ptr 2 0)] [_,_,hb_ 29 (afL (fSub p (fN m.v.q)))] rfl rfl (zc 5 rfl ?_))))))
 refine Tc_cond rfl (fun hup=>?_) (fun hup=>?_)
 ·refine dr_ 0 [(3,2)] [2] (kp_ [] rfl (Jq_load_agg rfl rfl rfl (by decide) ty29 (by decide) (Nat.le_of_ble_eq_true rfl) rfl) (kc_ fn36 rfl (rqof (-1) (by decide) (by decide)) (kc_ fn64 rfl (rscale_w (fSub p (fN m.v.q)) ((-1:Int):Rat) (by omega) (by omega)) (dz 1 rfl (DK_nil (za 7 rfl ?_))))))
  refine tc_ fn139 rfl (proves_r s hs (fSc (fSub p (fN m.v.q)) ((-1:Int):Rat)) hfc (by omega) m.pf hm.can hm.bd hm.ok hm.len (by have h:=hm.sum p hp;unfold lemF at h;rw [if_pos hup] at h;exact h)) (zl 3 rfl ?_)
  exact r1_ hq_ rfl rfl
 ·refine zc 3 rfl (nz_ [so 2 _,so 3 _,so 5 _] [_,_,_] rfl rfl (zc 5 rfl (tc_ fn139 rfl (proves_r s hs (fSub p (fN m.v.q)) hfs (by omega) m.pf hm.can hm.bd hm.ok hm.len (by have h:=hm.sum p hp;unfold lemF at h;rw [if_neg (by rw [hup];decide)] at h;exact h)) (zl 3 rfl ?_))))
  exact r1_ hq_ rfl rfl
set_option maxRecDepth 10000 in
theorem fits_okY (q:Qu) (hq:QOk q) (d:Dc) {b:Nat} (hd:DOk b q d) (hb:b≤1000000):Ctr Tryz.prog 30 [quV q,dcV d] (R.one (V.one (Leaf.val (.bool true)))):=by
 refine bd_ Tryz.func30 Tryz.ntmps30 rfl (fun w0 A0=>?_)
 refine zc 10 rfl (tc_ fn50 rfl (qvalid_r q hq) (zl 3 rfl (tc_ fn74 rfl (fits_r q d hd hb) (zl 4 rfl ?_))))
 exact r1_ hq_ rfl rfl
set_option maxRecDepth 10000 in
theorem scope_r (s:Sc) (hs:SOk s) (hA:DerA s s.lems):Ctr Tryz.prog 34 [scV s] (R.one (V.one (Leaf.val (.bool true)))):=by
 refine bd_ Tryz.func34 Tryz.ntmps34 rfl (fun w0 A0=>?_)
 have hq:=hs.q;have hd:=hs.d;have hpl:=hs.pl;have hB:=hs.B;have hll:=hs.ll
 have hg:=hq.g;have hr:=hq.r;have hlo:=hr.lo;have hhi:=hr.hi
 have g1:=hg.i1;have g2:=hg.i3;have g3:=hg.u4;have g4:=hg.o1;have g5:=hg.o3
 refine zc 11 rfl (tc_ fn50 rfl (qvalid_r s.q hq) (zl 13 rfl (lpR_ (fun m Γ H=>∃ (i:Nat),s.path.length - i = m∧Γ = [(1,some (D.ptr 0 0)),(3,some (D.val (.int .i64 ((i:Nat):Int))))]∧H = [hb_ 42 (scL s)]∧i≤s.path.length) ⟨0,rfl,rfl,rfl,Nat.zero_le _⟩ rfl ?_)))
 rintro m Γ H ⟨i,rfl,rfl,rfl,hi0⟩
 refine zc 6 rfl (tq_ rfl (jln rfl) ?_)
 by_cases hi:i < s.path.length
 ·refine tq_ rfl (ltT rfl) (zl 8 rfl ?_)
  obtain ⟨d,hd_⟩:∃ d,s.path[i]? = some d:=⟨_,List.getElem?_eq_getElem hi⟩
  have hdo:=hs.d d (List.mem_of_getElem? hd_)
  refine nz_ [so 1 (D.ptr 0 0),so 3 (D.val (.int .i64 ((i:Nat):Int)))] [hb_ 42 (scL s)] rfl rfl (dr_ 0 [] [] (dz 5 rfl (kq_ rfl (jix i hd_ rfl) (kq_ rfl (jlr rfl) (kc_ fn30 rfl (fits_okY s.q hq d hdo (by omega)) (dz 1 rfl (DK_nil (za 5 rfl (nz_ [so 1 _,so 3 _] [_] rfl rfl ?_)))))))))
  refine zc 2 rfl (tq_ rfl (jad (i + 1) rfl) (zl 2 rfl ?_))
  exact nx_ ⟨i + 1,rfl,rfl,rfl,hi⟩ rfl
 ·refine tq_ rfl (ltF rfl) (zl 15 rfl (lpR_ (fun m Γ H=>∃ (j:Nat),s.lems.length - j = m∧Γ = [(1,some (D.ptr 0 0)),(4,some (D.val (.int .i64 ((j:Nat):Int))))]∧H = [hb_ 42 (scL s)]∧j≤s.lems.length) ⟨0,rfl,rfl,rfl,Nat.zero_le _⟩ rfl ?_))
  rintro m Γ H ⟨j,rfl,rfl,rfl,hj0⟩
  refine zc 6 rfl (tq_ rfl (jln rfl) ?_)
  by_cases hj:j < s.lems.length
  ·refine tq_ rfl (ltT rfl) (zl 8 rfl ?_)
   obtain ⟨m,hm⟩:∃ m,s.lems[j]? = some m:=⟨_,List.getElem?_eq_getElem hj⟩
   have hdm:=hA j m hm
   have hsb:SOk (withL s (s.lems.take j)):=LOk.withL hs (fun x hx=>hs.l x (List.mem_of_mem_take hx)) (by rw [List.length_take];omega)
   refine nz_ [so 1 (D.ptr 0 0),so 4 (D.val (.int .i64 ((j:Nat):Int)))] [hb_ 42 (scL s)] rfl rfl (dr_ 1 [(9,1),(10,1)] [1] (dz 7 rfl (kq_ rfl (Jq_sliceR_hi lmE s.lems (j) rfl rfl rfl un40 ty133 rfl (by omega)) (dz 3 rfl (DK_nil (za 2 rfl (nz_ [so 1 _,so 4 _,so 5 (D.ptr 1 0)] [_,hb_ 42 (quL s.q ++ [El.row dcE s.path,El.row lmE (s.lems.take (j))])] rfl rfl (dr_ 0 [] [] ?_))))))))
   refine dz 4 rfl (kq_ rfl (jix j hm rfl) (kq_ rfl (jlr rfl) (kc_ fn84 rfl (lemma_d (withL s (s.lems.take j)) hsb m hdm) (dz 1 rfl (DK_nil (za 5 rfl (nf_ [1] [so 1 _,so 4 _] [_,none] rfl rfl rfl (zc 2 rfl (tq_ rfl (jad (j + 1) rfl) ?_)))))))))
   refine zl 2 rfl (trim_ 1 rfl ?_)
   exact nx_ ⟨j + 1,rfl,rfl,rfl,hj⟩ rfl
  ·refine tq_ rfl (ltF rfl) (zl 13 rfl ?_)
   exact r1_ hq_ rfl rfl
set_option maxRecDepth 10000 in
set_option maxHeartbeats 2000000 in
theorem small_r (l:List Lm) (hl:l.length≤9223372036854775807) (hp:∀ m∈l,m.pf.length≤9223372036854775807):Ctr Tryz.prog 33 [V.one (El.row lmE l)] (R.one (V.one (Leaf.val (.bool (smallB l))))):=by
 refine bd_ Tryz.func33 Tryz.ntmps33 rfl (fun w0 A0=>?_)
 refine zc 12 rfl (lpR_ (fun m Γ H=>∃ (i:Nat),l.length - i = m∧Γ = [(0,some (D.v (V.one (El.row lmE l)))),(3,some (D.val (.int .i64 ((i:Nat):Int))))]∧H = []∧i≤l.length∧(l.take i).all smallL = true) ⟨0,rfl,rfl,rfl,Nat.zero_le _,rfl⟩ rfl ?_)
 rintro m Γ H ⟨i,rfl,rfl,rfl,hi0,hall⟩
 refine zc 5 rfl (tq_ rfl (jln rfl) ?_)
 by_cases hi:i < l.length
 ·refine tq_ rfl (ltT rfl) (zl 9 rfl ?_)
  obtain ⟨x,hx⟩:∃ x,l[i]? = some x:=⟨_,List.getElem?_eq_getElem hi⟩
  have hpx:=hp x (List.mem_of_getElem? hx)
  refine zc 3 rfl (tq_ rfl (jix i hx rfl) (tq_ rfl (jft rfl) (tq_ rfl (jfr rfl) (tq_ rfl (jli rfl) (tq_ rfl (jln rfl) ?_)))))
  by_cases he1:4 < x.v.n.length
  ·refine tq_ rfl (gtT rfl) (zl 24 rfl (zl 3 rfl ?_))
   exact r1_ hq_ rfl (by rw [smallB_f hx (smallL_f (by omega))])
  ·refine tq_ rfl (gtF rfl) (zl 1 rfl ?_)
   have hn1:x.v.n.length≤4:=by omega
   refine zl 2 rfl (tq_ rfl (jix i hx rfl) (tq_ rfl (jft rfl) (tq_ rfl (jfr rfl) (tq_ rfl (jli rfl) (tq_ rfl (jln rfl) ?_)))))
   by_cases he2:4 < x.v.d.length
   ·refine tq_ rfl (gtT rfl) (zl 18 rfl ?_)
    exact r1_ hq_ rfl (by rw [smallB_f hx (smallL_f (by omega))])
   ·refine tq_ rfl (gtF rfl) (zl 2 rfl ?_)
    have hn2:x.v.d.length≤4:=by omega
    refine zl 2 rfl (tq_ rfl (jix i hx rfl) (tq_ rfl (jfr rfl) (tq_ rfl (jli rfl) (tq_ rfl (jln rfl) ?_))))
    by_cases he3:30 < x.pf.length
    ·refine tq_ rfl (gtT rfl) (zl 9 rfl ?_)
     exact r1_ hq_ rfl (by rw [smallB_f hx (smallL_f (by omega))])
    ·refine tq_ rfl (gtF rfl) (zl 7 rfl ?_)
     have hn3:x.pf.length≤30:=by omega
     refine zc 5 rfl (lpR_ (fun m Γ H=>∃ (j:Nat),x.pf.length - j = m∧Γ = [(0,some (D.v (V.one (El.row lmE l)))),(3,some (D.val (.int .i64 ((i:Nat):Int)))),(4,some (D.val (.int .i64 ((j:Nat):Int))))]∧H = []∧j≤x.pf.length∧(x.pf.take j).all smallM = true) ⟨0,rfl,rfl,rfl,Nat.zero_le _,rfl⟩ rfl ?_)
     rintro m Γ H ⟨j,rfl,rfl,rfl,hj0,hjall⟩
     refine zc 6 rfl (tq_ rfl (jix i hx rfl) (tq_ rfl (jfr rfl) (tq_ rfl (jli rfl) (tq_ rfl (jln rfl) ?_))))
     by_cases hj:j < x.pf.length
     ·refine tq_ rfl (ltT rfl) (zl 8 rfl ?_)
      obtain ⟨y,hy⟩:∃ y,x.pf[j]? = some y:=⟨_,List.getElem?_eq_getElem hj⟩
      refine zc 3 rfl (tq_ rfl (jix i hx rfl) (tq_ rfl (jfr rfl) (tq_ rfl (jli rfl) (zl 1 rfl (tq_ rfl (jix j hy rfl) (tq_ rfl (jfr rfl) (tq_ rfl (jfr rfl) (tq_ rfl (jli rfl) (tq_ rfl (jln rfl) ?_)))))))))
      by_cases hd1:4 < y.c.n.length
      ·refine tq_ rfl (gtT rfl) (zl 22 rfl ?_)
       exact r1_ hq_ rfl (by rw [smallB_f hx (smallL_m hy (by omega))])
      ·refine tq_ rfl (gtF rfl) (zl 1 rfl ?_)
       have hm1:y.c.n.length≤4:=by omega
       refine zl 2 rfl (tq_ rfl (jix i hx rfl) (tq_ rfl (jfr rfl) (tq_ rfl (jli rfl) (zl 1 rfl (tq_ rfl (jix j hy rfl) (tq_ rfl (jfr rfl) (tq_ rfl (jfr rfl) (tq_ rfl (jli rfl) (tq_ rfl (jln rfl) ?_)))))))))
       by_cases hd2:4 < y.c.d.length
       ·refine tq_ rfl (gtT rfl) (zl 9 rfl ?_)
        exact r1_ hq_ rfl (by rw [smallB_f hx (smallL_m hy (by omega))])
       ·refine tq_ rfl (gtF rfl) (zl 7 rfl ?_)
        have hm2:y.c.d.length≤4:=by omega
        refine zc 2 rfl (tq_ rfl (jad (j + 1) rfl) (zl 2 rfl ?_))
        exact nx_ ⟨j + 1,rfl,rfl,rfl,hj,all_step hy hjall (by unfold smallM;rw [decide_eq_true hm1,decide_eq_true hm2];rfl)⟩ rfl
     ·refine tq_ rfl (ltF rfl) (zl 9 rfl ?_)
      have hpall:x.pf.all smallM = true:=by rw [show j = x.pf.length by omega,List.take_length] at hjall;exact hjall
      refine zc 2 rfl (tq_ rfl (jad (i + 1) rfl) (zl 2 rfl ?_))
      exact nx_ ⟨i + 1,rfl,rfl,rfl,hi,all_step hx hall (smallL_t ⟨hn1,hn2,hn3⟩ hpall)⟩ rfl
 ·refine tq_ rfl (ltF rfl) (zl 9 rfl ?_)
  have hie:i = l.length:=by omega
  rw [hie,List.take_length] at hall
  refine zc 2 rfl (tq_ rfl (jln rfl) (zl 4 rfl ?_))
  exact r1_ hq_ rfl (by unfold smallB;rw [hall,Bool.true_and,show decide (l.length≤20) = decide (((l.length:Nat):Int)≤20) from decide_eq_decide.2 (by omega)] <;> rfl)
end Go.Proofs.YtmpkandbccallaaGreatDoor
