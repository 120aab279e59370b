/- Parts of the proof, 5: the texts Aff, WkA, WkB, WkC, WkD, WkE, as far as they are used. -/
import Derived.Test.YtjdbopkbfkgpdaaGreatDoorRd04
set_option linter.unusedSimpArgs false
set_option linter.unusedVariables false
namespace Rc
open Go Go.RowKit
abbrev Tm:Type:=Nat × Rat
def qL (r:Rat):List Leaf:=[Leaf.val (.bool (cneg r)),natL (limbs (cnum r)),natL (limbs (cden r))]
def tmE:El Tm:=⟨fun t=>[Leaf.val (.int .i64 (t.1:Int)),Leaf.val (.bool (cneg t.2)),natL (limbs (cnum t.2)),natL (limbs (cden t.2))],4,fun _=>rfl,fun _=>rfl⟩
structure Af where
 ts:List Tm
 c:Rat
@[reducible] def afL (f:Af):List Leaf:=[tmE.row f.ts,Leaf.val (.bool (cneg f.c)),natL (limbs (cnum f.c)),natL (limbs (cden f.c))]
@[reducible] def afV (f:Af):V:=V.agg (afL f)
def afE:El Af:=⟨fun f=>[tmE.row f.ts,Leaf.val (.bool (cneg f.c)),natL (limbs (cnum f.c)),natL (limbs (cden f.c))],4,fun _=>rfl,fun _=>rfl⟩
def nz (l:List Tm) (t:Tm):List Tm:=if t.2 = 0 then l else l ++ [t]
theorem nz_pos {l:List Tm} {v:Nat} {c:Rat} (h:c = 0):nz l (v,c) = l:=if_pos h
theorem nz_neg {l:List Tm} {v:Nat} {c:Rat} (h:¬ c = 0):nz l (v,c) = l ++ [(v,c)]:=if_neg h
theorem nz_le (l:List Tm) (t:Tm):(tmE.all l).length≤(tmE.all (nz l t)).length:=by
 unfold nz
 split
 ·exact Nat.le_refl _
 ·rw [El.all_append,List.length_append];omega
theorem sg_ne {c:Rat} (h:¬ c = 0):sg c≠0:=by
 unfold sg
 rw [if_neg h]
 split <;> decide
def scT (ts:List Tm) (c:Rat):List Tm:=ts.foldl (fun out t=>nz out (t.1,t.2 * c)) []
theorem scT_snoc (ts:List Tm) (t:Tm) (c:Rat):scT (ts ++ [t]) c = nz (scT ts c) (t.1,t.2 * c):=by
 unfold scT
 rw [List.foldl_append]
 rfl
theorem take_snoc {α:Type} {l:List α} {i:Nat} {x:α} (h:l[i]? = some x):l.take (i + 1) = l.take i ++ [x]:=by
 rw [List.take_add_one,h];rfl
theorem scT_take {ts:List Tm} {i:Nat} {x:Tm} {c:Rat} (h:ts[i]? = some x):scT (ts.take (i + 1)) c = nz (scT (ts.take i) c) (x.1,x.2 * c):=by
 rw [take_snoc h,scT_snoc]
theorem nz_len (l:List Tm) (t:Tm):(nz l t).length≤l.length + 1:=by
 unfold nz
 split <;> simp
theorem scT_len (ts:List Tm) (c:Rat):(scT ts c).length≤ts.length:=by
 have:∀ (ts out:List Tm),(ts.foldl (fun out t=>nz out (t.1,t.2 * c)) out).length≤out.length + ts.length:=by
  intro ts
  induction ts with
  | nil=>intro out;simp
  | cons t ts ih=>
   intro out
   have h1:=ih (nz out (t.1,t.2 * c))
   have h2:=nz_len out (t.1,t.2 * c)
   simp only [List.foldl_cons,List.length_cons]
   omega
 have:=this ts []
 simpa [scT] using this
def addT:List Tm→Nat→Rat→List Tm
 | [],v,c=>if c = 0 then [] else [(v,c)]
 | (w,d) :: ts,v,c=>if w = v then (if d + c = 0 then ts else (w,d + c) :: ts) else if v < w then (if c = 0 then (w,d) :: ts else (v,c) :: (w,d) :: ts) else (w,d) :: addT ts v c
def CanT:List Tm→Prop
 | []=>True
 | (w,d) :: ts=>d≠0∧(∀ t∈ts,w < t.1)∧CanT ts
def co:List Tm→Nat→Rat
 | [],_=>0
 | (w,d) :: ts,v=>if w = v then d else co ts v
theorem co_none {ts:List Tm} {v:Nat} (h:∀ t∈ts,v < t.1):co ts v = 0:=by
 induction ts with
 | nil=>rfl
 | cons t ts ih=>
  have h1:=h t (by simp)
  unfold co
  rw [if_neg (by omega)]
  exact ih fun u hu=>h u (by simp [hu])
theorem co_ext:∀ {a b:List Tm},CanT a→CanT b→(∀ v,co a v = co b v)→a = b
 | [],[],_,_,_=>rfl
 | [],(w,d) :: b,_,hb,h=>by
  have:=h w
  unfold co at this
  rw [if_pos rfl] at this
  exact absurd this.symm hb.1
 | (w,d) :: a,[],ha,_,h=>by
  have:=h w
  unfold co at this
  rw [if_pos rfl] at this
  exact absurd this ha.1
 | (w,d) :: a,(x,e) :: b,ha,hb,h=>by
  obtain ⟨a1,a2,a3⟩:=ha
  obtain ⟨b1,b2,b3⟩:=hb
  have hw:=h w
  have hx:=h x
  unfold co at hw hx
  rw [if_pos rfl] at hw hx
  by_cases e1:w = x
  ·subst e1
   rw [if_pos rfl] at hw
   subst hw
   rw [co_ext a3 b3 fun v=>?_]
   have:=h v
   unfold co at this
   by_cases e2:w = v
   ·subst e2
    rw [co_none a2,co_none b2]
   ·rwa [if_neg e2,if_neg e2] at this
  ·exfalso
   rw [if_neg (fun e=>e1 e.symm)] at hw
   rw [if_neg e1] at hx
   by_cases e2:w < x
   ·rw [co_none (fun t ht=>Nat.lt_trans e2 (b2 t ht))] at hw
    exact a1 hw
   ·rw [co_none (fun t ht=>Nat.lt_trans (show x < w by omega) (a2 t ht))] at hx
    exact b1 hx.symm
theorem addT_mem {ts:List Tm} {v:Nat} {c:Rat} {t:Tm} (h:t∈addT ts v c):t.1 = v ∨ ∃ u∈ts,u.1 = t.1:=by
 induction ts with
 | nil=>
  unfold addT at h
  split at h
  ·simp at h
  ·simp at h;subst h;exact .inl rfl
 | cons u ts ih=>
  obtain ⟨w,d⟩:=u
  unfold addT at h
  split at h
  ·split at h
   ·exact .inr ⟨t,by simp [h],rfl⟩
   ·rcases List.mem_cons.1 h with h | h
    ·subst h;exact .inr ⟨(w,d),by simp,rfl⟩
    ·exact .inr ⟨t,by simp [h],rfl⟩
  ·split at h
   ·split at h
    ·exact .inr ⟨t,h,rfl⟩
    ·rcases List.mem_cons.1 h with h | h
     ·subst h;exact .inl rfl
     ·exact .inr ⟨t,h,rfl⟩
   ·rcases List.mem_cons.1 h with h | h
    ·subst h;exact .inr ⟨(w,d),by simp,rfl⟩
    ·rcases ih h with h | ⟨u,hu,he⟩
     ·exact .inl h
     ·exact .inr ⟨u,by simp [hu],he⟩
theorem addT_can:∀ {ts:List Tm} {v:Nat} {c:Rat},CanT ts→CanT (addT ts v c)
 | [],v,c,_=>by
  unfold addT
  split
  ·trivial
  ·rename_i h;exact ⟨h,fun t ht=>by simp at ht,trivial⟩
 | (w,d) :: ts,v,c,h=>by
  obtain ⟨h1,h2,h3⟩:=h
  unfold addT
  split
  ·split
   ·exact h3
   ·rename_i h4;exact ⟨h4,h2,h3⟩
  ·split
   ·rename_i h4
    split
    ·exact ⟨h1,h2,h3⟩
    ·rename_i h5
     refine ⟨h5,fun t ht=>?_,h1,h2,h3⟩
     rcases List.mem_cons.1 ht with ht | ht
     ·subst ht;exact h4
     ·exact Nat.lt_trans h4 (h2 t ht)
   ·refine ⟨h1,fun t ht=>?_,addT_can h3⟩
    rcases addT_mem ht with ht | ⟨u,hu,he⟩
    ·omega
    ·rw [← he];exact h2 u hu
theorem co_addT:∀ {ts:List Tm} {v:Nat} {c:Rat},CanT ts→∀ x,co (addT ts v c) x = co ts x + if x = v then c else 0
 | [],v,c,_,x=>by
  unfold addT
  by_cases h:c = 0
  ·rw [if_pos h]
   subst h
   simp [co];grind
  ·rw [if_neg h]
   by_cases e:x = v
   ·subst e;simp [co];grind
   ·rw [if_neg e];unfold co;rw [if_neg (fun e'=>e e'.symm)];simp [co];grind
 | (w,d) :: ts,v,c,h,x=>by
  obtain ⟨h1,h2,h3⟩:=h
  unfold addT
  by_cases e1:w = v
  ·subst e1
   rw [if_pos rfl]
   by_cases e2:d + c = 0
   ·rw [if_pos e2]
    by_cases e3:x = w
    ·subst e3
     rw [if_pos rfl,co_none h2]
     unfold co
     rw [if_pos rfl,e2]
    ·rw [if_neg e3]
     show co ts x = (if w = x then d else co ts x) + 0
     rw [if_neg (fun e=>e3 e.symm)];grind
   ·rw [if_neg e2]
    by_cases e3:x = w
    ·subst e3
     unfold co
     rw [if_pos rfl,if_pos rfl,if_pos rfl]
    ·rw [if_neg e3]
     unfold co
     rw [if_neg (fun e=>e3 e.symm),if_neg (fun e=>e3 e.symm)];grind
  ·rw [if_neg e1]
   by_cases e2:v < w
   ·rw [if_pos e2]
    by_cases e3:c = 0
    ·rw [if_pos e3]
     subst e3
     simp;grind
    ·rw [if_neg e3]
     by_cases e4:x = v
     ·subst e4
      rw [if_pos rfl,co_none (ts:=(w,d) :: ts) (fun t ht=>by
       rcases List.mem_cons.1 ht with ht | ht
       ·subst ht;exact e2
       ·exact Nat.lt_trans e2 (h2 t ht))]
      show (if x = x then c else _) = _
      rw [if_pos rfl];grind
     ·rw [if_neg e4]
      show (if v = x then c else co ((w,d) :: ts) x) = _
      rw [if_neg (fun e=>e4 e.symm)];grind
   ·rw [if_neg e2]
    show (if w = x then d else co (addT ts v c) x) = (if w = x then d else co ts x) + _
    by_cases e3:w = x
    ·subst e3
     rw [if_pos rfl,if_pos rfl,if_neg e1];grind
    ·rw [if_neg e3,if_neg e3]
     exact co_addT h3 x
theorem CanT.get:∀ {ts:List Tm} {i:Nat} {x:Tm},CanT ts→ts[i]? = some x→x.2≠0∧(∀ t∈ts.drop (i + 1),x.1 < t.1)∧∀ t∈ts.take i,t.1 < x.1
 | [],i,x,_,h=>by simp at h
 | (w,d) :: ts,0,x,hc,h=>by
  simp at h
  subst h
  exact ⟨hc.1,by simpa using hc.2.1,by simp⟩
 | (w,d) :: ts,i + 1,x,hc,h=>by
  obtain ⟨h1,h2,h3⟩:=hc
  have hx:ts[i]? = some x:=by simpa using h
  obtain ⟨q1,q2,q3⟩:=h3.get hx
  refine ⟨q1,by simpa using q2,fun t ht=>?_⟩
  rw [List.take_succ_cons] at ht
  rcases List.mem_cons.1 ht with ht | ht
  ·subst ht;exact h2 x (List.mem_of_getElem? hx)
  ·exact q3 t ht
theorem CanT.prev {ts:List Tm} {i:Nat} {x y:Tm} (h:CanT ts) (hi:0 < i) (hx:ts[i]? = some x) (hy:ts[i - 1]? = some y):y.1 < x.1:=by
 refine (h.get hx).2.2 y ?_
 rw [List.mem_take_iff_getElem]
 obtain ⟨h1,h2⟩:=List.getElem?_eq_some_iff.1 hy
 exact ⟨i - 1,by omega,h2⟩
def PlI (ts:List Tm) (v:Nat) (c:Rat) (i:Nat) (out:List Tm) (done:Bool):Prop:=
 if done = true then out ++ ts.drop i = addT ts v c∧∀ t∈ts.drop i,v < t.1 else out = ts.take i∧∀ t∈ts.take i,t.1 < v
theorem drop_get {α:Type} {l:List α} {i:Nat} {x:α} (h:l[i]? = some x):l.drop i = x :: l.drop (i + 1):=by
 obtain ⟨h1,h2⟩:=List.getElem?_eq_some_iff.1 h
 rw [List.drop_eq_getElem_cons h1,h2]
theorem addT_far {w v:Nat} {d c:Rat} {ts:List Tm} (h:w < v):addT ((w,d) :: ts) v c = (w,d) :: addT ts v c:=by
 show (if w = v then _ else if v < w then _ else _) = _
 rw [if_neg (show ¬ w = v by omega),if_neg (show ¬ v < w by omega)]
theorem addT_ins {w v:Nat} {d c:Rat} {ts:List Tm} (h:v < w):addT ((w,d) :: ts) v c = if c = 0 then (w,d) :: ts else (v,c) :: (w,d) :: ts:=by
 show (if w = v then _ else if v < w then _ else _) = _
 rw [if_neg (show ¬ w = v by omega),if_pos h]
theorem addT_eq {w:Nat} {d c:Rat} {ts:List Tm}:addT ((w,d) :: ts) w c = if d + c = 0 then ts else (w,d + c) :: ts:=by
 show (if w = w then _ else _) = _
 rw [if_pos rfl]
theorem addT_lt:∀ {a b:List Tm} {v:Nat} {c:Rat},(∀ t∈a,t.1 < v)→addT (a ++ b) v c = a ++ addT b v c
 | [],b,v,c,_=>rfl
 | (w,d) :: a,b,v,c,h=>by
  have h1:w < v:=h (w,d) (by simp)
  show addT ((w,d) :: (a ++ b)) v c = (w,d) :: (a ++ addT b v c)
  rw [addT_far h1,addT_lt fun t ht=>h t (by simp [ht])]
theorem PlI.start (ts:List Tm) (v:Nat) (c:Rat):PlI ts v c 0 [] false:=by
 unfold PlI
 rw [if_neg (by decide)]
 exact ⟨by simp,by simp⟩
theorem PlI.eq {ts:List Tm} {v i:Nat} {c:Rat} {out:List Tm} {done:Bool} {x:Tm} (hc:CanT ts) (h:PlI ts v c i out done) (hx:ts[i]? = some x) (e:x.1 = v):PlI ts v c (i + 1) (nz out (x.1,x.2 + c)) true:=by
 cases hd:done with
 | true=>
  subst hd
  unfold PlI at h
  rw [if_pos rfl] at h
  have:=h.2 x (by rw [drop_get hx];simp)
  omega
 | false=>
  subst hd
  unfold PlI at h ⊢
  rw [if_neg (by decide)] at h
  rw [if_pos rfl]
  obtain ⟨h1,h2⟩:=h
  subst e
  refine ⟨?_,(hc.get hx).2.1⟩
  have h3:ts = ts.take i ++ x :: ts.drop (i + 1):=by rw [← drop_get hx,List.take_append_drop]
  rw [show addT ts x.1 c = ts.take i ++ addT (x :: ts.drop (i + 1)) x.1 c from by
   conv=>lhs;rw [h3]
   exact addT_lt h2]
  obtain ⟨w,d⟩:=x
  rw [addT_eq,h1]
  by_cases e0:d + c = 0
  ·rw [if_pos e0,nz_pos e0]
  ·rw [if_neg e0,nz_neg e0];simp
theorem PlI.ins {ts:List Tm} {v i:Nat} {c:Rat} {out:List Tm} {x:Tm} (hc:CanT ts) (h:PlI ts v c i out false) (hx:ts[i]? = some x) (e:v < x.1):PlI ts v c (i + 1) (nz (nz out (v,c)) (x.1,x.2)) true:=by
 unfold PlI at h ⊢
 rw [if_neg (by decide)] at h
 rw [if_pos rfl]
 obtain ⟨h1,h2⟩:=h
 obtain ⟨q1,q2,q3⟩:=hc.get hx
 refine ⟨?_,fun t ht=>Nat.lt_trans e (q2 t ht)⟩
 have h3:ts = ts.take i ++ x :: ts.drop (i + 1):=by rw [← drop_get hx,List.take_append_drop]
 rw [show addT ts v c = ts.take i ++ addT (x :: ts.drop (i + 1)) v c from by
  conv=>lhs;rw [h3]
  exact addT_lt h2]
 obtain ⟨w,d⟩:=x
 have q1:d≠0:=q1
 rw [addT_ins e,nz_neg q1,h1]
 by_cases e0:c = 0
 ·rw [if_pos e0,nz_pos e0];simp
 ·rw [if_neg e0,nz_neg e0];simp
theorem PlI.less {ts:List Tm} {v i:Nat} {c:Rat} {out:List Tm} {x:Tm} (hc:CanT ts) (h:PlI ts v c i out false) (hx:ts[i]? = some x) (e:x.1 < v):PlI ts v c (i + 1) (nz out (x.1,x.2)) false:=by
 unfold PlI at h ⊢
 rw [if_neg (by decide)] at h ⊢
 obtain ⟨h1,h2⟩:=h
 obtain ⟨q1,q2,q3⟩:=hc.get hx
 rw [take_snoc hx,nz_neg q1,h1]
 refine ⟨rfl,fun t ht=>?_⟩
 rcases List.mem_append.1 ht with ht | ht
 ·exact h2 t ht
 ·simp at ht;subst ht;exact e
theorem PlI.rest {ts:List Tm} {v i:Nat} {c:Rat} {out:List Tm} {x:Tm} (hc:CanT ts) (h:PlI ts v c i out true) (hx:ts[i]? = some x):PlI ts v c (i + 1) (nz out (x.1,x.2)) true:=by
 unfold PlI at h ⊢
 rw [if_pos rfl] at h ⊢
 obtain ⟨h1,h2⟩:=h
 obtain ⟨q1,q2,q3⟩:=hc.get hx
 rw [drop_get hx] at h1 h2
 rw [nz_neg q1]
 exact ⟨by rw [← h1];simp,fun t ht=>h2 t (by simp [ht])⟩
theorem PlI.fin_t {ts:List Tm} {v i:Nat} {c:Rat} {out:List Tm} (h:PlI ts v c i out true) (hi:ts.length≤i):out = addT ts v c:=by
 unfold PlI at h
 rw [if_pos rfl,List.drop_of_length_le hi] at h
 simpa using h.1
theorem PlI.fin_f {ts:List Tm} {v i:Nat} {c:Rat} {out:List Tm} (h:PlI ts v c i out false) (hi:ts.length≤i):nz out (v,c) = addT ts v c:=by
 unfold PlI at h
 rw [if_neg (by decide),List.take_of_length_le hi] at h
 obtain ⟨h1,h2⟩:=h
 subst h1
 rw [show addT out v c = addT (out ++ []) v c from by rw [List.append_nil],addT_lt h2]
 show nz out (v,c) = out ++ (if c = 0 then [] else [(v,c)])
 by_cases e0:c = 0
 ·rw [if_pos e0,nz_pos e0];simp
 ·rw [if_neg e0,nz_neg e0]
theorem take_all {ts:List Tm} {i n:Nat} {x:Tm} (h:ts[i]? = some x) (ha:∀ t∈ts.take i,t.1 < n) (hx:x.1 < n):∀ t∈ts.take (i + 1),t.1 < n:=by
 rw [take_snoc h]
 intro t ht
 rcases List.mem_append.1 ht with ht | ht
 ·exact ha t ht
 ·simp at ht;subst ht;exact hx
theorem bad_var {ts:List Tm} {i n:Nat} {x:Tm} (h:ts[i]? = some x) (hx:n≤x.1):decide (∀ t∈ts,t.1 < n) = false:=by
 refine decide_eq_false fun ha=>?_
 have:=ha x (List.mem_of_getElem? h)
 omega
theorem af0 (ts:List Tm):afV ⟨ts,0⟩ = V.agg [tmE.row ts,Leaf.val (.bool false),nilL,nilL]:=by
 show V.agg [tmE.row ts,Leaf.val (.bool (cneg 0)),natL (limbs (cnum 0)),natL (limbs (cden 0))] = _
 rw [cnum_zero,cden_zero,limbs_zero]
 rfl
def sumT (f g:List Tm):List Tm:=g.foldl (fun a t=>addT a t.1 t.2) f
theorem sumT_snoc (f g:List Tm) (t:Tm):sumT f (g ++ [t]) = addT (sumT f g) t.1 t.2:=by
 unfold sumT
 rw [List.foldl_append]
 rfl
theorem sumT_take {f g:List Tm} {i:Nat} {x:Tm} (h:g[i]? = some x):sumT f (g.take (i + 1)) = addT (sumT f (g.take i)) x.1 x.2:=by
 rw [take_snoc h,sumT_snoc]
theorem sumT_can:∀ {g f:List Tm},CanT f→CanT (sumT f g)
 | [],f,h=>h
 | t :: g,f,h=>sumT_can (g:=g) (addT_can (v:=t.1) (c:=t.2) h)
theorem co_sumT:∀ {g f:List Tm},CanT f→CanT g→∀ x,co (sumT f g) x = co f x + co g x
 | [],f,_,_,x=>by show co f x = co f x + 0;grind
 | (w,d) :: g,f,hf,hg,x=>by
  show co (sumT (addT f w d) g) x = _
  rw [co_sumT (addT_can hf) hg.2.2 x,co_addT hf x]
  show _ = co f x + (if w = x then d else co g x)
  by_cases e:x = w
  ·subst e
   rw [if_pos rfl,if_pos rfl,co_none hg.2.1];grind
  ·rw [if_neg e,if_neg (fun h=>e h.symm)];grind
theorem canT_take:∀ {l:List Tm} {i:Nat},CanT l→CanT (l.take i)
 | [],i,_=>by simp [CanT]
 | (w,d) :: l,0,_=>trivial
 | (w,d) :: l,i + 1,h=>⟨h.1,fun t ht=>h.2.1 t (List.mem_of_mem_take ht),canT_take h.2.2⟩
theorem mem_co:∀ {l:List Tm} {t:Tm},CanT l→t∈l→co l t.1 = t.2
 | (w,d) :: l,t,h,ht=>by
  rcases List.mem_cons.1 ht with ht | ht
  ·subst ht
   show (if w = w then d else _) = d
   rw [if_pos rfl]
  ·have:=h.2.1 t ht
   show (if w = t.1 then d else co l t.1) = t.2
   rw [if_neg (by omega)]
   exact mem_co h.2.2 ht
theorem co_bd {l:List Tm} {B:Nat} (h:∀ t∈l,Br t.2 B) (x:Nat):Br (co l x) B:=by
 induction l with
 | nil=>exact Br.zero.mono (Nat.zero_le _)
 | cons t l ih=>
  obtain ⟨w,d⟩:=t
  show Br (if w = x then d else co l x) B
  split
  ·exact h (w,d) (by simp)
  ·exact ih fun u hu=>h u (by simp [hu])
theorem sumT_bd {f g:List Tm} {B C:Nat} (hf:CanT f) (hg:CanT g) (h1:∀ t∈f,Br t.2 B) (h2:∀ t∈g,Br t.2 C):∀ t∈sumT f g,Br t.2 (B + C + 1):=by
 intro t ht
 rw [← mem_co (sumT_can hf) ht,co_sumT hf hg]
 haveI:=co_bd h1 t.1
 haveI:=co_bd h2 t.1
 exact Br.add
theorem addT_len (ts:List Tm) (v:Nat) (c:Rat):(addT ts v c).length≤ts.length + 1:=by
 induction ts with
 | nil=>unfold addT;split <;> simp
 | cons t ts ih=>
  obtain ⟨w,d⟩:=t
  unfold addT
  split
  ·split <;> simp;omega
  ·split
   ·split <;> simp
   ·simp only [List.length_cons];omega
theorem sumT_len:∀ (g f:List Tm),(sumT f g).length≤f.length + g.length
 | [],f=>by show f.length≤_;simp
 | t :: g,f=>by
  have h1:=sumT_len g (addT f t.1 t.2)
  have h2:=addT_len f t.1 t.2
  show (sumT (addT f t.1 t.2) g).length≤_
  simp only [List.length_cons]
  omega
theorem sumT_var {n:Nat}:∀ {g f:List Tm},(∀ t∈f,t.1 < n)→(∀ t∈g,t.1 < n)→∀ t∈sumT f g,t.1 < n
 | [],f,h1,_=>h1
 | u :: g,f,h1,h2=>by
  refine sumT_var (g:=g) (f:=addT f u.1 u.2) (fun t ht=>?_) (fun t ht=>h2 t (by simp [ht]))
  rcases addT_mem ht with h | ⟨w,hw,he⟩
  ·rw [h];exact h2 u (by simp)
  ·rw [← he];exact h1 w hw
def scR (c:Rat):List Tm→List Tm
 | []=>[]
 | t :: ts=>if t.2 * c = 0 then scR c ts else (t.1,t.2 * c) :: scR c ts
theorem scT_eq (ts:List Tm) (c:Rat):scT ts c = scR c ts:=by
 have:∀ (ts out:List Tm),ts.foldl (fun out t=>nz out (t.1,t.2 * c)) out = out ++ scR c ts:=by
  intro ts
  induction ts with
  | nil=>intro out;simp [scR]
  | cons t ts ih=>
   intro out
   rw [List.foldl_cons,ih]
   show nz out (t.1,t.2 * c) ++ scR c ts = out ++ (if t.2 * c = 0 then scR c ts else (t.1,t.2 * c) :: scR c ts)
   by_cases e:t.2 * c = 0
   ·rw [nz_pos e,if_pos e]
   ·rw [nz_neg e,if_neg e];simp
 have:=this ts []
 simpa [scT] using this
theorem scR_mem {c:Rat}:∀ {ts:List Tm} {t:Tm},t∈scR c ts→∃ u∈ts,u.1 = t.1∧t.2 = u.2 * c∧t.2≠0
 | u :: ts,t,h=>by
  unfold scR at h
  split at h
  ·obtain ⟨w,h1,h2⟩:=scR_mem h
   exact ⟨w,by simp [h1],h2⟩
  ·rename_i h0
   rcases List.mem_cons.1 h with h | h
   ·subst h;exact ⟨u,by simp,rfl,rfl,h0⟩
   ·obtain ⟨w,h1,h2⟩:=scR_mem h
    exact ⟨w,by simp [h1],h2⟩
theorem scR_can {c:Rat}:∀ {ts:List Tm},CanT ts→CanT (scR c ts)
 | [],_=>trivial
 | (w,d) :: ts,h=>by
  unfold scR
  split
  ·exact scR_can h.2.2
  ·rename_i h0
   refine ⟨h0,fun t ht=>?_,scR_can h.2.2⟩
   obtain ⟨u,h1,h2,_⟩:=scR_mem ht
   rw [← h2];exact h.2.1 u h1
theorem co_scR {c:Rat}:∀ {ts:List Tm},CanT ts→∀ x,co (scR c ts) x = co ts x * c
 | [],_,x=>by show (0:Rat) = 0 * c;grind
 | (w,d) :: ts,h,x=>by
  unfold scR
  by_cases e:w = x
  ·subst e
   show _ = (if w = w then d else _) * c
   rw [if_pos rfl]
   split
   ·rename_i h0
    rw [co_scR h.2.2,co_none h.2.1]
    have h0:d * c = 0:=h0
    rw [h0];grind
   ·show (if w = w then _ else _) = _
    rw [if_pos rfl]
  ·show _ = (if w = x then d else co ts x) * c
   rw [if_neg e]
   split
   ·exact co_scR h.2.2 x
   ·show (if w = x then _ else _) = _
    rw [if_neg e];exact co_scR h.2.2 x
class Fm (ts:List Tm) (B n:outParam Nat):Prop where
 can:CanT ts
 bd:∀ t∈ts,Br t.2 B
 len:ts.length≤n
 var:∀ t∈ts,t.1 < 1000000
instance Fm.nil:Fm [] 0 0:=⟨trivial,fun t h=>by simp at h,Nat.le_refl _,fun t h=>by simp at h⟩
instance Fm.sum {f g:List Tm} {B n C m:Nat} [hf:Fm f B n] [hg:Fm g C m]:Fm (sumT f g) (B + C + 1) (n + m):=
 ⟨sumT_can hf.can,sumT_bd hf.can hg.can hf.bd hg.bd,by have:=sumT_len g f;have:=hf.len;have:=hg.len;omega,sumT_var hf.var hg.var⟩
instance Fm.sc {f:List Tm} {c:Rat} {B n C:Nat} [hf:Fm f B n] [hc:Br c C]:Fm (scT f c) (B + C + 1) n:=by
 rw [scT_eq]
 refine ⟨scR_can hf.can,fun t ht=>?_,?_,fun t ht=>?_⟩
 ·obtain ⟨u,h1,h2,h3,_⟩:=scR_mem ht
  rw [h3]
  haveI:=hf.bd u h1
  exact Br.mul
 ·rw [← scT_eq];exact Nat.le_trans (scT_len _ _) hf.len
 ·obtain ⟨u,h1,h2,_⟩:=scR_mem ht
  rw [← h2];exact hf.var u h1
theorem Fm.one {v:Nat} {c:Rat} {B:Nat} (hv:v < 1000000) (hc:c≠0) [hb:Br c B]:Fm [(v,c)] B 1:=
 ⟨⟨hc,fun t h=>by simp at h,trivial⟩,fun t h=>by simp at h;subst h;exact hb,Nat.le_refl _,fun t h=>by simp at h;subst h;exact hv⟩
theorem Fm.mono {f:List Tm} {B C n m:Nat} (h:Fm f B n) (h1:B≤C) (h2:n≤m):Fm f C m:=⟨h.can,fun t ht=>(h.bd t ht).mono h1,Nat.le_trans h.len h2,h.var⟩
theorem takeA {l:List Af} {i n:Nat} {x:Af} (h:l[i]? = some x) (ha:∀ f∈l.take i,∀ t∈f.ts,t.1 < n) (hx:∀ t∈x.ts,t.1 < n):∀ f∈l.take (i + 1),∀ t∈f.ts,t.1 < n:=by
 rw [take_snoc h]
 intro f hf
 rcases List.mem_append.1 hf with hf | hf
 ·exact ha f hf
 ·rw [List.mem_singleton.1 hf];exact hx
theorem badA {l:List Af} {i n:Nat} {x:Af} (h:l[i]? = some x) (hx:¬ ∀ t∈x.ts,t.1 < n):decide (∀ f∈l,∀ t∈f.ts,t.1 < n) = false:=
 decide_eq_false fun ha=>hx (ha x (List.mem_of_getElem? h))
end Rc
set_option linter.unusedSimpArgs false
set_option linter.unusedVariables false
namespace Go.Proofs.YtjdbopkbfkgpdaaGreatDoor
open Go Go.RowKit Rc
set_option maxRecDepth 10000 in
theorem trim_spec (l:List Nat) (hs:Small l):Ctr Tryz.prog 163 [V.one (natL l)] (R.one (V.one (natL (limbs (val l))))):=by
 refine Ctr.of_body Tryz.func163 rfl Tryz.ntmps163 (Nat.le_of_ble_eq_true rfl) (fun w0 A0=>?_)
 refine Tc_seq ?_
 refine Tc_len (s:=0) rfl (fun hm=>?_)
 refine Tc_region (t_q rfl (Jq_assign_nil rfl) (cna (a_ FT 1 rfl (t_q rfl (Jq_len rfl rfl un32) (a_ FT 1 rfl (cns (Tc_block ?_)))))))
 refine Tc_loopR (fun m Γ H=>∃ (n:Nat),n = m∧Γ = [(0,some (D.v (V.one (natL l)))),(3,some (D.int n))]∧H = []∧n≤l.length∧∀ i (hi:i < l.length),n≤i→l[i] = 0) ⟨l.length,rfl,rfl,rfl,Nat.le_refl _,fun i hi h=>absurd hi (by omega)⟩ ⟨rfl,rfl,trivial⟩ ?_
 rintro m Γ H ⟨n,rfl,rfl,rfl,h⟩
 refine Tc_seq (c_a (a_ FT 1 rfl ?_))
 by_cases hp:0 < n
 ·refine t_q rfl (Jq_gtr rfl rfl rfl (b:=true) (dT (by omega))) (a_ FT 3 rfl (t_g rfl rfl rfl rfl (Jq_sub rfl rfl rfl (r:=((n - 1:Nat):Int)) (w64 (by omega) (by omega) (by omega))) (t_g rfl rfl rfl rfl (Jq_index1 rfl rfl rfl un32 ty157 (by omega) (by omega) (get_u32 (by omega))) (t_g rfl rfl rfl rfl (Jq_load_ref rfl rfl ty157) ?_))))
  by_cases hz:l[n - 1]'(by omega) = 0
  ·refine t_g rfl rfl rfl rfl (Jq_eql rfl rfl rfl (b:=true) (eT (by omega))) (a_ FT 1 rfl (c_n (Tc_t rfl (c_b (Tc_block (Tc_region (a_ FT 1 rfl (t_q rfl (Jq_sub rfl rfl rfl (r:=((n - 1:Nat):Int)) (w64 (by omega) (by omega) (by omega))) (a_ FT 1 rfl ?_)))))))))
   refine Tl_end (At_block ?_)
   exact At_next (m':=n - 1) (by omega) ⟨n - 1,rfl,rfl,rfl,by omega,fun i hi h1=>(if e:i = n - 1 then by subst e;exact hz else h.2 i hi (by omega))⟩ ⟨rfl,rfl,trivial⟩
  ·refine t_g rfl rfl rfl rfl (Jq_eql rfl rfl rfl (b:=false) (eF (by omega))) (a_ FT 1 rfl (c_n (Tc_f rfl (Tc_exitA (At_then_exit (At_then_exit (At_block_exit (At_then (Tc_seq ?_)))))))))
   refine c_a (a_ FT 1 rfl (t_q rfl (Jq_eql rfl rfl rfl (b:=false) (eF (by omega))) (c_n (Tc_f rfl (c_b (c_a (a_ FT 2 rfl (t_q rfl (Jq_slice_hi_nat rfl rfl rfl un32 ty157 (by omega)) (a_ FT 1 rfl ?_)))))))))
   refine c_n ?_
   exact Tc_ret1 hq_ rfl rfl (by rw [← limbs_take hs n h.1 h.2 (fun _=>hz)])
 ·refine t_q rfl (Jq_gtr rfl rfl rfl (b:=false) (dF (by omega))) (a_ FT 8 rfl (c_n (Tc_f rfl (Tc_exitA (At_then_exit (At_then_exit (At_block_exit (At_then (Tc_seq ?_)))))))))
  refine c_a (a_ FT 1 rfl (t_q rfl (Jq_eql rfl rfl rfl (b:=true) (eT (by omega))) (c_n (Tc_t rfl (c_a (t_q rfl (Jq_assign_nil rfl) (c_n ?_)))))))
  exact Tc_ret1 hq_ rfl rfl (by rw [← limbs_take hs n h.1 h.2 (fun h0=>absurd h0 hp),show n = 0 from by omega];rfl)
end Go.Proofs.YtjdbopkbfkgpdaaGreatDoor
set_option linter.unusedSimpArgs false
set_option linter.unusedVariables false
namespace Go.Proofs.YtjdbopkbfkgpdaaGreatDoor
open Go Go.RowKit Rc
set_option maxRecDepth 10000 in
theorem clone_spec (l:List Nat) (hl:l.length≤10000000000000):Ctr Tryz.prog 176 [V.one (natL l)] (R.one (V.one (natL l))):=by
 refine Ctr.of_body Tryz.func176 rfl Tryz.ntmps176 (Nat.le_of_ble_eq_true rfl) (fun w0 A0=>?_)
 refine c_a (t_q rfl (Jq_assign_nil rfl) (cns (c_a (a_ FT 1 rfl ?_))))
 refine Tl_eqnil rfl rfl rfl rfl rfl un32 (fun b1 hb1=>?_)
 refine c_n ?_
 refine Tc_cond rfl (fun hc4=>?_) (fun hc4=>?_)
 ·refine c_a (t_q rfl (Jq_assign_nil rfl) (c_n ?_))
  exact Tc_ret1 hq_ rfl rfl (by obtain ⟨h1,h2⟩:=hb1 hc4;have:=List.eq_nil_of_length_eq_zero h1;subst this;rfl)
 ·refine c_b (c_a (Tl_build0 rfl rfl rfl rfl un32 ty157 rfl (a_ FT 1 rfl ?_)))
  obtain ⟨ti2,hi2,hz2,hs2,hb2⟩:=in157
  refine Tl_append rfl rfl rfl rfl rfl rfl rfl rfl rfl (by simp) (by simp) (by decide) un32 un32 hi2 hz2 hs2 rfl (by simp only [maxLen];omega) (by rw [hb2];omega) (nm:=l.length) (by simp) (ls:=(l.map u32L)) (by simp) (a_ FT 1 rfl (c_n (Tc_share_nat 2 (l) rfl rfl rfl rfl rfl ?_)))
  exact Tc_ret1 hq_ rfl rfl rfl
set_option maxRecDepth 10000 in
theorem make_spec (l:List Nat) (hs:Small l) (hl:l.length≤10000000000000):Ctr Tryz.prog 159 [V.one (natL l)] (R.one (V.one (natL (limbs (val l))))):=by
 refine Ctr.of_body Tryz.func159 rfl Tryz.ntmps159 (Nat.le_of_ble_eq_true rfl) (fun w0 A0=>?_)
 refine c_a (t_q rfl (Jq_assign_nil rfl) (cna (a_ FT 1 rfl (t_f rfl (Je_call rfl fn163 rfl (trim_spec l hs)) (t_f rfl (Je_call rfl fn176 rfl (clone_spec _ (Nat.le_trans (limbs_val_length hs) hl))) (a_ FT 1 rfl (c_n ?_)))))))
 exact Tc_ret1 hq_ rfl rfl rfl
set_option maxRecDepth 10000 in
theorem cmp_spec (la lb:List Nat) (hsa:Small la) (hsb:Small lb):Ctr Tryz.prog 137 [V.one (natL la),V.one (natL lb)] (R.one (V.one (Leaf.val (.int .i64 (cmpN (val la) (val lb)))))):=by
 refine Ctr.of_body Tryz.func137 rfl Tryz.ntmps137 (Nat.le_of_ble_eq_true rfl) (fun w0 A0=>?_)
 refine Tc_seq ?_
 refine Tc_len (s:=0) rfl (fun hma=>?_)
 refine Tc_len (s:=1) rfl (fun hmb=>?_)
 refine Tc_region (a_ FT 1 rfl (cna (a_ FT 1 rfl (t_f rfl (Je_call rfl fn163 rfl (trim_spec la hsa)) (a_ FT 1 rfl (t_f rfl (Je_call rfl fn163 rfl (trim_spec lb hsb)) (a_ FT 2 rfl (cns (Tc_seq ?_)))))))))
 have hla:=limbs_val_length hsa;have hlb:=limbs_val_length hsb
 have va:=val_limbs (val la);have vb:=val_limbs (val lb);have sa:=small_limbs (val la);have sb:=small_limbs (val lb)
 have hlt1:(limbs (val la)).length < (limbs (val lb)).length→val la < val lb:=lt_of_length
 have hlt2:(limbs (val lb)).length < (limbs (val la)).length→val lb < val la:=lt_of_length
 generalize limbs (val la) = a at *
 generalize limbs (val lb) = b at *
 refine Tc_region (a_ FT 1 rfl (t_q rfl (Jq_len rfl rfl un32) (a_ FT 1 rfl (t_q rfl (Jq_len rfl rfl un32) ?_))))
 by_cases hne:a.length≠b.length
 ·refine t_q rfl (Jq_neq rfl rfl rfl (b:=true) (nT (by omega))) (c_n (Tc_t rfl (Tc_seq (c_a (a_ FT 1 rfl (t_q rfl (Jq_len rfl rfl un32) (a_ FT 1 rfl (t_q rfl (Jq_len rfl rfl un32) ?_))))))))
  by_cases hlt:a.length < b.length
  ·refine t_q rfl (Jq_lss rfl rfl rfl (b:=true) (dT (by omega))) (c_n (Tc_t rfl (c_a (a_ FT 1 rfl (c_n ?_)))))
   exact Tc_ret1 hq_ rfl rfl (by rw [cmpN_lt (hlt1 hlt)])
  ·refine t_q rfl (Jq_lss rfl rfl rfl (b:=false) (dF (by omega))) (c_n (Tc_f rfl (c_b (c_a (a_ FT 1 rfl (c_n ?_))))))
   exact Tc_ret1 hq_ rfl rfl (by rw [cmpN_gt (hlt2 (by omega))])
 ·refine t_q rfl (Jq_neq rfl rfl rfl (b:=false) (nF (by omega))) (c_n (Tc_f rfl (c_b (Tc_seq (c_a (a_ FT 1 rfl (t_q rfl (Jq_len rfl rfl un32) (t_q rfl (Jq_sub rfl rfl rfl (r:=(a.length:Int) - 1) (w64 (by omega) (by omega) (by omega))) (a_ FT 1 rfl ?_)))))))))
  refine c_n (Tc_block (Tc_loopR (fun m Γ H=>∃ (n:Nat),n = m∧Γ = [(0,some (D.v (V.one (natL a)))),(1,some (D.v (V.one (natL b)))),(5,some (D.int ((n:Int) - 1)))]∧H = []∧n≤a.length∧a.drop n = b.drop n) ⟨a.length,rfl,rfl,rfl,Nat.le_refl _,by rw [List.drop_of_length_le (Nat.le_refl _),List.drop_of_length_le (by omega)]⟩ ⟨rfl,rfl,rfl,trivial⟩ ?_))
  rintro m Γ H ⟨n,rfl,rfl,rfl,h⟩
  refine Tc_seq (c_a (a_ FT 1 rfl ?_))
  by_cases hp:0 < n
  ·refine t_q rfl (Jq_geq rfl rfl rfl (b:=true) (dT (by omega))) (c_n (Tc_t rfl (c_b (Tc_seq (Tc_block (Tc_seq ?_))))))
   by_cases hz:a[n - 1]'(by omega) = b[n - 1]'(by omega)
   ·refine Tc_drawK 0 [none,none,none,none,none,none,none,none,none] [] follows (by kernel_rfl) (d_ FT 2 rfl (dq_ rfl rfl (Jq_index1 rfl rfl rfl un32 ty157 (by omega) (by omega) (get_u32i (n - 1) (by omega) (by omega))) (dq_ rfl rfl (Jq_load_ref rfl rfl ty157) (d_ FT 2 rfl ?_))))
    refine dq_ rfl rfl (Jq_index1 rfl rfl rfl un32 ty157 (by omega) (by omega) (get_u32i (n - 1) (by omega) (by omega))) (dq_ rfl rfl (Jq_load_ref rfl rfl ty157) (dq_ rfl rfl (Jq_neq rfl rfl rfl (b:=false) (nF (by omega))) (DK_nil (At_then (Tc_f rfl (Tc_skipA (At_block (At_then (Tc_region ?_)))))))))
    refine a_ FT 1 rfl (t_q rfl (Jq_sub rfl rfl rfl (r:=((n - 1:Nat):Int) - 1) (w64 (by omega) (by omega) (by omega))) (a_ FT 1 rfl (Tl_end ?_)))
    exact At_next (m':=n - 1) (by omega) ⟨n - 1,rfl,rfl,rfl,by omega,drop_succ_eq (by omega) (by omega) (by rw [show n - 1 + 1 = n from by omega];exact h.2) hz⟩ ⟨rfl,rfl,rfl,trivial⟩
   ·refine Tc_drawK 0 [none,none,none,none,none,none,none,none,none] [] follows (by kernel_rfl) (d_ FT 2 rfl (dq_ rfl rfl (Jq_index1 rfl rfl rfl un32 ty157 (by omega) (by omega) (get_u32i (n - 1) (by omega) (by omega))) (dq_ rfl rfl (Jq_load_ref rfl rfl ty157) (d_ FT 2 rfl ?_))))
    refine dq_ rfl rfl (Jq_index1 rfl rfl rfl un32 ty157 (by omega) (by omega) (get_u32i (n - 1) (by omega) (by omega))) (dq_ rfl rfl (Jq_load_ref rfl rfl ty157) (dq_ rfl rfl (Jq_neq rfl rfl rfl (b:=true) (nT (by omega))) (DK_nil (At_then (Tc_t rfl (Tc_seq (Tc_seq ?_)))))))
    by_cases hy:a[n - 1]'(by omega) < b[n - 1]'(by omega)
    ·refine Tc_drawK 0 [none,none,none,none,none,none,none,none,none] [] follows (by kernel_rfl) (d_ FT 2 rfl (dq_ rfl rfl (Jq_index1 rfl rfl rfl un32 ty157 (by omega) (by omega) (get_u32i (n - 1) (by omega) (by omega))) (dq_ rfl rfl (Jq_load_ref rfl rfl ty157) (d_ FT 2 rfl ?_))))
     refine dq_ rfl rfl (Jq_index1 rfl rfl rfl un32 ty157 (by omega) (by omega) (get_u32i (n - 1) (by omega) (by omega))) (dq_ rfl rfl (Jq_load_ref rfl rfl ty157) (dq_ rfl rfl (Jq_lss rfl rfl rfl (b:=true) (dT (by omega))) (DK_nil (At_then (Tc_t rfl (c_a (a_ FT 1 rfl (c_n ?_))))))))
     exact Tc_ret1 hq_ rfl rfl (by rw [cmpN_lt (by rw [← va,← vb];exact cmp_at (n:=n - 1) sa (by omega) (by omega) (by rw [show n - 1 + 1 = n from by omega];exact h.2) hy)])
    ·refine Tc_drawK 0 [none,none,none,none,none,none,none,none,none] [] follows (by kernel_rfl) (d_ FT 2 rfl (dq_ rfl rfl (Jq_index1 rfl rfl rfl un32 ty157 (by omega) (by omega) (get_u32i (n - 1) (by omega) (by omega))) (dq_ rfl rfl (Jq_load_ref rfl rfl ty157) (d_ FT 2 rfl ?_))))
     refine dq_ rfl rfl (Jq_index1 rfl rfl rfl un32 ty157 (by omega) (by omega) (get_u32i (n - 1) (by omega) (by omega))) (dq_ rfl rfl (Jq_load_ref rfl rfl ty157) (dq_ rfl rfl (Jq_lss rfl rfl rfl (b:=false) (dF (by omega))) (DK_nil (At_then (Tc_f rfl (c_b (c_a (a_ FT 1 rfl (c_n ?_)))))))))
     exact Tc_ret1 hq_ rfl rfl (by rw [cmpN_gt (by rw [← va,← vb];exact cmp_at (n:=n - 1) sb (by omega) (by omega) (by rw [show n - 1 + 1 = n from by omega];exact h.2.symm) (by omega))])
  ·refine t_q rfl (Jq_geq rfl rfl rfl (b:=false) (dF (by omega))) (c_n (Tc_f rfl (Tc_exitA (At_then_exit (At_then_exit (At_block_exit (At_then (c_a (a_ FT 1 rfl ?_)))))))))
   refine c_n ?_
   exact Tc_ret1 hq_ rfl rfl (by rw [cmpN_eq (by rw [← va,← vb];have h2:=h.2;rw [show n = 0 from by omega] at h2;rw [show a = b from h2])])
set_option maxRecDepth 10000 in
theorem of_spec (x:Nat) (hx:x < 18446744073709551616):Ctr Tryz.prog 130 [V.one (Leaf.val (.int .u64 x))] (R.one (V.one (natL (limbs x)))):=by
 refine Ctr.of_body Tryz.func130 rfl Tryz.ntmps130 (Nat.le_of_ble_eq_true rfl) (fun w0 A0=>?_)
 refine c_a (t_q rfl (Jq_assign_nil rfl) (cna (a_ FT 1 rfl (t_q rfl (Jq_convert rfl rfl un157 us164 (r:=((x % 4294967296:Nat):Int)) (wu32 (by omega))) (a_ FT 1 rfl (t_q rfl (Jq_shr rfl rfl rfl (by decide) (r:=((x / 4294967296:Nat):Int)) (shr_nat x 32 rfl)) (t_q rfl (Jq_convert rfl rfl un157 us164 (r:=((x / 4294967296:Nat):Int)) (wu32 (by omega))) ?_)))))))
 refine t_f rfl (Je_buildSlice rfl un32 ty157 tz157 rfl (by decide) (by decide) rfl (by decide) rfl) (t_f rfl (Je_call rfl fn163 rfl (trim_spec [x % 4294967296,x / 4294967296] (Small.cons (by omega) (Small.cons (by omega) Small.nil)))) (a_ FT 1 rfl (c_n ?_)))
 exact Tc_ret1 hq_ rfl rfl (by rw [show val [x % 4294967296,x / 4294967296] = x from by simp;omega])
end Go.Proofs.YtjdbopkbfkgpdaaGreatDoor
set_option linter.unusedSimpArgs false
set_option linter.unusedVariables false
namespace Go.Proofs.YtjdbopkbfkgpdaaGreatDoor
open Go Go.RowKit Rc
set_option maxRecDepth 10000 in
theorem valid_spec (l:List Nat):Ctr Tryz.prog 155 [V.one (natL l)] (R.one (V.one (Leaf.val (.bool (decide (∀ h:l≠[],l.getLast h≠0)))))):=by
 refine Ctr.of_body Tryz.func155 rfl Tryz.ntmps155 (Nat.le_of_ble_eq_true rfl) (fun w0 A0=>?_)
 refine Tc_seq ?_
 refine Tc_len (s:=0) rfl (fun hm=>?_)
 refine Tc_region (a_ FT 1 rfl (cna (a_ FT 1 rfl (t_q rfl (Jq_len rfl rfl un32) ?_))))
 by_cases hz:l.length = 0
 ·refine t_q rfl (Jq_eql rfl rfl rfl (b:=true) (eT (by omega))) (a_ FT 10 rfl (c_n ?_))
  exact Tc_ret1 hq_ rfl rfl (by rw [decide_eq_true];intro h;exact absurd (List.eq_nil_of_length_eq_zero hz) h)
 ·refine t_q rfl (Jq_eql rfl rfl rfl (b:=false) (eF (by omega))) (a_ FT 3 rfl (t_g rfl rfl rfl rfl (Jq_len rfl rfl un32) (t_g rfl rfl rfl rfl (Jq_sub rfl rfl rfl (r:=((l.length - 1:Nat):Int)) (w64 (by omega) (by omega) (by omega))) (t_g rfl rfl rfl rfl (Jq_index1 rfl rfl rfl un32 ty157 (by omega) (by omega) (get_u32i (l.length - 1) (by omega) rfl)) ?_))))
  refine t_g rfl rfl rfl rfl (Jq_load_ref rfl rfl ty157) ?_
  by_cases hy:l[l.length - 1]'(by omega)≠0
  ·refine t_g rfl rfl rfl rfl (Jq_neq rfl rfl rfl (b:=true) (nT (by omega))) (a_ FT 2 rfl (c_n ?_))
   exact Tc_ret1 hq_ rfl rfl (by rw [decide_eq_true];intro h;rw [List.getLast_eq_getElem];exact hy)
  ·refine t_g rfl rfl rfl rfl (Jq_neq rfl rfl rfl (b:=false) (nF (by omega))) (a_ FT 2 rfl (c_n ?_))
   exact Tc_ret1 hq_ rfl rfl (by rw [decide_eq_false];intro h;exact h (by intro e;rw [e] at hz;simp at hz) (by rw [List.getLast_eq_getElem];omega))
set_option maxRecDepth 10000 in
theorem uint_spec (x:Nat):Ctr Tryz.prog 177 [V.one (natL (limbs x))] (R.tup [V.one (Leaf.val (.int .u64 (if x < 18446744073709551616 then x else 0:Nat))),V.one (Leaf.val (.bool (decide (x < 18446744073709551616))))]):=by
 refine Ctr.of_body Tryz.func177 rfl Tryz.ntmps177 (Nat.le_of_ble_eq_true rfl) (fun w0 A0=>?_)
 refine c_a (a_ FT 2 rfl (cna (a_ FT 1 rfl (t_f rfl (Je_call rfl fn163 rfl (trim_spec (limbs x) (small_limbs x))) (a_ FT 1 rfl (cns (Tc_seq ?_)))))))
 rw [val_limbs]
 have hx:=val_limbs x;have hsl:=small_limbs x
 have hlen:(limbs x).length≤2↔x < 4294967296 ^ 2:=limbs_length_le
 generalize limbs x = l at *
 refine Tc_region (a_ FT 1 rfl (t_q rfl (Jq_len rfl rfl un32) ?_))
 by_cases hl:2 < l.length
 ·refine t_q rfl (Jq_gtr rfl rfl rfl (b:=true) (dT (by omega))) (c_n (Tc_t rfl (c_a (a_ FT 2 rfl (c_n ?_)))))
  exact Tc_ret2 hq_ rfl rfl rfl (by rw [if_neg (by omega),decide_eq_false (by omega)];rfl)
 ·refine t_q rfl (Jq_gtr rfl rfl rfl (b:=false) (dF (by omega))) (c_n (Tc_f rfl (c_b (c_a (a_ FT 1 rfl (cns (c_a (a_ FT 1 rfl (t_q rfl (Jq_len rfl rfl un32) ?_)))))))))
  refine a_ FT 1 rfl (c_n (Tc_block ?_))
  refine Tc_loopR (fun m Γ H=>∃ (i:Nat),l.length - i = m∧Γ = [(0,some (D.v (V.one (natL l)))),(4,some (D.val (.int .u64 ((val (l.take i):Nat):Int)))),(12,some (D.v (V.one (natL l)))),(13,some (D.int ((l.length:Nat):Int))),(14,some (D.int ((i:Nat):Int)))]∧H = []∧i≤l.length) ⟨0,rfl,rfl,rfl,Nat.zero_le _⟩ ⟨rfl,rfl,rfl,rfl,rfl,trivial⟩ ?_
  rintro m Γ H ⟨i,rfl,rfl,rfl,h⟩
  refine c_a ?_
  by_cases hp:i < l.length
  ·refine t_q rfl (Jq_lss rfl rfl rfl (b:=true) (dT (by omega))) (cns (Tc_t rfl (c_b (Tc_seq (Tc_block (c_a (a_ FT 1 rfl (t_q rfl (Jq_index1 rfl rfl rfl un32 ty157 (by omega) (by omega) (get_u32 (by omega))) (t_q rfl (Jq_load_ref rfl rfl ty157) ?_)))))))))
   refine a_ FT 2 rfl (c_n ?_)
   have hd:=hsl.get i hp
   have hv:=val_take_succ l i hp
   have hlt:=val_lt (hsl.take (i + 1))
   rw [List.length_take,Nat.min_eq_left (by omega),pow32] at hlt
   have hlt0:=val_lt (hsl.take i)
   rw [List.length_take,Nat.min_eq_left (by omega),pow32] at hlt0
   have h64:(2:Nat) ^ (32 * (i + 1))≤18446744073709551616:=by
    have:i = 0 ∨ i = 1:=by omega
    rcases this with e | e <;> subst e <;> decide
   rw [pow32,Nat.mul_comm] at hv
   refine Tc_region (a_ FT 2 rfl (t_q rfl (Jq_convert rfl rfl un164 us157 (r:=((l[i]'(by omega):Nat):Int)) (wu64 (by omega))) (a_ FT 1 rfl (t_q rfl (Jq_mul rfl rfl rfl (r:=((32 * i:Nat):Int)) (w64 (by omega) (by omega) (by omega))) ?_))))
   refine t_q rfl (Jq_shl rfl rfl rfl (by omega) (r:=((l[i]'(by omega) * 2 ^ (32 * i):Nat):Int)) (shl64 _ (32 * i) (minbits64 (by omega)) (by omega))) (t_q rfl (Jq_or rfl rfl rfl (r:=((val (l.take (i + 1)):Nat):Int)) (by rw [hv];exact or64' (32 * i) (Nat.mul_mod_left _ _) hlt0 (by omega))) (a_ FT 1 rfl (Tl_end (At_block (At_then (Tc_region ?_))))))
   refine t_q rfl (Jq_add rfl rfl rfl (r:=((i + 1:Nat):Int)) (w64 (by omega) (by omega) (by omega))) (a_ FT 1 rfl (Tl_end ?_))
   exact At_next (m':=l.length - (i + 1)) (by omega) ⟨i + 1,rfl,rfl,rfl,by omega⟩ ⟨rfl,rfl,rfl,rfl,rfl,trivial⟩
  ·refine t_q rfl (Jq_lss rfl rfl rfl (b:=false) (dF (by omega))) (cns (Tc_f rfl (Tc_exitA (At_then_exit (At_then_exit (At_block_exit (At_then (c_a (a_ FT 3 rfl ?_)))))))))
   refine c_n ?_
   exact Tc_ret2 hq_ rfl rfl rfl (by rw [val_take_all l i (by omega),hx,if_pos (by omega),decide_eq_true (by omega)])
set_option maxRecDepth 10000 in
theorem add_spec (la lb:List Nat) (hsa:Small la) (hsb:Small lb) (hla0:la.length≤10000000000000) (hlb0:lb.length≤10000000000000):Ctr Tryz.prog 168 [V.one (natL la),V.one (natL lb)] (R.one (V.one (natL (limbs (val la + val lb))))):=by
 refine Ctr.of_body Tryz.func168 rfl Tryz.ntmps168 (Nat.le_of_ble_eq_true rfl) (fun w0 A0=>?_)
 refine c_a (t_q rfl (Jq_assign_nil rfl) (cna (a_ FT 1 rfl (t_f rfl (Je_call rfl fn163 rfl (trim_spec la hsa)) (a_ FT 1 rfl (t_f rfl (Je_call rfl fn163 rfl (trim_spec lb hsb)) (a_ FT 2 rfl (cns (Tc_seq ?_)))))))))
 have hla:=limbs_val_length hsa;have hlb:=limbs_val_length hsb
 have va:=val_limbs (val la);have vb:=val_limbs (val lb);have sa:=small_limbs (val la);have sb:=small_limbs (val lb)
 generalize limbs (val la) = a at *
 generalize limbs (val lb) = b at *
 refine Tc_region (a_ FT 1 rfl (t_q rfl (Jq_len rfl rfl un32) (a_ FT 1 rfl (t_q rfl (Jq_len rfl rfl un32) ?_))))
 by_cases hab:a.length < b.length
 ·refine t_q rfl (Jq_lss rfl rfl rfl (b:=true) (dT (by omega))) (c_n (Tc_t rfl (Tc_region (a_ FT 4 rfl (cna (a_ FT 1 rfl (t_q rfl (Jq_len rfl rfl un32) (t_q rfl (Jq_add rfl rfl rfl (r:=((b.length + 1:Nat):Int)) (w64 (by omega) (by omega) (by omega))) ?_))))))))
  obtain ⟨ti2,hi2,hz2,hs2,hb2⟩:=in157
  refine t_f rfl (Je_make (i:=0) (n:=b.length + 1) (ls:=((List.replicate (b.length + 1) 0).map u32L)) rfl rfl rfl un32 hi2 hz2 hs2 (by decide) rfl (by decide) rfl (by rw [hb2];omega) (by simp only [maxLen];omega) (zc_u32 _) rfl) (a_ FT 1 rfl (cna (a_ FT 1 rfl (cns (c_a (a_ FT 1 rfl (t_q rfl (Jq_len rfl rfl un32) (a_ FT 1 rfl (c_n ?_)))))))))
  refine Tc_block ?_
  refine Tc_loopR (fun m Γ H=>∃ (k:Nat) (out:List Nat) (c:Nat),b.length - k = m∧Γ = [(0,some (D.v (V.one (natL b)))),(1,some (D.v (V.one (natL a)))),(5,some (D.own 0 (b.length + 1))),(6,some (D.val (.int .u64 ((c:Nat):Int)))),(24,some (D.v (V.one (natL b)))),(25,some (D.int ((b.length:Nat):Int))),(26,some (D.int ((k:Nat):Int)))]∧H = [some ⟨157,out.map u32L,some 1,none⟩]∧k≤b.length∧out.length = b.length + 1∧Small out∧c≤1∧val (out.take k) + c * 4294967296 ^ k = val (b.take k) + val (a.take k)) ⟨0,List.replicate (b.length + 1) 0,0,rfl,rfl,rfl,Nat.zero_le _,by simp,Small.replicate _,by omega,rfl⟩ ⟨rfl,rfl,rfl,rfl,rfl,rfl,rfl,trivial⟩ ?_
  rintro m Γ H ⟨k,out,c,rfl,rfl,rfl,hkle,hol,hos,hc,heq⟩
  refine c_a ?_
  by_cases hk:k < b.length
  ·refine t_q rfl (Jq_lss rfl rfl rfl (b:=true) (dT (by omega))) (cns (Tc_t rfl (c_b (Tc_seq (Tc_block (Tc_seq ?_))))))
   have hak:=sb.get k hk;have hbk:=sa.getD k
   refine Tc_region (a_ FT 1 rfl (t_q rfl (Jq_index1 rfl rfl rfl un32 ty157 (by omega) (by omega) (get_u32 (by omega))) (t_q rfl (Jq_load_ref rfl rfl ty157) (a_ FT 2 rfl (cna (a_ FT 2 rfl (t_q rfl (Jq_convert rfl rfl un164 us157 (r:=((b[k]'hk:Nat):Int)) (wu64 (by omega))) (t_q rfl (Jq_add rfl rfl rfl (r:=((c + b[k]'hk:Nat):Int)) (wu64 (by omega))) (a_ FT 1 rfl ?_)))))))))
   refine cns (c_a (a_ FT 2 rfl (t_q rfl (Jq_len rfl rfl un32) ?_)))
   by_cases hkb:k < a.length
   ·refine t_q rfl (Jq_lss rfl rfl rfl (b:=true) (dT (by omega))) (c_n (Tc_t rfl ?_))
    have hbk2:=sa.get k hkb
    refine Tc_region (a_ FT 3 rfl (t_q rfl (Jq_index1 rfl rfl rfl un32 ty157 (by omega) (by omega) (get_u32 (by omega))) (t_q rfl (Jq_load_ref rfl rfl ty157) (t_q rfl (Jq_convert rfl rfl un164 us157 (r:=((a[k]'hkb:Nat):Int)) (wu64 (by omega))) (t_q rfl (Jq_add rfl rfl rfl (r:=((c + b[k]'hk + a[k]'hkb:Nat):Int)) (wu64 (by omega))) (a_ FT 1 rfl (cna (a_ FT 3 rfl ?_))))))))
    refine t_q rfl (Jq_convert rfl rfl un157 us164 (r:=(((c + b[k] + a[k]) % 4294967296:Nat):Int)) (wu32 (by omega))) (t_q rfl (Jq_index_own rfl rfl rfl rfl (by decide) (by simp [hol]) (by decide) un32 ty157 (by omega) (by omega) (off:=k) (by omega)) ?_)
    refine t_f rfl (Je_store (ls:=((out.set k ((c + b[k] + a[k]) % 4294967296)).map u32L)) rfl rfl rfl rfl ty157 rfl (by decide) (by simp;omega) (splice_u32 (by omega))) (c_n (Tc_region (a_ FT 1 rfl (t_q rfl (Jq_shr rfl rfl rfl (by decide) (r:=(((c + b[k] + a[k]) / 4294967296:Nat):Int)) (shr_nat _ 32 rfl)) (a_ FT 1 rfl (Tl_end (At_block (At_then (Tc_region ?_)))))))))
    refine t_q rfl (Jq_add rfl rfl rfl (r:=((k + 1:Nat):Int)) (w64 (by omega) (by omega) (by omega))) (a_ FT 1 rfl (Tl_end ?_))
    exact At_next (m':=b.length - (k + 1)) (by omega) ⟨k + 1,_,(c + b[k] + a[k]) / 4294967296,rfl,rfl,rfl,by omega,by simp [hol],hos.set _ _ (by omega),by omega,add_step hk (by omega) heq (by rw [getD_of hkb])⟩ ⟨rfl,rfl,rfl,rfl,rfl,rfl,rfl,trivial⟩
   ·refine t_q rfl (Jq_lss rfl rfl rfl (b:=false) (dF (by omega))) (c_n (Tc_f rfl (c_b (c_a (a_ FT 3 rfl (t_q rfl (Jq_convert rfl rfl un157 us164 (r:=(((c + b[k]) % 4294967296:Nat):Int)) (wu32 (by omega))) (t_q rfl (Jq_index_own rfl rfl rfl rfl (by decide) (by simp [hol]) (by decide) un32 ty157 (by omega) (by omega) (off:=k) (by omega)) ?_)))))))
    refine t_f rfl (Je_store (ls:=((out.set k ((c + b[k]) % 4294967296)).map u32L)) rfl rfl rfl rfl ty157 rfl (by decide) (by simp;omega) (splice_u32 (by omega))) (c_n (Tc_region (a_ FT 1 rfl (t_q rfl (Jq_shr rfl rfl rfl (by decide) (r:=(((c + b[k]) / 4294967296:Nat):Int)) (shr_nat _ 32 rfl)) (a_ FT 1 rfl (Tl_end (At_block (At_then (Tc_region ?_)))))))))
    refine t_q rfl (Jq_add rfl rfl rfl (r:=((k + 1:Nat):Int)) (w64 (by omega) (by omega) (by omega))) (a_ FT 1 rfl (Tl_end ?_))
    exact At_next (m':=b.length - (k + 1)) (by omega) ⟨k + 1,_,(c + b[k]) / 4294967296,rfl,rfl,rfl,by omega,by simp [hol],hos.set _ _ (by omega),by omega,add_step hk (by omega) heq (by rw [getD_out (by omega),Nat.add_zero])⟩ ⟨rfl,rfl,rfl,rfl,rfl,rfl,rfl,trivial⟩
  ·refine t_q rfl (Jq_lss rfl rfl rfl (b:=false) (dF (by omega))) (cns (Tc_f rfl (Tc_exitA (At_then_exit (At_then_exit (At_block_exit (At_then (c_a (a_ FT 2 rfl ?_)))))))))
   refine t_q rfl (Jq_len rfl rfl un32) (a_ FT 1 rfl (t_q rfl (Jq_convert rfl rfl un157 us164 (r:=((c:Nat):Int)) (wu32 (by omega))) (t_q rfl (Jq_index_own rfl rfl rfl rfl (by decide) (by simp [hol]) (by decide) un32 ty157 (by omega) (by omega) (off:=b.length) (by omega)) ?_)))
   refine t_f rfl (Je_store (ls:=((out.set b.length c).map u32L)) rfl rfl rfl rfl ty157 rfl (by decide) (by simp;omega) (splice_u32 (by omega))) (cna (a_ FT 1 rfl (Tl_share_nat 60 (out.set b.length c) rfl rfl rfl rfl (by simp [hol]) (t_f rfl (Je_call rfl fn163 rfl (trim_spec (out.set b.length c) (hos.set _ _ (by omega)))) (a_ FT 1 rfl (c_n ?_))))))
   have hke:k = b.length:=by omega
   subst hke
   have hfin:=val_set_take out b.length c (by omega)
   rw [val_take_all _ _ (by simp [hol])] at hfin
   rw [val_take_all b _ (Nat.le_refl _),val_take_all a _ (by omega)] at heq
   exact Tc_ret1 hq_ rfl rfl (by rw [show val (out.set b.length c) = val la + val lb from by rw [hfin,← va,← vb,Nat.mul_comm];omega])
 ·refine t_q rfl (Jq_lss rfl rfl rfl (b:=false) (dF (by omega))) (c_n (Tc_f rfl (c_b (c_a (a_ FT 1 rfl (t_q rfl (Jq_len rfl rfl un32) (t_q rfl (Jq_add rfl rfl rfl (r:=((a.length + 1:Nat):Int)) (w64 (by omega) (by omega) (by omega))) ?_)))))))
  obtain ⟨ti6,hi6,hz6,hs6,hb6⟩:=in157
  refine t_f rfl (Je_make (i:=0) (n:=a.length + 1) (ls:=((List.replicate (a.length + 1) 0).map u32L)) rfl rfl rfl un32 hi6 hz6 hs6 (by decide) rfl (by decide) rfl (by rw [hb6];omega) (by simp only [maxLen];omega) (zc_u32 _) rfl) (a_ FT 1 rfl (cna (a_ FT 1 rfl (cns (c_a (a_ FT 1 rfl (t_q rfl (Jq_len rfl rfl un32) (a_ FT 1 rfl (c_n ?_)))))))))
  refine Tc_block ?_
  refine Tc_loopR (fun m Γ H=>∃ (k:Nat) (out:List Nat) (c:Nat),a.length - k = m∧Γ = [(0,some (D.v (V.one (natL a)))),(1,some (D.v (V.one (natL b)))),(5,some (D.own 0 (a.length + 1))),(6,some (D.val (.int .u64 ((c:Nat):Int)))),(24,some (D.v (V.one (natL a)))),(25,some (D.int ((a.length:Nat):Int))),(26,some (D.int ((k:Nat):Int)))]∧H = [some ⟨157,out.map u32L,some 1,none⟩]∧k≤a.length∧out.length = a.length + 1∧Small out∧c≤1∧val (out.take k) + c * 4294967296 ^ k = val (a.take k) + val (b.take k)) ⟨0,List.replicate (a.length + 1) 0,0,rfl,rfl,rfl,Nat.zero_le _,by simp,Small.replicate _,by omega,rfl⟩ ⟨rfl,rfl,rfl,rfl,rfl,rfl,rfl,trivial⟩ ?_
  rintro m Γ H ⟨k,out,c,rfl,rfl,rfl,hkle,hol,hos,hc,heq⟩
  refine c_a ?_
  by_cases hk:k < a.length
  ·refine t_q rfl (Jq_lss rfl rfl rfl (b:=true) (dT (by omega))) (cns (Tc_t rfl (c_b (Tc_seq (Tc_block (Tc_seq ?_))))))
   have hak:=sa.get k hk;have hbk:=sb.getD k
   refine Tc_region (a_ FT 1 rfl (t_q rfl (Jq_index1 rfl rfl rfl un32 ty157 (by omega) (by omega) (get_u32 (by omega))) (t_q rfl (Jq_load_ref rfl rfl ty157) (a_ FT 2 rfl (cna (a_ FT 2 rfl (t_q rfl (Jq_convert rfl rfl un164 us157 (r:=((a[k]'hk:Nat):Int)) (wu64 (by omega))) (t_q rfl (Jq_add rfl rfl rfl (r:=((c + a[k]'hk:Nat):Int)) (wu64 (by omega))) (a_ FT 1 rfl ?_)))))))))
   refine cns (c_a (a_ FT 2 rfl (t_q rfl (Jq_len rfl rfl un32) ?_)))
   by_cases hkb:k < b.length
   ·refine t_q rfl (Jq_lss rfl rfl rfl (b:=true) (dT (by omega))) (c_n (Tc_t rfl ?_))
    have hbk2:=sb.get k hkb
    refine Tc_region (a_ FT 3 rfl (t_q rfl (Jq_index1 rfl rfl rfl un32 ty157 (by omega) (by omega) (get_u32 (by omega))) (t_q rfl (Jq_load_ref rfl rfl ty157) (t_q rfl (Jq_convert rfl rfl un164 us157 (r:=((b[k]'hkb:Nat):Int)) (wu64 (by omega))) (t_q rfl (Jq_add rfl rfl rfl (r:=((c + a[k]'hk + b[k]'hkb:Nat):Int)) (wu64 (by omega))) (a_ FT 1 rfl (cna (a_ FT 3 rfl ?_))))))))
    refine t_q rfl (Jq_convert rfl rfl un157 us164 (r:=(((c + a[k] + b[k]) % 4294967296:Nat):Int)) (wu32 (by omega))) (t_q rfl (Jq_index_own rfl rfl rfl rfl (by decide) (by simp [hol]) (by decide) un32 ty157 (by omega) (by omega) (off:=k) (by omega)) ?_)
    refine t_f rfl (Je_store (ls:=((out.set k ((c + a[k] + b[k]) % 4294967296)).map u32L)) rfl rfl rfl rfl ty157 rfl (by decide) (by simp;omega) (splice_u32 (by omega))) (c_n (Tc_region (a_ FT 1 rfl (t_q rfl (Jq_shr rfl rfl rfl (by decide) (r:=(((c + a[k] + b[k]) / 4294967296:Nat):Int)) (shr_nat _ 32 rfl)) (a_ FT 1 rfl (Tl_end (At_block (At_then (Tc_region ?_)))))))))
    refine t_q rfl (Jq_add rfl rfl rfl (r:=((k + 1:Nat):Int)) (w64 (by omega) (by omega) (by omega))) (a_ FT 1 rfl (Tl_end ?_))
    exact At_next (m':=a.length - (k + 1)) (by omega) ⟨k + 1,_,(c + a[k] + b[k]) / 4294967296,rfl,rfl,rfl,by omega,by simp [hol],hos.set _ _ (by omega),by omega,add_step hk (by omega) heq (by rw [getD_of hkb])⟩ ⟨rfl,rfl,rfl,rfl,rfl,rfl,rfl,trivial⟩
   ·refine t_q rfl (Jq_lss rfl rfl rfl (b:=false) (dF (by omega))) (c_n (Tc_f rfl (c_b (c_a (a_ FT 3 rfl (t_q rfl (Jq_convert rfl rfl un157 us164 (r:=(((c + a[k]) % 4294967296:Nat):Int)) (wu32 (by omega))) (t_q rfl (Jq_index_own rfl rfl rfl rfl (by decide) (by simp [hol]) (by decide) un32 ty157 (by omega) (by omega) (off:=k) (by omega)) ?_)))))))
    refine t_f rfl (Je_store (ls:=((out.set k ((c + a[k]) % 4294967296)).map u32L)) rfl rfl rfl rfl ty157 rfl (by decide) (by simp;omega) (splice_u32 (by omega))) (c_n (Tc_region (a_ FT 1 rfl (t_q rfl (Jq_shr rfl rfl rfl (by decide) (r:=(((c + a[k]) / 4294967296:Nat):Int)) (shr_nat _ 32 rfl)) (a_ FT 1 rfl (Tl_end (At_block (At_then (Tc_region ?_)))))))))
    refine t_q rfl (Jq_add rfl rfl rfl (r:=((k + 1:Nat):Int)) (w64 (by omega) (by omega) (by omega))) (a_ FT 1 rfl (Tl_end ?_))
    exact At_next (m':=a.length - (k + 1)) (by omega) ⟨k + 1,_,(c + a[k]) / 4294967296,rfl,rfl,rfl,by omega,by simp [hol],hos.set _ _ (by omega),by omega,add_step hk (by omega) heq (by rw [getD_out (by omega),Nat.add_zero])⟩ ⟨rfl,rfl,rfl,rfl,rfl,rfl,rfl,trivial⟩
  ·refine t_q rfl (Jq_lss rfl rfl rfl (b:=false) (dF (by omega))) (cns (Tc_f rfl (Tc_exitA (At_then_exit (At_then_exit (At_block_exit (At_then (c_a (a_ FT 2 rfl ?_)))))))))
   refine t_q rfl (Jq_len rfl rfl un32) (a_ FT 1 rfl (t_q rfl (Jq_convert rfl rfl un157 us164 (r:=((c:Nat):Int)) (wu32 (by omega))) (t_q rfl (Jq_index_own rfl rfl rfl rfl (by decide) (by simp [hol]) (by decide) un32 ty157 (by omega) (by omega) (off:=a.length) (by omega)) ?_)))
   refine t_f rfl (Je_store (ls:=((out.set a.length c).map u32L)) rfl rfl rfl rfl ty157 rfl (by decide) (by simp;omega) (splice_u32 (by omega))) (cna (a_ FT 1 rfl (Tl_share_nat 60 (out.set a.length c) rfl rfl rfl rfl (by simp [hol]) (t_f rfl (Je_call rfl fn163 rfl (trim_spec (out.set a.length c) (hos.set _ _ (by omega)))) (a_ FT 1 rfl (c_n ?_))))))
   have hke:k = a.length:=by omega
   subst hke
   have hfin:=val_set_take out a.length c (by omega)
   rw [val_take_all _ _ (by simp [hol])] at hfin
   rw [val_take_all a _ (Nat.le_refl _),val_take_all b _ (by omega)] at heq
   exact Tc_ret1 hq_ rfl rfl (by rw [show val (out.set a.length c) = val la + val lb from by rw [hfin,← va,← vb,Nat.mul_comm];omega])
set_option maxRecDepth 10000 in
theorem sub_spec (la lb:List Nat) (hsa:Small la) (hsb:Small lb) (hla0:la.length≤10000000000000) (hge:val lb≤val la):Ctr Tryz.prog 175 [V.one (natL la),V.one (natL lb)] (R.tup [V.one (natL (limbs (val la - val lb))),V.one (Leaf.val (.int .i64 0))]):=by
 refine Ctr.of_body Tryz.func175 rfl Tryz.ntmps175 (Nat.le_of_ble_eq_true rfl) (fun w0 A0=>?_)
 refine c_a (t_q rfl (Jq_assign_nil rfl) (a_ FT 1 rfl (cna (a_ FT 1 rfl (t_f rfl (Je_call rfl fn163 rfl (trim_spec la hsa)) (a_ FT 1 rfl (t_f rfl (Je_call rfl fn163 rfl (trim_spec lb hsb)) (a_ FT 2 rfl (cns ?_)))))))))
 refine Tc_seq ?_
 have hla:=limbs_val_length hsa;have hlb:=limbs_val_length hsb
 have va:=val_limbs (val la);have vb:=val_limbs (val lb);have sa:=small_limbs (val la);have sb:=small_limbs (val lb)
 have hlen:(limbs (val lb)).length≤(limbs (val la)).length:=limbs_length_mono hge
 have hcm:¬ cmpN (val (limbs (val la))) (val (limbs (val lb))) < 0:=by rw [va,vb];unfold cmpN;rw [if_neg (by omega)];split <;> decide
 generalize limbs (val la) = a at *
 generalize limbs (val lb) = b at *
 refine Tc_region (a_ FT 2 rfl (t_f rfl (Je_call rfl fn137 rfl (cmp_spec _ _ sa sb)) (t_q rfl (Jq_lss rfl rfl rfl (b:=false) (dF hcm)) (c_n (Tc_f rfl (c_b (c_a (a_ FT 1 rfl (t_q rfl (Jq_len rfl rfl un32) ?_)))))))))
 obtain ⟨ti1,hi1,hz1,hs1,hb1⟩:=in157
 refine t_f rfl (Je_make (i:=0) (n:=a.length) (ls:=((List.replicate (a.length) 0).map u32L)) rfl rfl rfl un32 hi1 hz1 hs1 (by decide) rfl (by decide) rfl (by rw [hb1];omega) (by simp only [maxLen];omega) (zc_u32 _) rfl) (a_ FT 1 rfl (cna (a_ FT 1 rfl (cns (c_a (a_ FT 1 rfl (t_q rfl (Jq_len rfl rfl un32) (a_ FT 1 rfl (c_n ?_)))))))))
 refine Tc_block ?_
 refine Tc_loopR (fun m Γ H=>∃ (k:Nat) (out:List Nat) (c:Nat),a.length - k = m∧Γ = [(0,some (D.v (V.one (natL a)))),(1,some (D.v (V.one (natL b)))),(6,some (D.own 0 a.length)),(7,some (D.val (.int .u64 ((c:Nat):Int)))),(22,some (D.v (V.one (natL a)))),(23,some (D.int ((a.length:Nat):Int))),(24,some (D.int ((k:Nat):Int)))]∧H = [some ⟨157,out.map u32L,some 1,none⟩]∧k≤a.length∧out.length = a.length∧Small out∧c≤1∧val (out.take k) + val (b.take k) = val (a.take k) + c * 4294967296 ^ k) ⟨0,List.replicate a.length 0,0,rfl,rfl,rfl,Nat.zero_le _,by simp,Small.replicate _,by omega,rfl⟩ ⟨rfl,rfl,rfl,rfl,rfl,rfl,rfl,trivial⟩ ?_
 rintro m Γ H ⟨k,out,c,rfl,rfl,rfl,hkle,hol,hos,hc,heq⟩
 refine c_a ?_
 by_cases hk:k < a.length
 ·refine t_q rfl (Jq_lss rfl rfl rfl (b:=true) (dT (by omega))) (cns (Tc_t rfl (c_b (Tc_seq (Tc_block (Tc_seq ?_))))))
  have hak:=sa.get k hk;have hbk:=sb.getD k
  refine Tc_region (a_ FT 1 rfl (t_q rfl (Jq_index1 rfl rfl rfl un32 ty157 (by omega) (by omega) (get_u32 (by omega))) (t_q rfl (Jq_load_ref rfl rfl ty157) (a_ FT 2 rfl (cna (a_ FT 1 rfl (t_q rfl (Jq_convert rfl rfl un164 us157 (r:=((a[k]'hk:Nat):Int)) (wu64 (by omega))) (a_ FT 1 rfl ?_))))))))
  refine t_q rfl (Jq_sub rfl rfl rfl (r:=(((18446744073709551616 + a[k]'hk - c) % 18446744073709551616:Nat):Int)) (wu64 (by omega))) (a_ FT 1 rfl (cns (c_a (a_ FT 2 rfl (t_q rfl (Jq_len rfl rfl un32) ?_)))))
  by_cases hkb:k < b.length
  ·refine t_q rfl (Jq_lss rfl rfl rfl (b:=true) (dT (by omega))) (c_n (Tc_t rfl ?_))
   have hbk2:=sb.get k hkb
   refine Tc_region (a_ FT 3 rfl (t_q rfl (Jq_index1 rfl rfl rfl un32 ty157 (by omega) (by omega) (get_u32 (by omega))) (t_q rfl (Jq_load_ref rfl rfl ty157) (t_q rfl (Jq_convert rfl rfl un164 us157 (r:=((b[k]'hkb:Nat):Int)) (wu64 (by omega))) ?_))))
   refine t_q rfl (Jq_sub rfl rfl rfl (r:=(((18446744073709551616 + a[k]'hk - c - b[k]'hkb) % 18446744073709551616:Nat):Int)) (wu64 (by omega))) (a_ FT 1 rfl (cna (a_ FT 3 rfl (t_q rfl (Jq_convert rfl rfl un157 us164 (r:=((((18446744073709551616 + a[k] - c - b[k]) % 18446744073709551616) % 4294967296:Nat):Int)) (wu32 (by omega))) ?_))))
   refine t_q rfl (Jq_index_own rfl rfl rfl rfl (by decide) (by simp [hol]) (by decide) un32 ty157 (by omega) (by omega) (off:=k) (by omega)) (t_f rfl (Je_store (ls:=((out.set k (((18446744073709551616 + a[k] - c - b[k]) % 18446744073709551616) % 4294967296)).map u32L)) rfl rfl rfl rfl ty157 rfl (by decide) (by simp;omega) (splice_u32 (by omega))) (c_n (Tc_region (a_ FT 1 rfl ?_))))
   refine t_q rfl (Jq_shr rfl rfl rfl (by decide) (r:=((((18446744073709551616 + a[k] - c - b[k]) % 18446744073709551616) / 9223372036854775808:Nat):Int)) (shr_nat _ 63 rfl)) (a_ FT 1 rfl (Tl_end (At_block (At_then (Tc_region (t_q rfl (Jq_add rfl rfl rfl (r:=((k + 1:Nat):Int)) (w64 (by omega) (by omega) (by omega))) (a_ FT 1 rfl (Tl_end ?_))))))))
   exact At_next (m':=a.length - (k + 1)) (by omega) ⟨k + 1,_,((18446744073709551616 + a[k] - c - b[k]) % 18446744073709551616) / 9223372036854775808,rfl,rfl,rfl,by omega,by simp [hol],hos.set _ _ (by omega),by omega,sub_step hk (by omega) sa sb hc heq (by rw [getD_of hkb])⟩ ⟨rfl,rfl,rfl,rfl,rfl,rfl,rfl,trivial⟩
  ·refine t_q rfl (Jq_lss rfl rfl rfl (b:=false) (dF (by omega))) (c_n (Tc_f rfl (c_b (c_a (a_ FT 3 rfl (t_q rfl (Jq_convert rfl rfl un157 us164 (r:=((((18446744073709551616 + a[k] - c) % 18446744073709551616) % 4294967296:Nat):Int)) (wu32 (by omega))) ?_))))))
   refine t_q rfl (Jq_index_own rfl rfl rfl rfl (by decide) (by simp [hol]) (by decide) un32 ty157 (by omega) (by omega) (off:=k) (by omega)) (t_f rfl (Je_store (ls:=((out.set k (((18446744073709551616 + a[k] - c) % 18446744073709551616) % 4294967296)).map u32L)) rfl rfl rfl rfl ty157 rfl (by decide) (by simp;omega) (splice_u32 (by omega))) (c_n (Tc_region (a_ FT 1 rfl ?_))))
   refine t_q rfl (Jq_shr rfl rfl rfl (by decide) (r:=((((18446744073709551616 + a[k] - c) % 18446744073709551616) / 9223372036854775808:Nat):Int)) (shr_nat _ 63 rfl)) (a_ FT 1 rfl (Tl_end (At_block (At_then (Tc_region (t_q rfl (Jq_add rfl rfl rfl (r:=((k + 1:Nat):Int)) (w64 (by omega) (by omega) (by omega))) (a_ FT 1 rfl (Tl_end ?_))))))))
   exact At_next (m':=a.length - (k + 1)) (by omega) ⟨k + 1,_,((18446744073709551616 + a[k] - c) % 18446744073709551616) / 9223372036854775808,rfl,rfl,rfl,by omega,by simp [hol],hos.set _ _ (by omega),by omega,sub_step hk (by omega) sa sb hc heq (by rw [getD_out (by omega),Nat.sub_zero])⟩ ⟨rfl,rfl,rfl,rfl,rfl,rfl,rfl,trivial⟩
 ·refine t_q rfl (Jq_lss rfl rfl rfl (b:=false) (dF (by omega))) (cns (Tc_f rfl (Tc_exitA (At_then_exit (At_then_exit (At_block_exit (At_then (c_a (a_ FT 1 rfl ?_)))))))))
  refine Tl_share_nat 52 (out) rfl rfl rfl rfl (by omega) (t_f rfl (Je_call rfl fn163 rfl (trim_spec out hos)) (a_ FT 2 rfl (c_n ?_)))
  have hke:k = a.length:=by omega
  subst hke
  rw [val_take_all out _ (by omega),val_take_all a _ (Nat.le_refl _),val_take_all b _ (by omega)] at heq
  have hlt:=val_lt hos
  rw [hol] at hlt
  have hc0:c = 0:=by
   rcases Nat.eq_zero_or_pos c with h | h
   ·exact h
   ·exfalso
    have:c = 1:=by omega
    subst this
    omega
  exact Tc_ret2 hq_ rfl rfl rfl (by rw [show val out = val la - val lb from by rw [← va,← vb];subst hc0;omega])
set_option maxRecDepth 10000 in
theorem mul_spec (la lb:List Nat) (hsa:Small la) (hsb:Small lb) (hla0:la.length≤10000000000000) (hlb0:lb.length≤10000000000000):Ctr Tryz.prog 158 [V.one (natL la),V.one (natL lb)] (R.one (V.one (natL (limbs (val la * val lb))))):=by
 refine Ctr.of_body Tryz.func158 rfl Tryz.ntmps158 (Nat.le_of_ble_eq_true rfl) (fun w0 A0=>?_)
 refine c_a (t_q rfl (Jq_assign_nil rfl) (cna (a_ FT 1 rfl (t_f rfl (Je_call rfl fn163 rfl (trim_spec la hsa)) (a_ FT 1 rfl (t_f rfl (Je_call rfl fn163 rfl (trim_spec lb hsb)) (a_ FT 2 rfl (cns (Tc_seq ?_)))))))))
 have hla:=limbs_val_length hsa;have hlb:=limbs_val_length hsb
 have va:=val_limbs (val la);have vb:=val_limbs (val lb);have sa:=small_limbs (val la);have sb:=small_limbs (val lb)
 have ea:(limbs (val la)).length = 0→val la = 0:=fun h=>limbs_eq_nil.1 (List.eq_nil_of_length_eq_zero h)
 have eb:(limbs (val lb)).length = 0→val lb = 0:=fun h=>limbs_eq_nil.1 (List.eq_nil_of_length_eq_zero h)
 generalize limbs (val la) = a at *
 generalize limbs (val lb) = b at *
 refine Tc_region (a_ FT 1 rfl (t_q rfl (Jq_len rfl rfl un32) ?_))
 by_cases ha0:a.length = 0
 ·refine t_q rfl (Jq_eql rfl rfl rfl (b:=true) (eT (by omega))) (a_ FT 5 rfl (c_n (Tc_t rfl (c_a (t_q rfl (Jq_assign_nil rfl) (c_n ?_))))))
  exact Tc_ret1 hq_ rfl rfl (by rw [ea ha0,Nat.zero_mul,limbs_zero];rfl)
 ·refine t_q rfl (Jq_eql rfl rfl rfl (b:=false) (eF (by omega))) (a_ FT 2 rfl (t_g rfl rfl rfl rfl (Jq_len rfl rfl un32) ?_))
  by_cases hb0:b.length = 0
  ·refine t_g rfl rfl rfl rfl (Jq_eql rfl rfl rfl (b:=true) (eT (by omega))) (a_ FT 1 rfl (c_n (Tc_t rfl (c_a (t_q rfl (Jq_assign_nil rfl) (c_n ?_))))))
   exact Tc_ret1 hq_ rfl rfl (by rw [eb hb0,Nat.mul_zero,limbs_zero];rfl)
  ·refine t_g rfl rfl rfl rfl (Jq_eql rfl rfl rfl (b:=false) (eF (by omega))) (a_ FT 1 rfl (c_n (Tc_f rfl (c_b (c_a (a_ FT 1 rfl (t_q rfl (Jq_len rfl rfl un32) (a_ FT 1 rfl (t_q rfl (Jq_len rfl rfl un32) ?_)))))))))
   refine t_q rfl (Jq_add rfl rfl rfl (r:=((a.length + b.length:Nat):Int)) (w64 (by omega) (by omega) (by omega))) ?_
   obtain ⟨ti3,hi3,hz3,hs3,hb3⟩:=in157
   refine t_f rfl (Je_make (i:=0) (n:=a.length + b.length) (ls:=((List.replicate (a.length + b.length) 0).map u32L)) rfl rfl rfl un32 hi3 hz3 hs3 (by decide) rfl (by decide) rfl (by rw [hb3];omega) (by simp only [maxLen];omega) (zc_u32 _) rfl) (a_ FT 1 rfl (cns (c_a (a_ FT 1 rfl (t_q rfl (Jq_len rfl rfl un32) (a_ FT 1 rfl (c_n (Tc_block ?_))))))))
   refine Tc_loopR (fun m Γ H=>∃ (i:Nat) (out:List Nat),a.length - i = m∧Γ = [(0,some (D.v (V.one (natL a)))),(1,some (D.v (V.one (natL b)))),(5,some (D.own 0 (a.length + b.length))),(29,some (D.v (V.one (natL a)))),(30,some (D.int ((a.length:Nat):Int))),(31,some (D.int ((i:Nat):Int)))]∧H = [some ⟨157,out.map u32L,some 1,none⟩]∧i≤a.length∧out.length = a.length + b.length∧Small out∧val out = val (a.take i) * val b∧(∀ j (hj:j < out.length),i + b.length≤j→out[j] = 0)) ⟨0,List.replicate (a.length + b.length) 0,rfl,rfl,rfl,Nat.zero_le _,by simp,Small.replicate _,by simp [val_replicate],by intro j hj _;simp⟩ ⟨rfl,rfl,rfl,rfl,rfl,rfl,trivial⟩ ?_
   rintro m Γ H ⟨i,out,rfl,rfl,rfl,hile,hol,hos,heq,hzero⟩
   refine c_a ?_
   by_cases hi:i < a.length
   ·refine t_q rfl (Jq_lss rfl rfl rfl (b:=true) (dT (by omega))) (cns (Tc_t rfl (c_b (Tc_seq (Tc_block (Tc_seq ?_))))))
    have hai:=sa.get i hi
    refine Tc_region (a_ FT 1 rfl (t_q rfl (Jq_index1 rfl rfl rfl un32 ty157 (by omega) (by omega) (get_u32 (by omega))) (t_q rfl (Jq_load_ref rfl rfl ty157) (a_ FT 2 rfl (cna (a_ FT 1 rfl (cns (c_a (a_ FT 1 rfl ?_)))))))))
    refine t_q rfl (Jq_len rfl rfl un32) (a_ FT 1 rfl (c_n (Tc_block ?_)))
    refine Tc_loopR (fun m Γ H=>∃ (k:Nat) (o:List Nat) (c:Nat),b.length - k = m∧Γ = [(0,some (D.v (V.one (natL a)))),(1,some (D.v (V.one (natL b)))),(5,some (D.own 0 (a.length + b.length))),(6,some (D.int ((i:Nat):Int))),(7,some (D.val (.int .u32 ((a[i]'hi:Nat):Int)))),(8,some (D.val (.int .u64 ((c:Nat):Int)))),(29,some (D.v (V.one (natL a)))),(30,some (D.int ((a.length:Nat):Int))),(31,some (D.int ((i:Nat):Int))),(36,some (D.v (V.one (natL b)))),(37,some (D.int ((b.length:Nat):Int))),(38,some (D.int ((k:Nat):Int)))]∧H = [some ⟨157,o.map u32L,some 1,none⟩]∧k≤b.length∧o.length = a.length + b.length∧Small o∧c < 4294967296∧val o + c * 4294967296 ^ (i + k) = val (a.take i) * val b + 4294967296 ^ i * (a[i] * val (b.take k))∧(∀ j (hj:j < o.length),i + b.length≤j→o[j] = 0)) ⟨0,out,0,rfl,rfl,rfl,Nat.zero_le _,hol,hos,by omega,by simp [heq],hzero⟩ ⟨rfl,rfl,rfl,rfl,rfl,rfl,rfl,rfl,rfl,rfl,rfl,rfl,trivial⟩ ?_
    rintro m Γ H ⟨k,o,c,rfl,rfl,rfl,hkle,hoo1,hoo,hc,hq,hz1⟩
    refine c_a ?_
    by_cases hk:k < b.length
    ·refine t_q rfl (Jq_lss rfl rfl rfl (b:=true) (dT (by omega))) (cns (Tc_t rfl (c_b (Tc_seq (Tc_block (Tc_seq ?_))))))
     have hbk:=sb.get k hk;have hok:=hoo.get (i + k) (by omega)
     have hm:=mul_carry hc hai hbk hok
     have hm2:=hm.1
     refine Tc_region (a_ FT 1 rfl (t_q rfl (Jq_index1 rfl rfl rfl un32 ty157 (by omega) (by omega) (get_u32 (by omega))) (t_q rfl (Jq_load_ref rfl rfl ty157) (a_ FT 2 rfl (cna (a_ FT 2 rfl (t_q rfl (Jq_convert rfl rfl un164 us157 (r:=((a[i]'hi:Nat):Int)) (wu64 (by omega))) (a_ FT 1 rfl (t_q rfl (Jq_convert rfl rfl un164 us157 (r:=((b[k]'hk:Nat):Int)) (wu64 (by omega))) ?_)))))))))
     refine t_q rfl (Jq_mul rfl rfl rfl (r:=((a[i]'hi * b[k]'hk:Nat):Int)) (wu64 (by rw [← Int.natCast_mul];omega))) (a_ FT 3 rfl (t_q rfl (Jq_add rfl rfl rfl (r:=((i + k:Nat):Int)) (w64 (by omega) (by omega) (by omega))) (t_q rfl (Jq_index_own rfl rfl rfl rfl (by decide) (by simp [hoo1]) (by decide) un32 ty157 (by omega) (by omega) (off:=i + k) (by omega)) ?_)))
     refine t_q rfl (Jq_load rfl rfl rfl (by decide) ty157 (get_own (by omega))) (t_q rfl (Jq_convert rfl rfl un164 us157 (r:=((o[i + k]'(by omega):Nat):Int)) (wu64 (by omega))) (t_q rfl (Jq_add rfl rfl rfl (r:=((a[i]'hi * b[k]'hk + o[i + k]'(by omega):Nat):Int)) (wu64 (by omega))) ?_))
     refine t_q rfl (Jq_add rfl rfl rfl (r:=((c + (a[i]'hi * b[k]'hk + o[i + k]'(by omega)):Nat):Int)) (wu64 (by omega))) (a_ FT 1 rfl (cna (a_ FT 3 rfl (t_q rfl (Jq_add rfl rfl rfl (r:=((i + k:Nat):Int)) (w64 (by omega) (by omega) (by omega))) (a_ FT 1 rfl ?_)))))
     refine t_q rfl (Jq_convert rfl rfl un157 us164 (r:=(((c + (a[i]'hi * b[k]'hk + o[i + k]'(by omega))) % 4294967296:Nat):Int)) (wu32 (by omega))) (t_q rfl (Jq_index_own rfl rfl rfl rfl (by decide) (by simp [hoo1]) (by decide) un32 ty157 (by omega) (by omega) (off:=i + k) (by omega)) ?_)
     refine t_f rfl (Je_store (ls:=((o.set (i + k) ((c + (a[i]'hi * b[k]'hk + o[i + k]'(by omega))) % 4294967296)).map u32L)) rfl rfl rfl rfl ty157 rfl (by decide) (by simp;omega) (splice_u32 (by omega))) (c_n (Tc_region (a_ FT 1 rfl (t_q rfl (Jq_shr rfl rfl rfl (by decide) (r:=(((c + (a[i]'hi * b[k]'hk + o[i + k]'(by omega))) / 4294967296:Nat):Int)) (shr_nat _ 32 rfl)) ?_))))
     refine a_ FT 1 rfl (Tl_end (At_block (At_then (Tc_region (t_q rfl (Jq_add rfl rfl rfl (r:=((k + 1:Nat):Int)) (w64 (by omega) (by omega) (by omega))) (a_ FT 1 rfl (Tl_end ?_)))))))
     exact At_next (m':=b.length - (k + 1)) (by omega) ⟨k + 1,_,_,rfl,rfl,rfl,by omega,by simp [hoo1],hoo.set _ _ (by omega),hm.2.1,mul_step hk (by omega) _ hq,by intro j hj hle;rw [List.getElem_set_ne (by omega)];exact hz1 j (by simpa using hj) hle⟩ ⟨rfl,rfl,rfl,rfl,rfl,rfl,rfl,rfl,rfl,rfl,rfl,rfl,trivial⟩
    ·refine t_q rfl (Jq_lss rfl rfl rfl (b:=false) (dF (by omega))) (cns (Tc_f rfl (Tc_exitA (At_then_exit (At_then_exit (At_block_exit (At_then (Tc_region (a_ FT 3 rfl ?_)))))))))
     refine t_q rfl (Jq_len rfl rfl un32) (t_q rfl (Jq_add rfl rfl rfl (r:=((i + b.length:Nat):Int)) (w64 (by omega) (by omega) (by omega))) (a_ FT 1 rfl (t_q rfl (Jq_convert rfl rfl un157 us164 (r:=((c:Nat):Int)) (wu32 (by omega))) ?_)))
     refine t_q rfl (Jq_index_own rfl rfl rfl rfl (by decide) (by simp [hoo1]) (by decide) un32 ty157 (by omega) (by omega) (off:=i + b.length) (by omega)) (t_f rfl (Je_store (ls:=((o.set (i + b.length) c).map u32L)) rfl rfl rfl rfl ty157 rfl (by decide) (by simp;omega) (splice_u32 (by omega))) (Tl_end (At_block (At_then (Tc_region ?_)))))
     refine t_q rfl (Jq_add rfl rfl rfl (r:=((i + 1:Nat):Int)) (w64 (by omega) (by omega) (by omega))) (a_ FT 1 rfl (Tl_end ?_))
     have hke:k = b.length:=by omega
     subst hke
     have hzz:=hz1 (i + b.length) (by omega) (Nat.le_refl _)
     have hvs:=val_set o (i + b.length) c (by omega)
     rw [hzz,Nat.mul_zero,Nat.add_zero] at hvs
     rw [val_take_all b _ (Nat.le_refl _)] at hq
     have hfin:val (o.set (i + b.length) c) = val (a.take (i + 1)) * val b:=by
      rw [hvs,val_take_succ a i hi,Nat.add_mul,Nat.mul_comm _ c,hq];grind
     have hz2:∀ j (hj:j < (o.set (i + b.length) c).length),i + 1 + b.length≤j→(o.set (i + b.length) c)[j] = 0:=by
      intro j hj hle
      rw [List.getElem_set_ne (by omega)];exact hz1 j (by simpa using hj) (by omega)
     have hol:=hoo1
     exact At_next (m':=a.length - (i + 1)) (by omega) ⟨i + 1,_,rfl,rfl,rfl,by omega,by simp [hol],hoo.set _ _ hc,hfin,hz2⟩ ⟨rfl,rfl,rfl,rfl,rfl,rfl,trivial⟩
   ·refine t_q rfl (Jq_lss rfl rfl rfl (b:=false) (dF (by omega))) (cns (Tc_f rfl (Tc_exitA (At_then_exit (At_then_exit (At_block_exit (At_then (c_a (a_ FT 1 rfl ?_)))))))))
    refine Tl_share_nat 77 (out) rfl rfl rfl rfl (by omega) (t_f rfl (Je_call rfl fn163 rfl (trim_spec out hos)) (a_ FT 1 rfl (c_n ?_)))
    have hie:i = a.length:=by omega
    subst hie
    exact Tc_ret1 hq_ rfl rfl (by rw [show val out = val la * val lb from by rw [heq,val_take_all a _ (Nat.le_refl _),va,vb]])
end Go.Proofs.YtjdbopkbfkgpdaaGreatDoor
set_option linter.unusedSimpArgs false
set_option linter.unusedVariables false
namespace Go.Proofs.YtjdbopkbfkgpdaaGreatDoor
open Go Go.RowKit Rc
set_option maxRecDepth 10000 in
theorem len32_spec (x:Nat) (hx:x < 4294967296):Ctr Tryz.prog 184 [V.one (Leaf.val (.int .u32 x))] (R.one (V.one (Leaf.val (.int .i64 ((bl x:Nat):Int))))):=by
 refine Ctr.of_body Tryz.func184 rfl Tryz.ntmps184 (Nat.le_of_ble_eq_true rfl) (fun w0 A0=>?_)
 refine c_a (a_ FT 1 rfl (cns (c_a (a_ FT 1 rfl ?_))))
 by_cases h1:65536≤x
 ·refine t_q rfl (Jq_geq rfl rfl rfl (b:=true) (dT (by omega))) (c_n (Tc_t rfl (c_a (a_ FT 1 rfl (t_q rfl (Jq_shr rfl rfl rfl (by decide) (r:=((x / 65536:Nat):Int)) (shr_nat x 16 rfl)) (a_ FT 1 rfl (c_n (Tc_region (a_ FT 1 rfl ?_)))))))))
  refine cns (c_a (a_ FT 1 rfl ?_))
  by_cases h2:256≤x / 65536
  ·refine t_q rfl (Jq_geq rfl rfl rfl (b:=true) (dT (by omega))) (c_n (Tc_t rfl (c_a (a_ FT 1 rfl (t_q rfl (Jq_shr rfl rfl rfl (by decide) (r:=((x / 65536 / 256:Nat):Int)) (shr_nat _ 8 rfl)) (a_ FT 1 rfl (c_n (Tc_region (a_ FT 1 rfl ?_)))))))))
   refine t_q rfl (Jq_add rfl rfl rfl (r:=((24:Nat):Int)) (w64 (by omega) (by omega) (by omega))) (a_ FT 1 rfl (cna (a_ FT 2 rfl (t_q rfl (Jq_convert rfl rfl un5 us157 (r:=((x / 65536 / 256:Nat):Int)) (wu8 (by omega))) (t_q rfl (Jq_index_str rfl rfl un9 (len8_get (by kernel_rfl) (x:=x / 65536 / 256) (by omega))) ?_)))))
   refine t_q rfl (Jq_convert rfl rfl un3 us5 (r:=((bl (x / 65536 / 256):Nat):Int)) (w64 (len8_val (by omega)) (by omega) (by have:=bl_le_of_lt (n:=x / 65536 / 256) (k:=8) (by omega);omega))) ?_
   refine t_q rfl (Jq_add rfl rfl rfl (r:=((bl x:Nat):Int)) (w64 (by have h1:=bl_div (n:=x) (k:=16) h1;have h2:=bl_div (n:=x / 2 ^ 16) (k:=8) h2;simp only [Nat.reducePow] at h1 h2;omega) (by omega) (by have:=bl_le_of_lt (n:=x) (k:=32) hx;omega))) (a_ FT 1 rfl (c_n ?_))
   exact Tc_ret1 hq_ rfl rfl rfl
  ·refine t_q rfl (Jq_geq rfl rfl rfl (b:=false) (dF (by omega))) (c_n (Tc_f rfl (c_b (c_a (a_ FT 2 rfl (t_q rfl (Jq_convert rfl rfl un5 us157 (r:=((x / 65536:Nat):Int)) (wu8 (by omega))) (t_q rfl (Jq_index_str rfl rfl un9 (len8_get (by kernel_rfl) (x:=x / 65536) (by omega))) ?_)))))))
   refine t_q rfl (Jq_convert rfl rfl un3 us5 (r:=((bl (x / 65536):Nat):Int)) (w64 (len8_val (by omega)) (by omega) (by have:=bl_le_of_lt (n:=x / 65536) (k:=8) (by omega);omega))) ?_
   refine t_q rfl (Jq_add rfl rfl rfl (r:=((bl x:Nat):Int)) (w64 (by have h1:=bl_div (n:=x) (k:=16) h1;simp only [Nat.reducePow] at h1;omega) (by omega) (by have:=bl_le_of_lt (n:=x) (k:=32) hx;omega))) (a_ FT 1 rfl (c_n ?_))
   exact Tc_ret1 hq_ rfl rfl rfl
 ·refine t_q rfl (Jq_geq rfl rfl rfl (b:=false) (dF (by omega))) (c_n (Tc_f rfl (c_b (Tc_seq (c_a (a_ FT 1 rfl ?_))))))
  by_cases h2:256≤x
  ·refine t_q rfl (Jq_geq rfl rfl rfl (b:=true) (dT (by omega))) (c_n (Tc_t rfl (c_a (a_ FT 1 rfl (t_q rfl (Jq_shr rfl rfl rfl (by decide) (r:=((x / 256:Nat):Int)) (shr_nat x 8 rfl)) (a_ FT 1 rfl (c_n (Tc_region (a_ FT 1 rfl ?_)))))))))
   refine t_q rfl (Jq_add rfl rfl rfl (r:=((8:Nat):Int)) (w64 (by omega) (by omega) (by omega))) (a_ FT 1 rfl (cna (a_ FT 2 rfl (t_q rfl (Jq_convert rfl rfl un5 us157 (r:=((x / 256:Nat):Int)) (wu8 (by omega))) (t_q rfl (Jq_index_str rfl rfl un9 (len8_get (by kernel_rfl) (x:=x / 256) (by omega))) ?_)))))
   refine t_q rfl (Jq_convert rfl rfl un3 us5 (r:=((bl (x / 256):Nat):Int)) (w64 (len8_val (by omega)) (by omega) (by have:=bl_le_of_lt (n:=x / 256) (k:=8) (by omega);omega))) ?_
   refine t_q rfl (Jq_add rfl rfl rfl (r:=((bl x:Nat):Int)) (w64 (by have h2:=bl_div (n:=x) (k:=8) h2;simp only [Nat.reducePow] at h2;omega) (by omega) (by have:=bl_le_of_lt (n:=x) (k:=32) hx;omega))) (a_ FT 1 rfl (c_n ?_))
   exact Tc_ret1 hq_ rfl rfl rfl
  ·refine t_q rfl (Jq_geq rfl rfl rfl (b:=false) (dF (by omega))) (c_n (Tc_f rfl (c_b (c_a (a_ FT 2 rfl (t_q rfl (Jq_convert rfl rfl un5 us157 (r:=((x:Nat):Int)) (wu8 (by omega))) (t_q rfl (Jq_index_str rfl rfl un9 (len8_get (by kernel_rfl) (x:=x) (by omega))) ?_)))))))
   refine t_q rfl (Jq_convert rfl rfl un3 us5 (r:=((bl (x):Nat):Int)) (w64 (len8_val (by omega)) (by omega) (by have:=bl_le_of_lt (n:=x) (k:=8) (by omega);omega))) (t_q rfl (Jq_add rfl rfl rfl (r:=((bl x:Nat):Int)) (w64 (by skip;omega) (by omega) (by have:=bl_le_of_lt (n:=x) (k:=32) hx;omega))) (a_ FT 1 rfl (c_n ?_)))
   exact Tc_ret1 hq_ rfl rfl rfl
set_option maxRecDepth 10000 in
theorem lz32_spec (x:Nat) (hx:x < 4294967296):Ctr Tryz.prog 179 [V.one (Leaf.val (.int .u32 x))] (R.one (V.one (Leaf.val (.int .i64 ((32 - bl x:Nat):Int))))):=by
 refine Ctr.of_body Tryz.func179 rfl Tryz.ntmps179 (Nat.le_of_ble_eq_true rfl) (fun w0 A0=>?_)
 refine c_a (a_ FT 1 rfl (cna (a_ FT 1 rfl (t_f rfl (Je_call rfl fn184 rfl (len32_spec x hx)) (t_q rfl (Jq_sub rfl rfl rfl (r:=((32 - bl x:Nat):Int)) (w64 (by have:=bl_le_of_lt (n:=x) (k:=32) hx;omega) (by omega) (by omega))) (a_ FT 1 rfl (c_n ?_)))))))
 exact Tc_ret1 hq_ rfl rfl rfl
set_option maxRecDepth 10000 in
theorem left_own (a:List Nat) (k:Nat) (hsa:Small a) (hk:k < 32) (hla:a.length≤10000000000000):CtrF Tryz.prog 180 157 (a.length + 1) ((padL (a.length + 1) (val a * 2 ^ k)).map u32L) [V.one (natL a),V.one (Leaf.val (.int .i64 ((k:Nat):Int)))]:=by
 refine CtrF.of_body Tryz.func180 rfl Tryz.ntmps180 (Nat.le_of_ble_eq_true rfl) (fun w0 A0=>?_)
 refine c_a (t_q rfl (Jq_assign_nil rfl) (cna (a_ FT 1 rfl (t_q rfl (Jq_len rfl rfl un32) (t_q rfl (Jq_add rfl rfl rfl (r:=((a.length + 1:Nat):Int)) (w64 (by omega) (by omega) (by omega))) ?_)))))
 obtain ⟨ti1,hi1,hz1,hs1,hb1⟩:=in157
 refine t_f rfl (Je_make (i:=0) (n:=a.length + 1) (ls:=((List.replicate (a.length + 1) 0).map u32L)) rfl rfl rfl un32 hi1 hz1 hs1 (by decide) rfl (by decide) rfl (by rw [hb1];omega) (by simp only [maxLen];omega) (zc_u32 _) rfl) (a_ FT 1 rfl (cns (c_a (a_ FT 1 rfl (t_q rfl (Jq_len rfl rfl un32) (a_ FT 1 rfl (c_n (Tc_block ?_))))))))
 refine Tc_loopR (fun m Γ H=>∃ (i:Nat) (out:List Nat),a.length - i = m∧Γ = [(0,some (D.v (V.one (natL a)))),(1,some (D.int ((k:Nat):Int))),(5,some (D.own 0 (a.length + 1))),(13,some (D.v (V.one (natL a)))),(14,some (D.int ((a.length:Nat):Int))),(15,some (D.int ((i:Nat):Int)))]∧H = [some ⟨157,out.map u32L,some 1,none⟩]∧i≤a.length∧out.length = a.length + 1∧Small out∧val (out.take (i + 1)) = val (a.take i) * 2 ^ k∧out.getD i 0 < 2 ^ k) ⟨0,List.replicate (a.length + 1) 0,rfl,rfl,rfl,Nat.zero_le _,by simp,Small.replicate _,by rw [List.take_replicate,val_replicate];simp,by simp [List.getD];exact Nat.pow_pos (by omega)⟩ ⟨rfl,rfl,rfl,rfl,rfl,rfl,trivial⟩ ?_
 rintro m Γ H ⟨i,out,rfl,rfl,rfl,hile,hol,hos,heq,hlow⟩
 refine c_a ?_
 by_cases hi:i < a.length
 ·refine t_q rfl (Jq_lss rfl rfl rfl (b:=true) (dT (by omega))) (cns (Tc_t rfl (c_b (Tc_seq (Tc_block (Tc_seq ?_))))))
  have hai:=hsa.get i hi;have hoi:=hos.get i (by omega)
  rw [getD_of (by omega)] at hlow
  have hb:=left_bound hk hai
  have ho:=left_or (d:=a[i]) hk hlow
  refine Tc_region (a_ FT 1 rfl (t_q rfl (Jq_index1 rfl rfl rfl un32 ty157 (by omega) (by omega) (get_u32 (by omega))) (t_q rfl (Jq_load_ref rfl rfl ty157) (a_ FT 2 rfl (cna (a_ FT 1 rfl (t_q rfl (Jq_convert rfl rfl un164 us157 (r:=((a[i]'hi:Nat):Int)) (wu64 (by omega))) (a_ FT 1 rfl ?_))))))))
  refine t_q rfl (Jq_shl rfl rfl rfl (by omega) (r:=((a[i]'hi * 2 ^ k:Nat):Int)) (shl64 _ k (minbits64 (by omega)) hb.1)) (a_ FT 1 rfl (cna (a_ FT 2 rfl (t_q rfl (Jq_index_own rfl rfl rfl rfl (by decide) (by simp [hol]) (by decide) un32 ty157 (by omega) (by omega) (off:=i) (by omega)) (t_q rfl (Jq_load rfl rfl rfl (by decide) ty157 (get_own (by omega))) (a_ FT 1 rfl ?_))))))
  refine t_q rfl (Jq_convert rfl rfl un157 us164 (r:=((a[i]'hi * 2 ^ k % 4294967296:Nat):Int)) (wu32 (by omega))) (t_q rfl (Jq_or rfl rfl rfl (r:=((out[i]'(by omega) + a[i]'hi * 2 ^ k % 4294967296:Nat):Int)) (or32' k ho.1 hlow ho.2)) (t_q rfl (Jq_index_own rfl rfl rfl rfl (by decide) (by simp [hol]) (by decide) un32 ty157 (by omega) (by omega) (off:=i) (by omega)) ?_))
  refine t_f rfl (Je_store (ls:=((out.set i (out[i]'(by omega) + a[i]'hi * 2 ^ k % 4294967296)).map u32L)) rfl rfl rfl rfl ty157 rfl (by decide) (by simp;omega) (splice_u32 (by omega))) (c_n (Tc_region (a_ FT 2 rfl (t_q rfl (Jq_add rfl rfl rfl (r:=((i + 1:Nat):Int)) (w64 (by omega) (by omega) (by omega))) (a_ FT 1 rfl ?_)))))
  refine t_q rfl (Jq_shr rfl rfl rfl (by decide) (r:=(((a[i]'hi * 2 ^ k) / 4294967296:Nat):Int)) (shr_nat _ 32 rfl)) (t_q rfl (Jq_convert rfl rfl un157 us164 (r:=(((a[i]'hi * 2 ^ k) / 4294967296:Nat):Int)) (wu32 (by omega))) (t_q rfl (Jq_index_own rfl rfl rfl rfl (by decide) (by simp [hol]) (by decide) un32 ty157 (by omega) (by omega) (off:=i + 1) (by omega)) ?_))
  refine t_f rfl (Je_store (ls:=(((out.set i (out[i]'(by omega) + a[i]'hi * 2 ^ k % 4294967296)).set (i + 1) ((a[i]'hi * 2 ^ k) / 4294967296)).map u32L)) rfl rfl rfl rfl ty157 rfl (by decide) (by simp;omega) (splice_u32 (by simp;omega))) (Tl_end (At_block (At_then (Tc_region (t_q rfl (Jq_add rfl rfl rfl (r:=((i + 1:Nat):Int)) (w64 (by omega) (by omega) (by omega))) ?_)))))
  refine a_ FT 1 rfl (Tl_end ?_)
  exact At_next (m':=a.length - (i + 1)) (by omega) ⟨i + 1,_,rfl,rfl,rfl,by omega,by simp [hol],(hos.set _ _ (by omega)).set _ _ (by omega),left_step hi (by omega) heq _ rfl,by rw [getD_of (by simp;omega),List.getElem_set_self];exact hb.2.1⟩ ⟨rfl,rfl,rfl,rfl,rfl,rfl,trivial⟩
 ·refine t_q rfl (Jq_lss rfl rfl rfl (b:=false) (dF (by omega))) (cns (Tc_f rfl (Tc_exitA (At_then_exit (At_then_exit (At_block_exit (At_then (c_a (a_ FT 2 rfl ?_)))))))))
  refine c_n ?_
  have hie:i = a.length:=by omega
  subst hie
  rw [val_take_all out _ (by omega),val_take_all a _ (Nat.le_refl _)] at heq
  exact Tc_retF (fun _ _ h=>h) rfl rfl rfl (by simp;omega) (by rw [← padL_of hos hol heq]) (fun l hl=>by simp only [List.mem_map] at hl;obtain ⟨x,_,rfl⟩:=hl;exact ⟨_,rfl⟩)
theorem left_spec (a:List Nat) (k:Nat) (hsa:Small a) (hk:k < 32) (hla:a.length≤10000000000000):Ctr Tryz.prog 180 [V.one (natL a),V.one (Leaf.val (.int .i64 ((k:Nat):Int)))] (R.one (V.one (natL (padL (a.length + 1) (val a * 2 ^ k))))):=by
 have h:=Ctr.of_fresh (left_own a k hsa hk hla) (by simp [padL_length])
 have e:(padL (a.length + 1) (val a * 2 ^ k)).length = a.length + 1:=padL_length _ _
 unfold natL
 rw [e]
 exact h
set_option maxRecDepth 10000 in
theorem shr_spec (la:List Nat) (k:Nat) (hsa:Small la) (hk:k≤1048576) (hla:la.length≤10000000000000):Ctr Tryz.prog 183 [V.one (natL la),V.one (Leaf.val (.int .i64 ((k:Nat):Int)))] (R.tup [V.one (natL (limbs (val la / 2 ^ k))),V.one (Leaf.val (.int .i64 0))]):=by
 refine Ctr.of_body Tryz.func183 rfl Tryz.ntmps183 (Nat.le_of_ble_eq_true rfl) (fun w0 A0=>?_)
 refine c_a (t_q rfl (Jq_assign_nil rfl) (a_ FT 1 rfl (cns (c_a (a_ FT 1 rfl (t_q rfl (Jq_lss rfl rfl rfl (b:=false) (dF (by omega))) (a_ FT 2 rfl (t_g rfl rfl rfl rfl (Jq_gtr rfl rfl rfl (b:=false) (dF (by omega))) (a_ FT 1 rfl ?_)))))))))
 refine c_n (Tc_f rfl (c_b (c_a (a_ FT 1 rfl (t_f rfl (Je_call rfl fn163 rfl (trim_spec la hsa)) (a_ FT 1 rfl (cns (Tc_seq ?_))))))))
 have hl0:=limbs_val_length hsa;have vl:=val_limbs (val la);have sl:=small_limbs (val la)
 have hnil:(limbs (val la)).length≤k / 32→val la / 2 ^ k = 0:=by
  intro h
  have h1:=limbs_length_le.1 h
  rw [← shift_split,Nat.div_eq_of_lt h1,Nat.zero_div]
 generalize limbs (val la) = l at *
 refine Tc_region (a_ FT 1 rfl (t_q rfl (Jq_quo rfl rfl rfl (by decide) (r:=((k / 32:Nat):Int)) (w64 (tdivN k 32) (by omega) (by omega))) (a_ FT 1 rfl (t_q rfl (Jq_len rfl rfl un32) ?_))))
 by_cases hz:l.length≤k / 32
 ·refine t_q rfl (Jq_geq rfl rfl rfl (b:=true) (dT (by omega))) (c_n (Tc_t rfl (c_a (t_q rfl (Jq_assign_nil rfl) (a_ FT 1 rfl (c_n ?_))))))
  exact Tc_ret2 hq_ rfl rfl rfl (by rw [hnil hz,limbs_zero];rfl)
 ·refine t_q rfl (Jq_geq rfl rfl rfl (b:=false) (dF (by omega))) (c_n (Tc_f rfl (c_b (c_a (a_ FT 2 rfl (t_q rfl (Jq_quo rfl rfl rfl (by decide) (r:=((k / 32:Nat):Int)) (w64 (tdivN k 32) (by omega) (by omega))) (t_q rfl (Jq_slice_lo_nat rfl rfl rfl un32 ty157 (by omega)) (a_ FT 1 rfl (cns ?_)))))))))
  have sa:Small (l.drop (k / 32)):=sl.drop _
  have va:val (l.drop (k / 32)) / 2 ^ (k % 32) = val la / 2 ^ k:=by rw [← val_drop_div l sl,vl,shift_split]
  have hla2:(l.drop (k / 32)).length≤l.length:=by rw [List.length_drop];omega
  generalize l.drop (k / 32) = a at *
  refine Tc_region (a_ FT 1 rfl (t_q rfl (Jq_len rfl rfl un32) ?_))
  obtain ⟨ti2,hi2,hz2,hs2,hb2⟩:=in157
  refine t_f rfl (Je_make (i:=0) (n:=a.length) (ls:=((List.replicate (a.length) 0).map u32L)) rfl rfl rfl un32 hi2 hz2 hs2 (by decide) rfl (by decide) rfl (by rw [hb2];omega) (by simp only [maxLen];omega) (zc_u32 _) rfl) (a_ FT 1 rfl (cns (c_a (a_ FT 1 rfl (t_q rfl (Jq_len rfl rfl un32) (a_ FT 1 rfl (c_n (Tc_block ?_))))))))
  refine Tc_loopR (fun m Γ H=>∃ (i:Nat) (out:List Nat),a.length - i = m∧Γ = [(0,some (D.v (V.one (natL a)))),(1,some (D.int ((k:Nat):Int))),(6,some (D.own 0 a.length)),(30,some (D.v (V.one (natL a)))),(31,some (D.int ((a.length:Nat):Int))),(32,some (D.int ((i:Nat):Int)))]∧H = [some ⟨157,out.map u32L,some 1,none⟩]∧i≤a.length∧out.length = a.length∧Small out∧val (out.take i) = val a / 2 ^ (k % 32) % 4294967296 ^ i) ⟨0,List.replicate a.length 0,rfl,rfl,rfl,Nat.zero_le _,by simp,Small.replicate _,by simp [Nat.mod_one]⟩ ⟨rfl,rfl,rfl,rfl,rfl,rfl,trivial⟩ ?_
  rintro m Γ H ⟨i,out,rfl,rfl,rfl,hile,hol,hos,heq⟩
  refine c_a ?_
  by_cases hi:i < a.length
  ·refine t_q rfl (Jq_lss rfl rfl rfl (b:=true) (dT (by omega))) (cns (Tc_t rfl (c_b (Tc_seq (Tc_block (Tc_seq ?_))))))
   have hai:=sa.get i hi
   refine Tc_region (a_ FT 1 rfl (t_q rfl (Jq_index1 rfl rfl rfl un32 ty157 (by omega) (by omega) (get_u32 (by omega))) (t_q rfl (Jq_load_ref rfl rfl ty157) (a_ FT 2 rfl (cna (a_ FT 1 rfl (t_q rfl (Jq_convert rfl rfl un164 us157 (r:=((a[i]'hi:Nat):Int)) (wu64 (by omega))) (a_ FT 1 rfl (cns ?_)))))))))
   refine c_a (a_ FT 1 rfl (t_q rfl (Jq_add rfl rfl rfl (r:=((i + 1:Nat):Int)) (w64 (by omega) (by omega) (by omega))) (a_ FT 1 rfl (t_q rfl (Jq_len rfl rfl un32) ?_))))
   by_cases hi1:i + 1 < a.length
   ·refine t_q rfl (Jq_lss rfl rfl rfl (b:=true) (dT (by omega))) (c_n (Tc_t rfl ?_))
    have hai1:=sa.get (i + 1) hi1
    refine Tc_region (a_ FT 3 rfl (t_q rfl (Jq_add rfl rfl rfl (r:=((i + 1:Nat):Int)) (w64 (by omega) (by omega) (by omega))) (t_q rfl (Jq_index1 rfl rfl rfl un32 ty157 (by omega) (by omega) (get_u32 (by omega))) (t_q rfl (Jq_load_ref rfl rfl ty157) (t_q rfl (Jq_convert rfl rfl un164 us157 (r:=((a[i + 1]'hi1:Nat):Int)) (wu64 (by omega))) ?_)))))
    refine t_q rfl (Jq_shl rfl rfl rfl (by decide) (r:=((a[i + 1]'hi1 * 2 ^ 32:Nat):Int)) (shl64 _ 32 rfl (by omega))) (t_q rfl (Jq_or rfl rfl rfl (r:=((a[i]'hi + a[i + 1]'hi1 * 2 ^ 32:Nat):Int)) (or64' 32 (Nat.mul_mod_left _ _) (by omega) (by omega))) (a_ FT 1 rfl (c_n (Tc_region (a_ FT 4 rfl ?_)))))
    refine t_q rfl (Jq_rem rfl rfl rfl (by decide) (r:=((k % 32:Nat):Int)) (tmodN k 32)) (t_q rfl (Jq_shr rfl rfl rfl (by omega) (r:=(((a[i]'hi + a[i + 1]'hi1 * 2 ^ 32) / 2 ^ (k % 32):Nat):Int)) (shr_nat _ (k % 32) (minbits64 (by omega)))) ?_)
    refine t_q rfl (Jq_convert rfl rfl un157 us164 (r:=(((a[i]'hi + a[i + 1]'hi1 * 2 ^ 32) / 2 ^ (k % 32) % 4294967296:Nat):Int)) (wu32 (by omega))) (t_q rfl (Jq_index_own rfl rfl rfl rfl (by decide) (by simp [hol]) (by decide) un32 ty157 (by omega) (by omega) (off:=i) (by omega)) ?_)
    refine t_f rfl (Je_store (ls:=((out.set i ((a[i]'hi + a[i + 1]'hi1 * 2 ^ 32) / 2 ^ (k % 32) % 4294967296)).map u32L)) rfl rfl rfl rfl ty157 rfl (by decide) (by simp;omega) (splice_u32 (by omega))) (Tl_end (At_block (At_then (Tc_region (t_q rfl (Jq_add rfl rfl rfl (r:=((i + 1:Nat):Int)) (w64 (by omega) (by omega) (by omega))) (a_ FT 1 rfl (Tl_end ?_)))))))
    exact At_next (m':=a.length - (i + 1)) (by omega) ⟨i + 1,_,rfl,rfl,rfl,by omega,by simp [hol],hos.set _ _ (by omega),shr_step sa hi (by omega) (by omega) heq _ (by rw [getD_of hi1,Nat.mul_comm 4294967296])⟩ ⟨rfl,rfl,rfl,rfl,rfl,rfl,trivial⟩
   ·refine t_q rfl (Jq_lss rfl rfl rfl (b:=false) (dF (by omega))) (c_n (Tc_f rfl (c_b (Tc_region (a_ FT 4 rfl (t_q rfl (Jq_rem rfl rfl rfl (by decide) (r:=((k % 32:Nat):Int)) (tmodN k 32)) (t_q rfl (Jq_shr rfl rfl rfl (by omega) (r:=(((a[i]'hi) / 2 ^ (k % 32):Nat):Int)) (shr_nat _ (k % 32) (minbits64 (by omega)))) ?_)))))))
    refine t_q rfl (Jq_convert rfl rfl un157 us164 (r:=(((a[i]'hi) / 2 ^ (k % 32) % 4294967296:Nat):Int)) (wu32 (by omega))) (t_q rfl (Jq_index_own rfl rfl rfl rfl (by decide) (by simp [hol]) (by decide) un32 ty157 (by omega) (by omega) (off:=i) (by omega)) ?_)
    refine t_f rfl (Je_store (ls:=((out.set i ((a[i]'hi) / 2 ^ (k % 32) % 4294967296)).map u32L)) rfl rfl rfl rfl ty157 rfl (by decide) (by simp;omega) (splice_u32 (by omega))) (Tl_end (At_block (At_then (Tc_region (t_q rfl (Jq_add rfl rfl rfl (r:=((i + 1:Nat):Int)) (w64 (by omega) (by omega) (by omega))) (a_ FT 1 rfl (Tl_end ?_)))))))
    exact At_next (m':=a.length - (i + 1)) (by omega) ⟨i + 1,_,rfl,rfl,rfl,by omega,by simp [hol],hos.set _ _ (by omega),shr_step sa hi (by omega) (by omega) heq _ (by rw [getD_out (by omega),Nat.mul_zero,Nat.add_zero])⟩ ⟨rfl,rfl,rfl,rfl,rfl,rfl,trivial⟩
  ·refine t_q rfl (Jq_lss rfl rfl rfl (b:=false) (dF (by omega))) (cns (Tc_f rfl (Tc_exitA (At_then_exit (At_then_exit (At_block_exit (At_then (Tc_seq ?_))))))))
   have hie:i = a.length:=by omega
   subst hie
   rw [val_take_all out _ (by omega),va] at heq
   have hlt:val la / 2 ^ k < 4294967296 ^ a.length:=by rw [← va];exact Nat.lt_of_le_of_lt (Nat.div_le_self _ _) (val_lt sa)
   rw [Nat.mod_eq_of_lt hlt] at heq
   refine Tc_region (a_ FT 1 rfl (Tl_share_nat 62 (out) rfl rfl rfl rfl (by omega) (t_f rfl (Je_call rfl fn163 rfl (trim_spec out hos)) (a_ FT 2 rfl (c_n ?_)))))
   exact Tc_ret2 hq_ rfl rfl rfl (by rw [heq])
set_option maxRecDepth 10000 in
theorem bits_spec (la:List Nat) (hsa:Small la) (hla:la.length≤10000000000000):Ctr Tryz.prog 164 [V.one (natL la)] (R.one (V.one (Leaf.val (.int .i64 ((bl (val la):Nat):Int))))):=by
 refine Ctr.of_body Tryz.func164 rfl Tryz.ntmps164 (Nat.le_of_ble_eq_true rfl) (fun w0 A0=>?_)
 refine c_a (a_ FT 1 rfl (cna (a_ FT 1 rfl (t_f rfl (Je_call rfl fn163 rfl (trim_spec la hsa)) (a_ FT 1 rfl (cns (Tc_seq ?_)))))))
 have hl0:=limbs_val_length hsa
 have hb:=fun h=>bl_limbs (canon_limbs (val la)) h
 have hs:=small_limbs (val la)
 rw [val_limbs] at hb
 have hz0:(limbs (val la)).length = 0→val la = 0:=fun h=>limbs_eq_nil.1 (List.eq_nil_of_length_eq_zero h)
 generalize limbs (val la) = a at *
 refine Tc_region (a_ FT 1 rfl (t_q rfl (Jq_len rfl rfl un32) ?_))
 by_cases hz:a.length = 0
 ·refine t_q rfl (Jq_eql rfl rfl rfl (b:=true) (eT (by omega))) (c_n (Tc_t rfl (c_a (a_ FT 1 rfl (c_n ?_)))))
  exact Tc_ret1 hq_ rfl rfl (by rw [hz0 hz];rfl)
 ·refine t_q rfl (Jq_eql rfl rfl rfl (b:=false) (eF (by omega))) (c_n (Tc_f rfl (c_b (Tc_seq ?_))))
  have hb:=hb (by omega);have htop:=hs.get (a.length - 1) (by omega)
  have hbt:=bl_le_of_lt (k:=32) htop
  refine Tc_region (a_ FT 1 rfl (t_q rfl (Jq_len rfl rfl un32) (t_q rfl (Jq_sub rfl rfl rfl (r:=((a.length - 1:Nat):Int)) (w64 (by omega) (by omega) (by omega))) (t_q rfl (Jq_mul rfl rfl rfl (r:=((32 * (a.length - 1):Nat):Int)) (w64 (by omega) (by omega) (by omega))) (a_ FT 2 rfl (t_q rfl (Jq_len rfl rfl un32) ?_))))))
  refine t_q rfl (Jq_sub rfl rfl rfl (r:=((a.length - 1:Nat):Int)) (w64 (by omega) (by omega) (by omega))) (t_q rfl (Jq_index1 rfl rfl rfl un32 ty157 (by omega) (by omega) (get_u32i (a.length - 1) (by omega) rfl)) (t_q rfl (Jq_load_ref rfl rfl ty157) (t_f rfl (Je_call rfl fn184 rfl (len32_spec (a[a.length - 1]'(by omega)) htop)) ?_)))
  refine t_q rfl (Jq_add rfl rfl rfl (r:=((bl (val la):Nat):Int)) (w64 (by omega) (by omega) (by omega))) (a_ FT 1 rfl (c_n ?_))
  exact Tc_ret1 hq_ rfl rfl rfl
set_option maxRecDepth 10000 in
theorem short_spec (a:List Nat) (d:Nat) (hsa:Small a) (hd:d < 4294967296) (hd0:0 < d) (hla:a.length≤10000000000000):Ctr Tryz.prog 178 [V.one (natL a),V.one (Leaf.val (.int .u32 d))] (R.tup [V.one (natL (limbs (val a / d))),V.one (natL (limbs (val a % d)))]):=by
 refine Ctr.of_body Tryz.func178 rfl Tryz.ntmps178 (Nat.le_of_ble_eq_true rfl) (fun w0 A0=>?_)
 refine c_a (t_q rfl (Jq_assign_nil rfl) (t_q rfl (Jq_assign_nil rfl) (cna (a_ FT 1 rfl (t_q rfl (Jq_len rfl rfl un32) ?_)))))
 obtain ⟨ti1,hi1,hz1,hs1,hb1⟩:=in157
 refine t_f rfl (Je_make (i:=0) (n:=a.length) (ls:=((List.replicate (a.length) 0).map u32L)) rfl rfl rfl un32 hi1 hz1 hs1 (by decide) rfl (by decide) rfl (by rw [hb1];omega) (by simp only [maxLen];omega) (zc_u32 _) rfl) (a_ FT 1 rfl (cna (a_ FT 1 rfl (cns (c_a (a_ FT 1 rfl (t_q rfl (Jq_len rfl rfl un32) ?_)))))))
 refine t_q rfl (Jq_sub rfl rfl rfl (r:=(a.length:Int) - 1) (w64 (by omega) (by omega) (by omega))) (a_ FT 1 rfl (c_n (Tc_block ?_)))
 refine Tc_loopR (fun m Γ H=>∃ (n:Nat) (out:List Nat) (r:Nat),n = m∧Γ = [(0,some (D.v (V.one (natL a)))),(1,some (D.val (.int .u32 ((d:Nat):Int)))),(6,some (D.own 0 a.length)),(7,some (D.val (.int .u64 ((r:Nat):Int)))),(8,some (D.int ((n:Int) - 1)))]∧H = [some ⟨157,out.map u32L,some 1,none⟩]∧n≤a.length∧out.length = a.length∧Small out∧r < d∧val (a.drop n) = val (out.drop n) * d + r) ⟨a.length,List.replicate a.length 0,0,rfl,rfl,rfl,Nat.le_refl _,by simp,Small.replicate _,hd0,by rw [List.drop_of_length_le (Nat.le_refl _),List.drop_of_length_le (by simp)];simp [val]⟩ ⟨rfl,rfl,rfl,rfl,rfl,trivial⟩ ?_
 rintro m Γ H ⟨n,out,r,rfl,rfl,rfl,hnle,hol,hos,hr,heq⟩
 refine Tc_seq (c_a (a_ FT 1 rfl ?_))
 by_cases hn:0 < n
 ·refine t_q rfl (Jq_geq rfl rfl rfl (b:=true) (dT (by omega))) (c_n (Tc_t rfl (c_b (Tc_seq (Tc_block (Tc_seq ?_))))))
  have hai:=hsa.get (n - 1) (by omega)
  have hq:(r * 2 ^ 32 + a[n - 1]'(by omega)) / d < 4294967296:=by
   rw [Nat.div_lt_iff_lt_mul hd0]
   have:(r + 1) * 4294967296≤d * 4294967296:=Nat.mul_le_mul_right _ hr
   omega
  have hm:=Nat.mod_lt (r * 2 ^ 32 + a[n - 1]'(by omega)) hd0
  refine Tc_region (a_ FT 1 rfl (t_q rfl (Jq_shl rfl rfl rfl (by decide) (r:=((r * 2 ^ 32:Nat):Int)) (shl64 _ 32 rfl (by omega))) (a_ FT 2 rfl (t_q rfl (Jq_index1 rfl rfl rfl un32 ty157 (by omega) (by omega) (get_u32i (n - 1) (by omega) (by omega))) (t_q rfl (Jq_load_ref rfl rfl ty157) ?_)))))
  refine t_q rfl (Jq_convert rfl rfl un164 us157 (r:=((a[n - 1]'(by omega):Nat):Int)) (wu64 (by omega))) (t_q rfl (Jq_or rfl rfl rfl (r:=((r * 2 ^ 32 + a[n - 1]'(by omega):Nat):Int)) (or64 32 (Nat.mul_mod_left _ _) (by omega) (by omega))) (a_ FT 1 rfl (cna (a_ FT 4 rfl (t_q rfl (Jq_convert rfl rfl un164 us157 (r:=((d:Nat):Int)) (wu64 (by omega))) ?_)))))
  refine t_q rfl (Jq_quo rfl rfl rfl (by omega) (r:=(((r * 2 ^ 32 + a[n - 1]'(by omega)) / d:Nat):Int)) ((by rw [tdivN];exact wrap_nat_u64 (Nat.lt_trans hq (by decide))))) (t_q rfl (Jq_convert rfl rfl un157 us164 (r:=(((r * 2 ^ 32 + a[n - 1]'(by omega)) / d:Nat):Int)) (wu32 (Int.emod_eq_of_lt (Int.natCast_nonneg _) (Int.ofNat_lt.2 hq)))) ?_)
  refine t_q rfl (Jq_index_own rfl rfl rfl rfl (by decide) (by simp [hol]) (by decide) un32 ty157 (by omega) (by omega) (off:=n - 1) (by omega)) (t_f rfl (Je_store (ls:=((out.set (n - 1) ((r * 2 ^ 32 + a[n - 1]'(by omega)) / d)).map u32L)) rfl rfl rfl rfl ty157 rfl (by decide) (by simp;omega) (splice_u32 (by omega))) (c_n (Tc_region (a_ FT 2 rfl ?_))))
  refine t_q rfl (Jq_convert rfl rfl un164 us157 (r:=((d:Nat):Int)) (wu64 (by omega))) (t_q rfl (Jq_rem rfl rfl rfl (by omega) (r:=(((r * 2 ^ 32 + a[n - 1]'(by omega)) % d:Nat):Int)) (tmodN _ _)) (a_ FT 1 rfl (Tl_end (At_block (At_then (Tc_region (a_ FT 1 rfl (t_q rfl (Jq_sub rfl rfl rfl (r:=((n - 1:Nat):Int) - 1) (w64 (by omega) (by omega) (by omega))) ?_))))))))
  refine a_ FT 1 rfl (Tl_end ?_)
  exact At_next (m':=n - 1) (by omega) ⟨n - 1,_,_,rfl,rfl,rfl,by omega,by simp [hol],hos.set _ _ hq,Nat.mod_lt _ hd0,short_step hn (by omega) (by omega) heq _ (by simp)⟩ ⟨rfl,rfl,rfl,rfl,rfl,trivial⟩
 ·refine t_q rfl (Jq_geq rfl rfl rfl (b:=false) (dF (by omega))) (c_n (Tc_f rfl (Tc_exitA (At_then_exit (At_then_exit (At_block_exit (At_then (Tc_seq ?_))))))))
  have hn0:n = 0:=by omega
  subst hn0
  simp only [List.drop_zero] at heq
  have hq:val a / d = val out:=by rw [heq,Nat.mul_comm,Nat.mul_add_div hd0,Nat.div_eq_of_lt hr,Nat.add_zero]
  have hm:val a % d = r:=by rw [heq,Nat.mul_comm,Nat.mul_add_mod,Nat.mod_eq_of_lt hr]
  refine Tc_region (a_ FT 1 rfl (Tl_share_nat 39 (out) rfl rfl rfl rfl (by omega) (t_f rfl (Je_call rfl fn163 rfl (trim_spec out hos)) (a_ FT 1 rfl (t_f rfl (Je_call rfl fn130 rfl (of_spec r (by omega))) (a_ FT 2 rfl (c_n ?_)))))))
  exact Tc_ret2 hq_ rfl rfl rfl (by rw [hq,hm])
end Go.Proofs.YtjdbopkbfkgpdaaGreatDoor
set_option linter.unusedSimpArgs false
set_option linter.unusedVariables false
namespace Go.Proofs.YtjdbopkbfkgpdaaGreatDoor
open Go Go.RowKit Rc
set_option maxRecDepth 10000 in
theorem estimate_spec (s v:List Nat) (hss:Small s) (hsv:Small v) (hsl:s.length = v.length + 1) (hv2:2≤v.length) (hvl:v.length≤20000000000000) (hnz:0 < v.getD (v.length - 1) 0):Ctr Tryz.prog 182 [V.one (natL s),V.one (natL v)] (R.one (V.one (Leaf.val (.int .u64 ((est (s.getD v.length 0 * 4294967296 + s.getD (v.length - 1) 0) (s.getD (v.length - 2) 0) (v.getD (v.length - 1) 0) (v.getD (v.length - 2) 0):Nat):Int))))):=by
 refine Ctr.of_body Tryz.func182 rfl Tryz.ntmps182 (Nat.le_of_ble_eq_true rfl) (fun w0 A0=>?_)
 refine Tc_seq ?_
 rw [getD_of (show v.length < s.length by omega),getD_of (show v.length - 1 < s.length by omega),getD_of (show v.length - 2 < s.length by omega),getD_of (show v.length - 1 < v.length by omega),getD_of (show v.length - 2 < v.length by omega)]
 rw [getD_of (show v.length - 1 < v.length by omega)] at hnz
 have a0:=hss.get v.length (by omega);have a1:=hss.get (v.length - 1) (by omega);have a2:=hss.get (v.length - 2) (by omega);have b1:=hsv.get (v.length - 1) (by omega);have b2:=hsv.get (v.length - 2) (by omega)
 obtain ⟨v1,hv1⟩:∃ x,x = v[v.length - 1]:=⟨_,rfl⟩
 obtain ⟨v2,hv2e⟩:∃ x,x = v[v.length - 2]:=⟨_,rfl⟩
 obtain ⟨s2,hs2⟩:∃ x,x = s[v.length - 2]:=⟨_,rfl⟩
 obtain ⟨top,htop⟩:∃ x,x = s[v.length] * 4294967296 + s[v.length - 1]:=⟨_,rfl⟩
 rw [← hv1,← hv2e,← hs2,← htop]
 rw [← hv1] at hnz b1;rw [← hv2e] at b2;rw [← hs2] at a2
 have h1:0 < v1:=hnz
 obtain ⟨e,he⟩:∃ e,est top s2 v1 v2 = e:=⟨_,rfl⟩
 rw [he]
 refine Tc_region (a_ FT 1 rfl (cna (a_ FT 1 rfl (t_q rfl (Jq_len rfl rfl un32) (a_ FT 1 rfl (cns (Tc_drawK 0 [none,none,none,none,none,none,none,none,none,none,none,none,none,none] [] follows (by kernel_rfl) (d_ FT 2 rfl (dq_ rfl rfl (Jq_index1 rfl rfl rfl un32 ty157 (by omega) (by omega) (get_u32i (v.length) (by omega) (by omega))) ?_)))))))))
 refine dq_ rfl rfl (Jq_load_ref rfl rfl ty157) (dq_ rfl rfl (Jq_convert rfl rfl un164 us157 (r:=((s[v.length]'(by omega):Nat):Int)) (wu64 (by omega))) (dq_ rfl rfl (Jq_shl rfl rfl rfl (by decide) (r:=((s[v.length]'(by omega) * 2 ^ 32:Nat):Int)) (shl64 _ 32 rfl (by omega))) (d_ FT 2 rfl ?_)))
 refine dq_ rfl rfl (Jq_sub rfl rfl rfl (r:=((v.length - 1:Nat):Int)) (w64 (by omega) (by omega) (by omega))) (dq_ rfl rfl (Jq_index1 rfl rfl rfl un32 ty157 (by omega) (by omega) (get_u32i (v.length - 1) (by omega) (by omega))) (dq_ rfl rfl (Jq_load_ref rfl rfl ty157) ?_))
 refine dq_ rfl rfl (Jq_convert rfl rfl un164 us157 (r:=((s[v.length - 1]'(by omega):Nat):Int)) (wu64 (by omega))) (dq_ rfl rfl (Jq_or rfl rfl rfl (r:=((top:Nat):Int)) (by rw [htop];exact or64 32 (Nat.mul_mod_left _ _) (by omega) (by omega))) (d_ FT 1 rfl (DK_nil (At_then (Tc_seq ?_)))))
 refine Tc_drawK 0 [none,none,none,none,none,none,none,none,none,none,none,none,none,none,none,none,none,none] [] follows (by kernel_rfl) (d_ FT 3 rfl (dq_ rfl rfl (Jq_sub rfl rfl rfl (r:=((v.length - 1:Nat):Int)) (w64 (by omega) (by omega) (by omega))) ?_))
 refine dq_ rfl rfl (Jq_index1 rfl rfl rfl un32 ty157 (by omega) (by omega) (get_u32i (v.length - 1) (by omega) (by omega))) (dq_ rfl rfl (Jq_load_ref rfl rfl ty157) (dq_ rfl rfl (Jq_convert rfl rfl un164 us157 (r:=((v1:Nat):Int)) (by rw [hv1];exact wu64 (by omega))) ?_))
 refine dq_ rfl rfl (Jq_quo rfl rfl rfl (by omega) (r:=((top / v1:Nat):Int)) ((by rw [tdivN];exact wrap_nat_u64 (Nat.lt_of_le_of_lt (Nat.div_le_self _ _) (by omega))))) (d_ FT 3 rfl (dq_ rfl rfl (Jq_sub rfl rfl rfl (r:=((v.length - 1:Nat):Int)) (w64 (by omega) (by omega) (by omega))) ?_))
 refine dq_ rfl rfl (Jq_index1 rfl rfl rfl un32 ty157 (by omega) (by omega) (get_u32i (v.length - 1) (by omega) (by omega))) (dq_ rfl rfl (Jq_load_ref rfl rfl ty157) (dq_ rfl rfl (Jq_convert rfl rfl un164 us157 (r:=((v1:Nat):Int)) (by rw [hv1];exact wu64 (by omega))) (dq_ rfl rfl (Jq_rem rfl rfl rfl (by omega) (r:=((top % v1:Nat):Int)) (tmodN _ _)) (d_ FT 2 rfl (DK_nil ?_)))))
 refine At_then (Tc_seq (Tc_block ?_))
 refine Tc_loopR (fun m Γ H=>∃ (q:Nat) (r:Nat),q = m∧Γ = [(0,some (D.v (V.one (natL s)))),(1,some (D.v (V.one (natL v)))),(5,some (D.int ((v.length:Nat):Int))),(7,some (D.val (.int .u64 ((q:Nat):Int)))),(8,some (D.val (.int .u64 ((r:Nat):Int))))]∧H = []∧q * v1 + r = top∧r < 4294967296∧e≤q∧q < 18446744073709551616) ⟨top / v1,top % v1,rfl,rfl,rfl,by rw [Nat.mul_comm];exact Nat.div_add_mod _ _,Nat.lt_trans (Nat.mod_lt _ h1) b1,by rw [← he];exact est_le h1 a2,Nat.lt_of_le_of_lt (Nat.div_le_self _ _) (by omega)⟩ ⟨rfl,rfl,rfl,rfl,rfl,trivial⟩ ?_
 rintro m Γ H ⟨q,r,rfl,rfl,rfl,hqt,hr,heq,hqb⟩
 refine Tc_seq (Tc_seq (Tc_drawK 0 [none,none,none,none,none,none,none,none,none,none,none,none,none,none,none,none,none,none,none,none,none,none] [] follows (by kernel_rfl) (d_ FT 1 rfl ?_)))
 by_cases hq:4294967296≤q
 ·refine dq_ rfl rfl (Jq_geq rfl rfl rfl (b:=true) (dT (by omega))) (d_ FT 20 rfl (DK_nil (At_then (Tc_t rfl (c_b (Tc_block (Tc_seq ?_)))))))
  have hlt:e < q:=by rw [← he];exact est_lt h1 hr hqt (.inl hq)
  have hq0:0 < q:=by omega
  refine Tc_region (a_ FT 1 rfl (t_q rfl (Jq_sub rfl rfl rfl (r:=((q - 1:Nat):Int)) (wu64 (by omega))) (a_ FT 1 rfl (cna (a_ FT 3 rfl (t_q rfl (Jq_sub rfl rfl rfl (r:=((v.length - 1:Nat):Int)) (w64 (by omega) (by omega) (by omega))) (t_q rfl (Jq_index1 rfl rfl rfl un32 ty157 (by omega) (by omega) (get_u32i (v.length - 1) (by omega) (by omega))) ?_)))))))
  refine t_q rfl (Jq_load_ref rfl rfl ty157) (t_q rfl (Jq_convert rfl rfl un164 us157 (r:=((v1:Nat):Int)) (by rw [hv1];exact wu64 (by omega))) (t_q rfl (Jq_add rfl rfl rfl (r:=((r + v1:Nat):Int)) (wu64 (by omega))) (a_ FT 1 rfl (cna (a_ FT 1 rfl ?_)))))
  by_cases hr2:4294967296≤r + v1
  ·refine t_q rfl (Jq_geq rfl rfl rfl (b:=true) (dT (by omega))) (c_n (Tc_t rfl (Tc_exitA (At_block_other rfl (At_then_exit (At_block_exit (At_then (c_a (a_ FT 2 rfl ?_)))))))))
   refine c_n ?_
   exact Tc_ret1 hq_ rfl rfl (by rw [show q - 1 = e from Nat.le_antisymm (by rw [← he];exact est_stop2 h1 hr2 (by rw [← hqt,Nat.sub_mul,Nat.one_mul];have:=Nat.le_mul_of_pos_left v1 hq0;omega)) (by omega)])
  ·refine t_q rfl (Jq_geq rfl rfl rfl (b:=false) (dF (by omega))) (c_n (Tc_f rfl (Tc_skipA (At_block ?_))))
   exact At_next (m':=q - 1) (by omega) ⟨q - 1,r + v1,rfl,rfl,rfl,by rw [← hqt,Nat.sub_mul,Nat.one_mul];have:=Nat.le_mul_of_pos_left v1 hq0;omega,by omega,by omega,by omega⟩ ⟨rfl,rfl,rfl,rfl,rfl,trivial⟩
 ·refine dq_ rfl rfl (Jq_geq rfl rfl rfl (b:=false) (dF (by omega))) (d_ FT 4 rfl ?_)
  have hm:q * v2≤4294967295 * 4294967295:=Nat.mul_le_mul (by omega) (by omega)
  refine DK_q (JO_qg rfl rfl rfl rfl (Jq_sub rfl rfl rfl (r:=((v.length - 2:Nat):Int)) (w64 (by omega) (by omega) (by omega)))) (DK_q (JO_qg rfl rfl rfl rfl (Jq_index1 rfl rfl rfl un32 ty157 (by omega) (by omega) (get_u32i (v.length - 2) (by omega) (by omega)))) (DK_q (JO_qg rfl rfl rfl rfl (Jq_load_ref rfl rfl ty157)) ?_))
  refine DK_q (JO_qg rfl rfl rfl rfl (Jq_convert rfl rfl un164 us157 (r:=((v2:Nat):Int)) (by rw [hv2e];exact wu64 (by omega)))) (DK_q (JO_qg rfl rfl rfl rfl (Jq_mul rfl rfl rfl (r:=((q * v2:Nat):Int)) (wu64 (by rw [← Int.natCast_mul];omega)))) (d_ FT 1 rfl ?_))
  refine DK_q (JO_qg rfl rfl rfl rfl (Jq_shl rfl rfl rfl (by decide) (r:=((r * 2 ^ 32:Nat):Int)) (shl64 _ 32 rfl (by omega)))) (d_ FT 2 rfl (DK_q (JO_qg rfl rfl rfl rfl (Jq_sub rfl rfl rfl (r:=((v.length - 2:Nat):Int)) (w64 (by omega) (by omega) (by omega)))) ?_))
  refine DK_q (JO_qg rfl rfl rfl rfl (Jq_index1 rfl rfl rfl un32 ty157 (by omega) (by omega) (get_u32i (v.length - 2) (by omega) (by omega)))) (DK_q (JO_qg rfl rfl rfl rfl (Jq_load_ref rfl rfl ty157)) (DK_q (JO_qg rfl rfl rfl rfl (Jq_convert rfl rfl un164 us157 (r:=((s2:Nat):Int)) (by rw [hs2];exact wu64 (by omega)))) ?_))
  refine DK_q (JO_qg rfl rfl rfl rfl (Jq_or rfl rfl rfl (r:=((r * 2 ^ 32 + s2:Nat):Int)) (or64 32 (Nat.mul_mod_left _ _) (by omega) (by omega)))) ?_
  by_cases hc:r * 2 ^ 32 + s2 < q * v2
  ·refine DK_q (JO_qg rfl rfl rfl rfl (Jq_gtr rfl rfl rfl (b:=true) (dT (by omega)))) (d_ FT 1 rfl (DK_nil (At_then (Tc_t rfl (c_b (Tc_block (Tc_seq ?_)))))))
   have hlt:e < q:=by rw [← he];exact est_lt h1 hr hqt (.inr hc)
   have hq0:0 < q:=by omega
   refine Tc_region (a_ FT 1 rfl (t_q rfl (Jq_sub rfl rfl rfl (r:=((q - 1:Nat):Int)) (wu64 (by omega))) (a_ FT 1 rfl (cna (a_ FT 3 rfl (t_q rfl (Jq_sub rfl rfl rfl (r:=((v.length - 1:Nat):Int)) (w64 (by omega) (by omega) (by omega))) (t_q rfl (Jq_index1 rfl rfl rfl un32 ty157 (by omega) (by omega) (get_u32i (v.length - 1) (by omega) (by omega))) ?_)))))))
   refine t_q rfl (Jq_load_ref rfl rfl ty157) (t_q rfl (Jq_convert rfl rfl un164 us157 (r:=((v1:Nat):Int)) (by rw [hv1];exact wu64 (by omega))) (t_q rfl (Jq_add rfl rfl rfl (r:=((r + v1:Nat):Int)) (wu64 (by omega))) (a_ FT 1 rfl (cna (a_ FT 1 rfl ?_)))))
   by_cases hr2:4294967296≤r + v1
   ·refine t_q rfl (Jq_geq rfl rfl rfl (b:=true) (dT (by omega))) (c_n (Tc_t rfl (Tc_exitA (At_block_other rfl (At_then_exit (At_block_exit (At_then (c_a (a_ FT 2 rfl ?_)))))))))
    refine c_n ?_
    exact Tc_ret1 hq_ rfl rfl (by rw [show q - 1 = e from Nat.le_antisymm (by rw [← he];exact est_stop2 h1 hr2 (by rw [← hqt,Nat.sub_mul,Nat.one_mul];have:=Nat.le_mul_of_pos_left v1 hq0;omega)) (by omega)])
   ·refine t_q rfl (Jq_geq rfl rfl rfl (b:=false) (dF (by omega))) (c_n (Tc_f rfl (Tc_skipA (At_block ?_))))
    exact At_next (m':=q - 1) (by omega) ⟨q - 1,r + v1,rfl,rfl,rfl,by rw [← hqt,Nat.sub_mul,Nat.one_mul];have:=Nat.le_mul_of_pos_left v1 hq0;omega,by omega,by omega,by omega⟩ ⟨rfl,rfl,rfl,rfl,rfl,trivial⟩
  ·refine DK_q (JO_qg rfl rfl rfl rfl (Jq_gtr rfl rfl rfl (b:=false) (dF (by omega)))) (d_ FT 1 rfl (DK_nil (At_then (Tc_f rfl (Tc_exitA (At_then_exit (At_then_exit (At_block_exit (At_then ?_)))))))))
   refine c_a (a_ FT 2 rfl (c_n ?_))
   exact Tc_ret1 hq_ rfl rfl (by rw [show q = e from Nat.le_antisymm (by rw [← he];exact est_stop1 h1 (by omega) (Nat.le_of_not_lt hc) hqt) heq])
set_option maxRecDepth 10000 in
theorem reduce_spec (pre s post v:List Nat) (q:Nat) (hs:Small s) (hv:Small v) (hsl:s.length = v.length + 1) (hvl:v.length≤20000000000000) (hV:0 < val v) (hlt:val s < val v * 4294967296) (hq:q = val s / val v ∨ q = val s / val v + 1):CtrM Tryz.prog 181 157 pre.length (v.length + 1) ((pre ++ s ++ post).map u32L) ((pre ++ padL (v.length + 1) (val s % val v) ++ post).map u32L) [V.one (natL v),V.one (Leaf.val (.int .u64 ((q:Nat):Int)))] (R.one (V.one (Leaf.val (.int .u32 ((val s / val v:Nat):Int))))):=by
 refine CtrM.of_body Tryz.func181 rfl Tryz.ntmps181 (Nat.le_of_ble_eq_true rfl) (fun w0 A0 bk hX=>?_)
 refine Tc_seq ?_
 have hqt:val s / val v < 4294967296:=by rw [Nat.div_lt_iff_lt_mul hV,Nat.mul_comm];exact hlt
 have hqB:q≤4294967296:=by omega
 refine Tc_region (a_ FT 1 rfl (cna (a_ FT 2 rfl (cns (c_a (a_ FT 1 rfl (t_q rfl (Jq_len rfl rfl un32) (a_ FT 1 rfl (c_n ?_)))))))))
 refine Tc_block ?_
 refine Tc_loopR (fun m Γ H=>∃ (i:Nat) (s1:List Nat) (c:Nat) (b:Nat),v.length - i = m∧Γ = [(0,some (D.part 0 pre.length (v.length + 1))),(1,some (D.v (V.one (natL v)))),(2,some (D.val (.int .u64 ((q:Nat):Int)))),(7,some (D.val (.int .u64 ((c:Nat):Int)))),(8,some (D.val (.int .u64 ((b:Nat):Int)))),(15,some (D.v (V.one (natL v)))),(16,some (D.int ((v.length:Nat):Int))),(17,some (D.int ((i:Nat):Int)))]∧H = [some ⟨157,(pre ++ s1 ++ post).map u32L,some 1,some (.inl bk)⟩]∧i≤v.length∧s1.length = s.length∧Small s1∧c < 4294967296∧b≤1∧val (s1.take i) + q * val (v.take i) = val (s.take i) + (c + b) * 4294967296 ^ i∧s1.drop i = s.drop i) ⟨0,s,0,0,rfl,rfl,rfl,Nat.zero_le _,rfl,hs,by omega,by omega,by simp [val],rfl⟩ ⟨rfl,rfl,rfl,rfl,rfl,rfl,rfl,rfl,trivial⟩ ?_
 rintro m Γ H ⟨i,s1,c,b,rfl,rfl,rfl,hile,hl1,hs1,hc,hb,heq,hdr⟩
 refine c_a ?_
 by_cases hi:i < v.length
 ·refine t_q rfl (Jq_lss rfl rfl rfl (b:=true) (dT (by omega))) (cns (Tc_t rfl (c_b (Tc_seq (Tc_block (Tc_seq ?_))))))
  have hvi:=hv.get i hi;have hsi:=hs1.get i (by omega)
  have hm:q * v[i]≤4294967296 * 4294967295:=Nat.mul_le_mul hqB (by omega)
  obtain ⟨t,ht⟩:∃ t,t = c + q * v[i]:=⟨_,rfl⟩
  have htb:t < 18446744073709551616:=by omega
  obtain ⟨x,hx⟩:∃ x,x = (s1[i]'(by omega) + (18446744073709551616 - (t % 4294967296 + b))) % 18446744073709551616:=⟨_,rfl⟩
  have hd:=sub_digit (l:=t % 4294967296) (b:=b) hsi (by omega)
  simp only [← hx] at hd
  refine Tc_region (a_ FT 1 rfl (t_q rfl (Jq_index1 rfl rfl rfl un32 ty157 (by omega) (by omega) (get_u32 (by omega))) (t_q rfl (Jq_load_ref rfl rfl ty157) (a_ FT 2 rfl (cna (a_ FT 3 rfl (t_q rfl (Jq_convert rfl rfl un164 us157 (r:=((v[i]'hi:Nat):Int)) (wu64 (by omega))) ?_)))))))
  refine t_q rfl (Jq_mul rfl rfl rfl (r:=((q * v[i]'hi:Nat):Int)) (wu64 (by rw [← Int.natCast_mul];omega))) (t_q rfl (Jq_add rfl rfl rfl (r:=((t:Nat):Int)) (by rw [ht];exact wu64 (by omega))) (a_ FT 1 rfl (cna (a_ FT 2 rfl (t_q rfl (Jq_index_part rfl rfl rfl rfl (by decide) (by simp;omega) un32 ty157 (by omega) (by omega) (off:=pre.length + (i)) (by omega)) ?_)))))
  refine t_q rfl (Jq_load rfl rfl rfl (by decide) ty157 (get_part rfl (by omega))) (t_q rfl (Jq_convert rfl rfl un164 us157 (r:=((s1[i]'(by omega):Nat):Int)) (wu64 (by omega))) (a_ FT 1 rfl (t_q rfl (Jq_convert rfl rfl un157 us164 (r:=((t % 4294967296:Nat):Int)) (wu32 (by omega))) ?_)))
  refine t_q rfl (Jq_convert rfl rfl un164 us157 (r:=((t % 4294967296:Nat):Int)) (wu64 (by omega))) (t_q rfl (Jq_sub rfl rfl rfl (r:=(((s1[i]'(by omega) + (18446744073709551616 - t % 4294967296)) % 18446744073709551616:Nat):Int)) (wu64 (by omega))) (a_ FT 1 rfl (t_q rfl (Jq_sub rfl rfl rfl (r:=((x:Nat):Int)) (wu64 (by omega))) (a_ FT 1 rfl (cna (a_ FT 3 rfl ?_))))))
  refine t_q rfl (Jq_convert rfl rfl un157 us164 (r:=((x % 4294967296:Nat):Int)) (wu32 (by omega))) (t_q rfl (Jq_index_part rfl rfl rfl rfl (by decide) (by simp;omega) un32 ty157 (by omega) (by omega) (off:=pre.length + (i)) (by omega)) ?_)
  refine t_f rfl (Je_store (ls:=((pre ++ s1.set (i) (x % 4294967296) ++ post).map u32L)) rfl rfl rfl rfl ty157 rfl (by decide) (by simp;omega) (splice_part rfl (by omega))) (cna (a_ FT 1 rfl (t_q rfl (Jq_shr rfl rfl rfl (by decide) (r:=((x / 9223372036854775808:Nat):Int)) (shr_nat _ 63 rfl)) (a_ FT 1 rfl (c_n (Tc_region (a_ FT 1 rfl ?_)))))))
  refine t_q rfl (Jq_shr rfl rfl rfl (by decide) (r:=((t / 4294967296:Nat):Int)) (shr_nat _ 32 rfl)) (a_ FT 1 rfl (Tl_end (At_block (At_then (Tc_region (t_q rfl (Jq_add rfl rfl rfl (r:=((i + 1:Nat):Int)) (w64 (by omega) (by omega) (by omega))) (a_ FT 1 rfl (Tl_end ?_))))))))
  exact At_next (m':=v.length - (i + 1)) (by omega) ⟨i + 1,_,_,_,rfl,rfl,rfl,by omega,by simp [hl1],hs1.set _ _ (by omega),by omega,hd.2,red_step (by omega) (by omega) hi heq hdr _ _ t ht hd.1,red_drop hdr⟩ ⟨rfl,rfl,rfl,rfl,rfl,rfl,rfl,rfl,trivial⟩
 ·refine t_q rfl (Jq_lss rfl rfl rfl (b:=false) (dF (by omega))) (cns (Tc_f rfl (Tc_exitA (At_then_exit (At_then_exit (At_block_exit (At_then (Tc_seq ?_))))))))
  have hie:i = v.length:=by omega
  subst hie
  have hsn:=hs1.get v.length (by omega)
  obtain ⟨x,hx⟩:∃ x,x = (s1[v.length]'(by omega) + (18446744073709551616 - (c + b))) % 18446744073709551616:=⟨_,rfl⟩
  have hd:=sub_digit (l:=c) (b:=b) hsn (by omega)
  simp only [← hx] at hd
  have htot:=red_total (by omega) hsl rfl heq hdr hd.1
  have hs2:=hs1.set v.length (x % 4294967296) (by omega)
  have hl2:(s1.set v.length (x % 4294967296)).length = v.length + 1:=by simp;omega
  refine Tc_region (a_ FT 2 rfl (t_q rfl (Jq_len rfl rfl un32) (t_q rfl (Jq_index_part rfl rfl rfl rfl (by decide) (by simp;omega) un32 ty157 (by omega) (by omega) (off:=pre.length + (v.length)) (by omega)) (t_q rfl (Jq_load rfl rfl rfl (by decide) ty157 (get_part rfl (by omega))) ?_))))
  refine t_q rfl (Jq_convert rfl rfl un164 us157 (r:=((s1[v.length]'(by omega):Nat):Int)) (wu64 (by omega))) (a_ FT 1 rfl (t_q rfl (Jq_sub rfl rfl rfl (r:=(((s1[v.length]'(by omega) + (18446744073709551616 - c)) % 18446744073709551616:Nat):Int)) (wu64 (by omega))) (a_ FT 1 rfl (t_q rfl (Jq_sub rfl rfl rfl (r:=((x:Nat):Int)) (wu64 (by omega))) (a_ FT 1 rfl (cna ?_))))))
  refine a_ FT 2 rfl (t_q rfl (Jq_len rfl rfl un32) (a_ FT 1 rfl (t_q rfl (Jq_convert rfl rfl un157 us164 (r:=((x % 4294967296:Nat):Int)) (wu32 (by omega))) (t_q rfl (Jq_index_part rfl rfl rfl rfl (by decide) (by simp;omega) un32 ty157 (by omega) (by omega) (off:=pre.length + (v.length)) (by omega)) ?_))))
  refine t_f rfl (Je_store (ls:=((pre ++ s1.set (v.length) (x % 4294967296) ++ post).map u32L)) rfl rfl rfl rfl ty157 rfl (by decide) (by simp;omega) (splice_part rfl (by omega))) (cns (c_a (a_ FT 1 rfl (t_q rfl (Jq_shr rfl rfl rfl (by decide) (r:=((x / 9223372036854775808:Nat):Int)) (shr_nat _ 63 rfl)) ?_))))
  by_cases hx0:x / 9223372036854775808 = 0
  ·refine t_q rfl (Jq_eql rfl rfl rfl (b:=true) (eT (by omega))) (c_n (Tc_t rfl (Tc_seq ?_)))
   rw [hx0,Nat.zero_mul,Nat.add_zero] at htot
   obtain ⟨k1,k2⟩:=red_fin0 hq hV htot
   refine Tc_region (a_ FT 1 rfl (t_q rfl (Jq_convert rfl rfl un157 us164 (r:=((val s / val v:Nat):Int)) (by rw [← k1];exact wu32 (by omega))) (a_ FT 1 rfl (c_n ?_))))
   exact Tc_retM (fun _ _ h=>h) rfl rfl rfl rfl (by simp;omega) (by rw [padL_of hs2 hl2 k2]) hX
  ·refine t_q rfl (Jq_eql rfl rfl rfl (b:=false) (eF (by omega))) (c_n (Tc_f rfl (c_b (Tc_seq ?_))))
   have hx1:x / 9223372036854775808 = 1:=by omega
   rw [hx1,Nat.one_mul] at htot
   have hbd:=val_lt hs2
   rw [hl2] at hbd
   obtain ⟨k1,k2⟩:=red_fin1 hq hV hbd htot
   generalize s1.set v.length (x % 4294967296) = s2 at *
   refine Tc_region (a_ FT 1 rfl (cns (c_a (a_ FT 1 rfl (t_q rfl (Jq_len rfl rfl un32) (a_ FT 1 rfl (c_n (Tc_block ?_))))))))
   refine Tc_loopR (fun m Γ H=>∃ (i:Nat) (s3:List Nat) (c:Nat),v.length - i = m∧Γ = [(0,some (D.part 0 pre.length (v.length + 1))),(1,some (D.v (V.one (natL v)))),(2,some (D.val (.int .u64 ((q:Nat):Int)))),(7,some (D.val (.int .u64 ((c:Nat):Int)))),(70,some (D.v (V.one (natL v)))),(71,some (D.int ((v.length:Nat):Int))),(72,some (D.int ((i:Nat):Int)))]∧H = [some ⟨157,(pre ++ s3 ++ post).map u32L,some 1,some (.inl bk)⟩]∧i≤v.length∧s3.length = v.length + 1∧Small s3∧c≤1∧val (s3.take i) + c * 4294967296 ^ i = val (s2.take i) + val (v.take i)∧s3.drop i = s2.drop i) ⟨0,s2,0,rfl,rfl,rfl,Nat.zero_le _,hl2,hs2,by omega,by simp [val],rfl⟩ ⟨rfl,rfl,rfl,rfl,rfl,rfl,rfl,trivial⟩ ?_
   rintro m Γ H ⟨i,s3,c,rfl,rfl,rfl,hile,hl3,hs3,hc3,heq3,hdr3⟩
   refine c_a ?_
   by_cases hi:i < v.length
   ·refine t_q rfl (Jq_lss rfl rfl rfl (b:=true) (dT (by omega))) (cns (Tc_t rfl (c_b (Tc_seq (Tc_block (Tc_seq ?_))))))
    have hvi:=hv.get i hi;have hsi:=hs3.get i (by omega)
    have hge:=get_of_drop hdr3 (by omega) (by omega)
    refine Tc_region (a_ FT 1 rfl (t_q rfl (Jq_index1 rfl rfl rfl un32 ty157 (by omega) (by omega) (get_u32 (by omega))) (t_q rfl (Jq_load_ref rfl rfl ty157) (a_ FT 2 rfl (cna (a_ FT 3 rfl (t_q rfl (Jq_index_part rfl rfl rfl rfl (by decide) (by simp;omega) un32 ty157 (by omega) (by omega) (off:=pre.length + (i)) (by omega)) ?_)))))))
    refine t_q rfl (Jq_load rfl rfl rfl (by decide) ty157 (get_part rfl (by omega))) (t_q rfl (Jq_convert rfl rfl un164 us157 (r:=((s3[i]'(by omega):Nat):Int)) (wu64 (by omega))) (a_ FT 1 rfl (t_q rfl (Jq_convert rfl rfl un164 us157 (r:=((v[i]'hi:Nat):Int)) (wu64 (by omega))) (t_q rfl (Jq_add rfl rfl rfl (r:=((s3[i]'(by omega) + v[i]'hi:Nat):Int)) (wu64 (by omega))) ?_))))
    refine t_q rfl (Jq_add rfl rfl rfl (r:=((c + (s3[i]'(by omega) + v[i]'hi):Nat):Int)) (wu64 (by omega))) (a_ FT 1 rfl (cna (a_ FT 3 rfl (t_q rfl (Jq_convert rfl rfl un157 us164 (r:=(((c + (s3[i]'(by omega) + v[i]'hi)) % 4294967296:Nat):Int)) (wu32 (by omega))) ?_))))
    refine t_q rfl (Jq_index_part rfl rfl rfl rfl (by decide) (by simp;omega) un32 ty157 (by omega) (by omega) (off:=pre.length + (i)) (by omega)) (t_f rfl (Je_store (ls:=((pre ++ s3.set (i) ((c + (s3[i]'(by omega) + v[i]'hi)) % 4294967296) ++ post).map u32L)) rfl rfl rfl rfl ty157 rfl (by decide) (by simp;omega) (splice_part rfl (by omega))) (c_n (Tc_region (a_ FT 1 rfl ?_))))
    refine t_q rfl (Jq_shr rfl rfl rfl (by decide) (r:=(((c + (s3[i]'(by omega) + v[i]'hi)) / 4294967296:Nat):Int)) (shr_nat _ 32 rfl)) (a_ FT 1 rfl (Tl_end (At_block (At_then (Tc_region (t_q rfl (Jq_add rfl rfl rfl (r:=((i + 1:Nat):Int)) (w64 (by omega) (by omega) (by omega))) (a_ FT 1 rfl (Tl_end ?_))))))))
    exact At_next (m':=v.length - (i + 1)) (by omega) ⟨i + 1,_,_,rfl,rfl,rfl,by omega,by simp [hl3],hs3.set _ _ (by omega),by omega,add_step (a:=s2) (b:=v) (by omega) (by omega) heq3 (by rw [getD_of hi,hge,Nat.add_assoc]),red_drop hdr3⟩ ⟨rfl,rfl,rfl,rfl,rfl,rfl,rfl,trivial⟩
   ·refine t_q rfl (Jq_lss rfl rfl rfl (b:=false) (dF (by omega))) (cns (Tc_f rfl (Tc_exitA (At_then_exit (At_then_exit (At_block_exit (At_then (Tc_seq ?_))))))))
    have hie:i = v.length:=by omega
    subst hie
    have hsn:=hs3.get v.length (by omega)
    have hR:val s % val v < 4294967296 ^ (v.length + 1):=Nat.lt_of_lt_of_le (Nat.mod_lt _ hV) (Nat.le_of_lt (Nat.lt_of_lt_of_le (val_lt hv) (Nat.pow_le_pow_right (by decide) (by omega))))
    have hfin:=red_back hs3 hl3 hl2 rfl heq3 hdr3 rfl hR k2
    obtain ⟨Q,hQ⟩:∃ Q,Q = val s / val v:=⟨_,rfl⟩
    rw [← hQ] at hqt
    refine Tc_region (a_ FT 2 rfl (t_q rfl (Jq_len rfl rfl un32) (t_q rfl (Jq_index_part rfl rfl rfl rfl (by decide) (by simp;omega) un32 ty157 (by omega) (by omega) (off:=pre.length + (v.length)) (by omega)) (t_q rfl (Jq_load rfl rfl rfl (by decide) ty157 (get_part rfl (by omega))) (a_ FT 1 rfl (t_q rfl (Jq_convert rfl rfl un157 us164 (r:=((c:Nat):Int)) (wu32 (by omega))) ?_))))))
    refine t_q rfl (Jq_add rfl rfl rfl (r:=(((s3[v.length]'(by omega) + c) % 4294967296:Nat):Int)) (wu32 (by omega))) (t_q rfl (Jq_index_part rfl rfl rfl rfl (by decide) (by simp;omega) un32 ty157 (by omega) (by omega) (off:=pre.length + (v.length)) (by omega)) ?_)
    refine t_f rfl (Je_store (ls:=((pre ++ s3.set (v.length) ((s3[v.length]'(by omega) + c) % 4294967296) ++ post).map u32L)) rfl rfl rfl rfl ty157 rfl (by decide) (by simp;omega) (splice_part rfl (by omega))) (cna (a_ FT 1 rfl (t_q rfl (Jq_sub rfl rfl rfl (r:=((Q:Nat):Int)) (by rw [k1,← hQ];exact wu64 (by omega))) ?_)))
    refine t_q rfl (Jq_convert rfl rfl un157 us164 (r:=((Q:Nat):Int)) (wu32 (by omega))) (a_ FT 1 rfl (c_n ?_))
    exact Tc_retM (fun _ _ h=>h) rfl rfl (by rw [hQ]) rfl (by simp;omega) (by rw [padL_of (n:=v.length + 1) (hs3.set _ _ (Nat.mod_lt _ (by decide))) (by simp [hl3]) hfin]) hX
end Go.Proofs.YtjdbopkbfkgpdaaGreatDoor
