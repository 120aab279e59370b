/- Parts of the proof, 4: the texts FwU, FwV, FwW, Facts, FactsD, RatQ, Val, NatM, FwI, Knuth, Qz, as far as they are used. -/
import Derived.Test.YtjdbopkbfkgpdaaGreatDoorMb03
import Derived.Test.YtjdbopkbfkgpdaaGreatDoorProg
import Derived.KernelRfl
set_option linter.unusedSimpArgs false
set_option linter.unusedVariables false
namespace Rc
open Go Go.RowKit
def HandG (A:Cells) (u sz:Nat) (ls:List Leaf) (lo:Nat) (v:Value) (w':World):Prop:=
 (v = .slice none 0 0∧ls = []) ∨ ∃ (A':Cells) (b cap:Nat) (cs rest:List Value),v = .slice (some ⟨b,0,none⟩) (ls.length / sz) cap∧lo≤b∧w'.heap[b]? = some (.cells (cs ++ rest).toArray u (0,0)) ∧
  (cs ++ rest).length = cap * sz∧cap≤maxLen∧denL (Foot.of A') ls cs w'∧(∀ j,ls.length≤j→¬ A' b j)∧(∀ k j,A' k j→A k j ∨ (lo≤k∧k < w'.heap.size))
def CtrG (P:Program) (f u sz:Nat) (ls:List Leaf) (xs:List V):Prop:=
 ∀ (w:World) (vs:List Value) (A:Cells),Glob w→(∀ k j,A k j→k < w.heap.size)→denVs (Foot.of A) xs vs w →
  Calls P f vs.toArray w fun e w'=>∃ v,e = .returned v∧HandG A u sz ls w.heap.size v w'∧Below w.heap.size w w'
def PostG (P:Program) (fn:Func) (w0:Frm) (A0:Foot) (u sz:Nat) (ls:List Leaf):Exit→Act→World→Prop:=
 bodyPost P fn fun e w'=>∃ v,e = .returned v∧HandG A0.c u sz ls w0.w.heap.size v w'∧w0.Bel w'
theorem CtrG.of_body {P:Program} {f N u sz:Nat} {fn:Func} {c:Code} {ls:List Leaf} {xs:List V} (hf:P.funcs[f]? = some fn) (hb:fn.body = some c) (hN:fn.ntmps = N) (hl:xs.length≤min N 2000)
  (h:∀ w0 A0,(∀ k,¬ w0.X k)→Tc P (PostG P fn w0 A0 u sz ls) w0 A0 N (entryG 0 xs) [] c):CtrG P f u sz ls xs:=by
 intro w vs A hg hA hd
 have hlen:=hd.length
 refine Calls.mono (calls_of_wp hf hb (R:=fun e w'=>∃ v,e = .returned v∧HandG A u sz ls w.heap.size v w'∧(Frm.of w).Bel w') ?_) (fun e w' ⟨v,h1,h2,h3⟩=>⟨v,h1,h2,h3.to_below⟩)
 refine h (Frm.of w) (Foot.of A) (fun _ h=>h) _ _ ⟨⟨fun _=>0,fun _=>0,fun _=>false,Foot.of A⟩,Frm.Bel.refl (Frm.of w) hg (fun _ _ h=>h),hA,fun k j hk=>.inl hk,rfl,?_,?_,fun i e he=>by simp at he,fun i j e e' he=>by simp at he,fun i e v he=>by simp at he,fun i m v hv=>by simp at hv,fun k j hk=>⟨hk,rfl⟩⟩
 ·simp;omega
 ·intro s d hs
  obtain ⟨x,v,rfl,_,h2,h3⟩:=entry_slots xs vs 0 s d hd hs
  refine ⟨trivial,v,?_,h3⟩
  simp only [Nat.sub_zero] at h2
  have hlt:=(List.getElem?_eq_some_iff.1 h2).1
  rw [slotv_tmp (by simp;omega),Array.getElem?_append_left (by simpa using hlt)]
  simpa using h2
section
variable {P:Program} {Q:Exit→Act→World→Prop} {w0:Frm} {A0:Foot} {N:Nat} {Γ:Gam} {H:Hp}
theorem Tc_retG0 {u sz s:Nat} {fn:Func} {ls':List Leaf} (hQ:∀ a w,PostG P fn w0 A0 u sz ls' .ret a w→Q .ret a w) (hr:fn.results = #[.tmp s]) (hs:lookT Γ s = some (D.val (.slice none 0 0))) (hls:ls' = []):Tc P Q w0 A0 N Γ H .ret:=by
 intro a w hSt
 obtain ⟨E,hG⟩:=hSt
 obtain ⟨_,v,hv2,hd⟩:=hG.tmp hs
 have hd:v = .slice none 0 0:=hd.1
 refine wp_ret (hQ a w ⟨hG.defers,v,?_,v,rfl,.inl ⟨hd,hls⟩,hG.below⟩)
 rw [results_eq,hr];simp [resSem,hv2]
theorem Tc_retG {u sz s i n k:Nat} {fn:Func} {ls ls':List Leaf} (hQ:∀ a w,PostG P fn w0 A0 u sz ls' .ret a w→Q .ret a w) (hX:∀ k,¬ w0.X k) (hr:fn.results = #[.tmp s]) (hs:lookT Γ s = some (D.v (V.one (Leaf.own i n))))
  (hH:H[i]? = some (some ⟨u,ls,some sz,some (.inr (k,some n))⟩)) (hls:ls = ls') (hk:k = ls.length:=by rfl) (hcl:clL ls = true:=by first | rfl | exact El.all_cl _ _):Tc P Q w0 A0 N Γ H .ret:=by
 intro a w hSt
 obtain ⟨E,hG⟩:=hSt
 subst hls
 subst hk
 obtain ⟨_,v,hv2,hd⟩:=hG.tmp hs
 have hd:E.A.g i n = some v:=hd.1
 obtain ⟨g1,g2⟩:=hG.boxes i _ hH
 have hkn:=(hG.kn i _ n hH ⟨_,rfl⟩).1
 rw [hd] at hkn
 have hv:v = HE.name E i ⟨u,ls,some sz,some (.inr (ls.length,some n))⟩:=Option.some.inj hkn
 refine wp_ret (hQ a w ⟨hG.defers,v,by rw [results_eq,hr];simp [resSem,hv2],v,rfl,?_,hG.below⟩)
 unfold HE.ok at g1
 unfold HE.name at hv
 simp only at g1 hv
 cases hn:E.nil i
 ·rw [hn] at hv g1
  simp only [Bool.false_eq_true,if_false] at hv g1
  obtain ⟨hm,cs,rest,h1,h2,h3⟩:=g1
  obtain ⟨g3,g4⟩:=g2 hn
  refine .inr ⟨E.A.c,E.b i,E.cap i,cs,rest,hv,?_,h1,h2,hm,h3.pure hcl,g4,fun k j hA=>?_⟩
  ·rcases g3 with g3 | g3
   ·exact g3
   ·exact absurd g3 (hX _)
  ·rcases hG.foot0 k j hA with h | h | h
   ·exact .inl h
   ·exact .inr ⟨h,hG.foot k j hA⟩
   ·exact absurd h (hX _)
 ·rw [hn] at hv g1
  simp only [if_true] at hv g1
  exact .inl ⟨hv,g1.1⟩
theorem Good.adoptG {E:Env} {a:Act} {w w':World} (h:Good w0 A0 N Γ H E a w) (hb:Below w.heap.size w w') {i u sz:Nat} (hi:H[i]? = some none) {v:Value} {ls:List Leaf} (hv:HandG E.A.c u sz ls w.heap.size v w') (hcl:clL ls = true) (hsz:0 < sz) :
  ∃ E',Good w0 A0 N Γ (H.set i (some ⟨u,ls,some sz,some (.inr (ls.length,some 0))⟩)) E' a w'∧E'.A.g i 0 = some v∧v.oneCell' = true:=by
 have hil:=(List.getElem?_eq_some_iff.1 hi).1
 have hk:kept E.A w w':=kept_of fun k j hk=>hb.block k (h.foot k j hk)
 have hs0:w0.w.heap.size≤w.heap.size:=h.below.size
 have hg0:∀ m,E.A.g i m = none:=by
  intro m
  cases hm:E.A.g i m with
  | none=>rfl
  | some x=>
   obtain ⟨e,k,n,q1,_⟩:=h.gd _ m x hm
   rw [hi] at q1;simp at q1
 have hno:∀ s d,look Γ s = some d→d.nm≠some i:=by
  intro s d hsd hnm
  obtain ⟨e,he,_⟩:=D.okn_iff.1 (h.slots s d hsd).1 i hnm
  rw [hi] at he;simp at he
 obtain ⟨A',nl,b,cap,hA',hrow,hname,hfree,hbs⟩:∃ (A':Cells) (nl:Bool) (b cap:Nat),(∀ k j,A' k j→E.A k j ∨ (w.heap.size≤k∧k < w'.heap.size)) ∧
   (if nl = true then ls = []∧cap = 0 else cap≤maxLen∧∃ cs rest:List Value,w'.heap[b]? = some (.cells (cs ++ rest).toArray u (0,0))∧(cs ++ rest).length = cap * sz∧denL (Foot.of A') ls cs w') ∧
   v = (if nl = true then .slice none 0 0 else .slice (some ⟨b,0,none⟩) (ls.length / sz) cap)∧(nl = false→∀ j,ls.length≤j→¬ A' b j)∧(nl = false→w.heap.size≤b∧b < w'.heap.size):=by
  rcases hv with ⟨h1,h2⟩ | ⟨A',b,cap,cs,rest,h1,h2,h3,h4,h5,h6,h7,h8⟩
  ·exact ⟨fun _ _=>False,true,0,0,fun _ _ h=>h.elim,⟨h2,rfl⟩,h1,fun h=>by simp at h,fun h=>by simp at h⟩
  ·exact ⟨A',false,b,cap,h8,⟨h5,cs,rest,h3,h4,h6⟩,h1,fun _=>h7,fun _=>⟨h2,(Array.getElem?_eq_some_iff.1 h3).1⟩⟩
 have hone:v.oneCell' = true:=by rw [hname];split <;> rfl
 let A2:Foot:=⟨fun k j=>E.A k j ∨ A' k j ∨ (nl = false∧k = b∧j < ls.length),fun x m=>if x = i∧m = 0 then some v else E.A.g x m⟩
 let E':Env:=⟨fun x=>if x = i then b else E.b x,fun x=>if x = i then cap else E.cap x,fun x=>if x = i then nl else E.nil x,A2⟩
 have hle:Foot.le E.A A2:=⟨fun x j hx=>.inl hx,fun x m y hy=>by
  show (if x = i∧m = 0 then some v else E.A.g x m) = some y
  rw [if_neg]
  ·exact hy
  ·rintro ⟨rfl,rfl⟩
   rw [hg0] at hy;simp at hy⟩
 have back:∀ (j:Nat) (e1:HE),(H.set i (some ⟨u,ls,some sz,some (.inr (ls.length,some 0))⟩))[j]? = some (some e1)→(j = i∧e1 = ⟨u,ls,some sz,some (.inr (ls.length,some 0))⟩) ∨ (j≠i∧H[j]? = some (some e1)):=by
  intro j e1 hj
  by_cases hij:i = j
  ·subst hij
   rw [List.getElem?_set_self hil] at hj
   simp only [Option.some.injEq] at hj
   exact .inl ⟨rfl,hj.symm⟩
  ·rw [List.getElem?_set_ne hij] at hj
   exact .inr ⟨fun e=>hij e.symm,hj⟩
 refine ⟨E',⟨h.below.then (hb.mono hs0),?_,?_,h.defers,h.size,?_,?_,?_,?_,?_,h.old.keep hle.1 hk⟩,if_pos ⟨rfl,rfl⟩,hone⟩
 ·intro k j hA
  rcases hA with hA | hA | ⟨h1,h2,_⟩
  ·exact Nat.lt_of_lt_of_le (h.foot k j hA) hb.size
  ·rcases hA' k j hA with hA | hA
   ·exact Nat.lt_of_lt_of_le (h.foot k j hA) hb.size
   ·exact hA.2
  ·rw [h2];exact (hbs h1).2
 ·intro k j hA
  rcases hA with hA | hA | ⟨h1,h2,_⟩
  ·exact h.foot0 k j hA
  ·rcases hA' k j hA with hA | hA
   ·exact h.foot0 k j hA
   ·exact .inr (.inl (Nat.le_trans hs0 hA.1))
  ·rw [h2];exact .inr (.inl (Nat.le_trans hs0 (hbs h1).1))
 ·intro s d hs
  obtain ⟨ho,x,hx,hd⟩:=h.slots s d hs
  have hn:=hno s d hs
  refine ⟨D.okn_mono ho (fun y e1 hy he1 hv1=>⟨e1,?_,hv1⟩),x,hx,?_⟩
  ·have:i≠y:=fun e=>hn (by rw [hy,e])
   rw [List.getElem?_set_ne this];exact he1
  ·have hd:=D.den_keep hk hd
   rcases d with x | xs | ⟨y,o⟩ | ⟨y,q⟩
   ·exact V.den_mono hle hd
   ·obtain ⟨vs,rfl,hvs⟩:=hd;exact ⟨vs,rfl,hvs.mono hle⟩
   ·have:y≠i:=fun e=>hn (by rw [← e];rfl)
    simp only [D.den,E',if_neg this] at hd ⊢;exact hd
   ·have:y≠i:=fun e=>hn (by rw [← e];rfl)
    simp only [D.den,E',if_neg this] at hd ⊢;exact hd
 ·intro j e1 hj
  rcases back j e1 hj with ⟨rfl,rfl⟩ | ⟨hij,hj'⟩
  ·refine ⟨?_,fun hn=>?_⟩
   ·unfold HE.ok
    simp only [E',if_true]
    cases hnl:nl
    ·rw [hnl] at hrow
     simp only [Bool.false_eq_true,if_false] at hrow ⊢
     obtain ⟨h1,cs,rest,h2,h3,h4⟩:=hrow
     exact ⟨h1,cs,rest,h2,h3,h4.mono ⟨fun k j hk=>.inr (.inl hk),fun _ _ _ h=>by simp at h⟩⟩
    ·rw [hnl] at hrow
     simp only [if_true] at hrow ⊢
     exact hrow
   ·simp only [E',if_true] at hn ⊢
    refine ⟨.inl (Nat.le_trans hs0 (hbs hn).1),fun x hx hA=>?_⟩
    have hx:ls.length≤x:=hx
    rcases hA with hA | hA | ⟨_,_,h3⟩
    ·have:=h.foot _ _ hA;have:=(hbs hn).1;omega
    ·exact hfree hn x hx hA
    ·omega
  ·obtain ⟨g1,g2⟩:=h.boxes j e1 hj'
   refine ⟨?_,fun hn=>?_⟩
   ·have g3:=HE.ok_grow hle (HE.ok_keep hk (fun hn=>hb.block _ (HE.ok_lt g1 hn)) g1)
    unfold HE.ok at g3 ⊢
    simp only [E',if_neg hij] at g3 ⊢
    exact g3
   ·simp only [E',if_neg hij] at hn ⊢
    refine ⟨(g2 hn).1,fun x hx hA=>?_⟩
    have hlt:=HE.ok_lt g1 hn
    rcases hA with hA | hA | ⟨h1,h2,_⟩
    ·exact (g2 hn).2 x hx hA
    ·rcases hA' _ _ hA with hA | hA
     ·exact (g2 hn).2 x hx hA
     ·omega
    ·have:=(hbs h1).1;omega
 ·have old:∀ (j:Nat) (e:HE),j≠i→(H.set i (some ⟨u,ls,some sz,some (.inr (ls.length,some 0))⟩))[j]? = some (some e)→E.nil j = false→E.b j < w.heap.size:=by
   intro j e hj hje hn
   rcases back j e hje with ⟨h1,_⟩ | ⟨_,h2⟩
   ·exact absurd h1 hj
   ·exact HE.ok_lt (h.boxes j e h2).1 hn
  intro j1 j2 e1 e2 g1 g2 n1 n2 h12
  by_cases h1:j1 = i
  ·have h2:j2≠i:=fun e=>h12 (h1.trans e.symm)
   simp only [E',if_neg h2,if_pos h1] at n1 n2 ⊢
   have:=old j2 e2 h2 g2 n2
   have:=(hbs n1).1
   omega
  ·by_cases h2:j2 = i
   ·simp only [E',if_neg h1,if_pos h2] at n1 n2 ⊢
    have:=old j1 e1 h1 g1 n1
    have:=(hbs n2).1
    omega
   ·simp only [E',if_neg h1,if_neg h2] at n1 n2 ⊢
    rcases back j1 e1 g1 with ⟨q,_⟩ | ⟨_,g1'⟩
    ·exact absurd q h1
    ·rcases back j2 e2 g2 with ⟨q,_⟩ | ⟨_,g2'⟩
     ·exact absurd q h2
     ·exact h.apart j1 j2 e1 e2 g1' g2' n1 n2 h12
 ·intro j e1 m hj hm
  rcases back j e1 hj with ⟨rfl,rfl⟩ | ⟨hij,hj'⟩
  ·obtain ⟨k',hm⟩:=hm
   simp only [Option.some.injEq,Sum.inr.injEq,Prod.mk.injEq] at hm
   obtain ⟨_,rfl⟩:=hm
   refine ⟨?_,fun m' hm'=>?_,fun hn x hx=>?_⟩
   ·show (if j = j∧0 = 0 then some v else E.A.g j 0) = _
    rw [if_pos ⟨rfl,rfl⟩]
    simp only [HE.name,E',if_true]
    rw [hname]
   ·show (if j = j∧m' = 0 then some v else E.A.g j m') = none
    rw [if_neg (fun e'=>by omega)]
    exact hg0 m'
   ·simp only [E',if_true] at hn ⊢
    exact .inr (.inr ⟨hn,rfl,hx⟩)
  ·obtain ⟨q1,q2,q3⟩:=h.kn j e1 m hj' hm
   refine ⟨?_,fun m' hm'=>?_,fun hn x hx=>?_⟩
   ·show (if j = i∧m = 0 then some v else E.A.g j m) = _
    rw [if_neg (fun e'=>hij e'.1),q1]
    unfold HE.name
    simp only [E',if_neg hij]
   ·show (if j = i∧m' = 0 then some v else E.A.g j m') = none
    rw [if_neg (fun e'=>hij e'.1)]
    exact q2 m' hm'
   ·simp only [E',if_neg hij] at hn ⊢
    exact .inl (q3 hn x hx)
 ·intro j m x hg
  by_cases hj:j = i
  ·subst hj
   exact ⟨_,_,0,List.getElem?_set_self hil,rfl⟩
  ·have hg:(if j = i∧m = 0 then some v else E.A.g j m) = some x:=hg
   rw [if_neg (fun e'=>hj e'.1)] at hg
   obtain ⟨e1,k1,n1,q1,q2⟩:=h.gd j m x hg
   exact ⟨e1,k1,n1,by rw [List.getElem?_set_ne (fun e=>hj e.symm)];exact q1,q2⟩
end
section
variable {P:Program} {ops:Array Oper} {o:Oper} {Γ:Gam} {H:Hp}
theorem Je_callG {f i u sz:Nat} {args:Array Operand} {tys:Array TypeId} {xs:List V} {ls:List Leaf} (ho:o.op = .call { callee:=.value (.func f),args:=args,argTypes:=tys }) (hf:FnOk P f)
  (hx:argsD Γ args.toList = some xs) (hspec:CtrG P f u sz ls xs) (hsz:0 < sz) (hi:H[i]? = some none) (hcl:clL ls = true:=by first | rfl | exact El.all_cl _ _) (hcx:clVs xs = true:=by rfl) :
  Je P ops o Γ H (some (D.v (V.one (Leaf.own i 0)))) (H.set i (some ⟨u,ls,some sz,some (.inr (ls.length,some 0))⟩)):=by
 intro w0 A0 N Γ2 a w Q K hs hN hSt hK
 obtain ⟨E,hG⟩:=hSt
 obtain ⟨fn,hfn,hb,hn⟩:=hf
 have hargs:=argsD_spec (Γ:=Γ) (E:=E) (a:=a) (w:=w) args.toList xs (fun x hx d hd=>(op_at hs hG (x:=x) (by rw [ho];simp [Op.operands,Call.operands];exact .inr (by simpa using hx)) hd).2) hx
 have hrun:(execOp a.eval o).run P w = .ok (.enter f (args.map a.eval)) w:=by
  have hn':¬ fn.name = "runtime.NumGoroutine":=by simpa using hn
  have hb':¬ fn.body = none:=by intro e;rw [e] at hb;simp at hb
  simp [execOp,ho,resolve,Deferred.ofValue,invoke,callFunc,hfn,hn',hb',Act.eval]
 unfold Oper.wp
 rw [hrun,Oper.upon_enter]
 have hc:=hspec w (args.map a.eval).toList E.A.c hG.below.now hG.foot (by have:=hargs.pure hcx;simpa using this)
 rw [show (args.map a.eval).toList.toArray = args.map a.eval from Array.toArray_toList] at hc
 refine Calls.mono hc ?_
 rintro e w' ⟨v,rfl,hh,hbel⟩
 obtain ⟨E',hG',hg,hone⟩:=hG.adoptG hbel hi hh hcl hsz
 exact hK _ _ ⟨E',hG'.put (fun d hd=>by cases hd;exact ⟨trivial,hg,hone⟩) hN⟩
theorem Jd_callG {f i u sz:Nat} {args:Array Operand} {tys:Array TypeId} {xs:List V} {ls:List Leaf} (ho:o.op = .call { callee:=.value (.func f),args:=args,argTypes:=tys }) (hf:FnOk P f)
  (hx:argsD Γ args.toList = some xs) (hspec:CtrG P f u sz ls xs) (hsz:0 < sz) (hi:H[i]? = some none) (hcl:clL ls = true:=by first | rfl | exact El.all_cl _ _) (hcx:clVs xs = true:=by rfl) :
  ∀ H2:Hp,H2[i]? = H[i]?→Je P ops o Γ H2 (some (D.v (V.one (Leaf.own i 0)))) (H2.set i (some ⟨u,ls,some sz,some (.inr (ls.length,some 0))⟩)):=fun _ hH=>Je_callG ho hf hx hspec hsz (hH.trans hi) hcl hcx
end
end Rc
set_option linter.unusedSimpArgs false
set_option linter.unusedVariables false
namespace Rc
open Go Go.RowKit
@[reducible] def ifV (t:Nat) (cs:List Value):Value:=.iface t (.agg cs.toArray)
def isIf (P:Program) (t:Nat):Bool:=match P.underlying t with | some (.interface _)=>true | _=>false
theorem isIf_ex {P:Program} {t:Nat} (h:isIf P t = true):∃ ms,P.underlying t = some (.interface ms):=by
 unfold isIf at h
 split at h
 ·exact ⟨_,by assumption⟩
 ·simp at h
theorem run_eqif {P:Program} {w:World} {t tx:Nat} {vx:Value} (hu:isIf P t = true) (d:Nat):(Op.equalIn (d + 1) t (.iface tx vx) .nilIface).run P w = .ok false w:=by
 obtain ⟨ms,hu⟩:=isIf_ex hu
 rw [Op.equalIn];simp [run_underlying hu]
section
variable {P:Program} {ops:Array Oper} {X:List Nat} {o:Oper} {Γ:Gam} {H:Hp} {t u:Nat} {x y:Operand}
theorem Jq_eql_if {tx:Nat} {vx:Value} (ho:o.op = .binOp .eql t x y u) (hx:opD Γ x = some (D.val (.iface tx vx))) (hy:opD Γ y = some (D.val .nilIface)) (h:isIf P t = true):Jq P ops X o Γ H (D.bool false):=by
 intro w0 A0 N Γ2 H2 E a w hs hX hG
 have e1:=op_val hs hG (x:=x) (by rw [ho];simp [Op.operands]) hx
 have e2:=op_val hs hG (x:=y) (by rw [ho];simp [Op.operands]) hy
 have:=run_eqif (tx:=tx) (vx:=vx) (w:=w) h 9999
 refine ⟨trivial,.bool false,?_,rfl,rfl⟩
 simp [execOp,ho,e1,e2,eqGuard,binOp,Op.equal,Op.maxDepth,this]
end
theorem At_retI0 {P:Program} {ops:Array Oper} {Q:Exit→Act→World→Prop} {w0:Frm} {A0:Foot} {N:Nat} {Γ:Gam} {H:Hp} {rest:List Oper} {dst:Option Nat} {a1:Act} {Nc:Nat} {fn:Func} (Γo:Gam)
  (hd:a1.defers = []) (hs:a1.tmps.size = N) (hN:dstOk N dst = true) (hr:fn.results = #[]) (hk:knownU Γ Γo) (hc:Tl P ops Q w0 A0 N (putG Γo dst (some (D.tup []))) H rest) :
  At (bodyPost P fn (fun e w'=>∃ v,e = .returned v∧wpList P ops Q rest (a1.put dst v) w')) (w0.into a1) A0 Nc Γ H .normal:=by
 intro a w hSt
 obtain ⟨E,hG⟩:=hSt
 refine ⟨hG.defers,.tuple #[],?_,_,rfl,hc _ _ ⟨E,(hG.leave hd hs hk).put (fun x hx=>by cases hx;exact ⟨trivial,[],rfl,trivial⟩) hN⟩⟩
 rw [results_eq,hr];simp
end Rc
set_option linter.unusedSimpArgs false
set_option linter.unusedVariables false
namespace Rc
open Go Go.RowKit
structure FTab where
 fo:List ((Nat × Nat) × Nat × Nat)
 ty:List (Nat × Bool × Nat)
def allP {α:Type} (p:α→Prop):List α→Prop
 | []=>True
 | a :: l=>p a∧allP p l
structure FTab.Ok (P:Program) (F:FTab):Prop where
 fo:allP (fun e=>fieldAtOff P e.1.1 e.1.2 = some e.2) F.fo
 ty:allP (fun e=>TyIs P e.1 e.2.1 e.2.2) F.ty
def get1 {β:Type} (k:Nat):List (Nat × β)→Option β
 | []=>none
 | (a,b) :: l=>bif Nat.beq a k then some b else get1 k l
def get2 {β:Type} (k j:Nat):List ((Nat × Nat) × β)→Option β
 | []=>none
 | ((a,c),b) :: l=>bif Nat.beq a k && Nat.beq c j then some b else get2 k j l
theorem get1_ok {β:Type} {p:Nat × β→Prop} {k:Nat} {b:β}:∀ {l:List (Nat × β)},allP p l→get1 k l = some b→p (k,b)
 | [],_,h=>by simp [get1] at h
 | (a,c) :: l,hp,h=>by
  unfold get1 at h
  cases hb:Nat.beq a k
  ·rw [hb] at h;exact get1_ok hp.2 h
  ·rw [hb] at h
   have:=Nat.eq_of_beq_eq_true hb
   simp only [cond_true,Option.some.injEq] at h
   subst this;subst h;exact hp.1
theorem get2_ok {β:Type} {p:(Nat × Nat) × β→Prop} {k j:Nat} {b:β}:∀ {l:List ((Nat × Nat) × β)},allP p l→get2 k j l = some b→p ((k,j),b)
 | [],_,h=>by simp [get2] at h
 | ((a,c),d) :: l,hp,h=>by
  unfold get2 at h
  cases hb:(Nat.beq a k && Nat.beq c j)
  ·rw [hb] at h;exact get2_ok hp.2 h
  ·rw [hb] at h
   rw [Bool.and_eq_true] at hb
   have h1:=Nat.eq_of_beq_eq_true hb.1
   have h2:=Nat.eq_of_beq_eq_true hb.2
   simp only [cond_true,Option.some.injEq] at h
   subst h1;subst h2;subst h;exact hp.1
def nnil:Operand→Bool
 | .const (.slice none _ _)=>false
 | _=>true
def ldD (F:FTab) (X:List Nat) (H:Hp) (t i off:Nat):Option D:=
 bif X.contains i then none else
 match H[i]? with
 | some (some e)=>
  match get1 t F.ty with
  | some (true,n)=>bif Nat.blt 0 n && Nat.ble (off + n) e.ls.length then some (D.agg ((e.ls.drop off).take n)) else none
  | some (false,n)=>
   match e.ls[off]? with
   | some l=>bif Nat.beq n 1 then some (D.v (V.one l)) else none
   | none=>none
  | none=>none
 | _=>none
def stepD (F:FTab) (X:List Nat) (Γ:Gam) (H:Hp):Op→Option D
 | .move x=>bif nnil x then opD Γ x else none
 | .assign x=>bif nnil x then opD Γ x else none
 | .extract x i=>
  match opD Γ x with
  | some (.inr (.inl xs))=>match xs[i]? with
   | some y=>some (.inl y)
   | none=>none
  | _=>none
 | .pick c x y=>
  match opD Γ c with
  | some (.inl (.inl (.inl (.bool b))))=>match b with
   | true=>opD Γ x
   | false=>opD Γ y
  | _=>none
 | .unOp .not _ x=>
  match opD Γ x with
  | some (.inl (.inl (.inl (.bool b))))=>some (D.bool (!b))
  | _=>none
 | .fieldAddr s x f=>
  match opD Γ x with
  | some (.inr (.inr (.inl (i,off))))=>match get2 s f F.fo with
   | some (fo,sz)=>bif Nat.beq sz 0 then none else some (D.ptr i (off + fo))
   | none=>none
  | _=>none
 | .load t x=>
  match opD Γ x with
  | some (.inr (.inr (.inl (i,off))))=>ldD F X H t i off
  | _=>none
 | .nilCheck x=>
  match opD Γ x with
  | some (.inr (.inr (.inl (i,off))))=>some (D.ptr i off)
  | _=>none
 | _=>none
section
variable {P:Program} {ops:Array Oper} {X:List Nat} {o:Oper} {Γ:Gam} {H:Hp} {F:FTab}
theorem ldD_ok (hF:F.Ok P) {t i off:Nat} {x:Operand} {d:D} (ho:o.op = .load t x) (hx:opD Γ x = some (D.ptr i off)) (h:ldD F X H t i off = some d):Jq P ops X o Γ H d:=by
 unfold ldD at h
 cases hc:X.contains i
 ·rw [hc] at h
  have hXi:i ∉ X:=fun hm=>by rw [List.contains_iff_mem.2 hm] at hc;simp at hc
  simp only [cond_false] at h
  split at h
  ·rename_i e hi
   split at h
   ·rename_i n ht
    have ht:TyIs P t true n:=get1_ok hF.ty ht
    cases hn:(Nat.blt 0 n && Nat.ble (off + n) e.ls.length)
    ·rw [hn] at h;simp at h
    ·rw [hn] at h
     simp only [cond_true,Option.some.injEq] at h
     simp only [Bool.and_eq_true,Nat.blt_eq,Nat.ble_eq] at hn
     subst h
     exact Jq_load_agg ho hx hi hXi ht hn.1 hn.2 rfl
   ·rename_i n ht
    have ht:TyIs P t false n:=get1_ok hF.ty ht
    split at h
    ·rename_i l hl
     cases hn:Nat.beq n 1
     ·rw [hn] at h;simp at h
     ·rw [hn] at h
      simp only [cond_true,Option.some.injEq] at h
      subst h
      have:=Nat.eq_of_beq_eq_true hn
      subst this
      exact Jq_load ho hx hi hXi ht hl
    ·simp at h
   ·simp at h
  ·simp at h
 ·rw [hc] at h;simp at h
theorem stepD_ok (hF:F.Ok P) {d:D} (h:stepD F X Γ H o.op = some d):Jq P ops X o Γ H d:=by
 generalize hop:o.op = op at h
 unfold stepD at h
 split at h
 ·rename_i x
  cases hn:nnil x
  ·rw [hn] at h;simp at h
  ·rw [hn] at h;exact Jq_move hop h
 ·rename_i x
  cases hn:nnil x
  ·rw [hn] at h;simp at h
  ·rw [hn] at h;exact Jq_assign hop h
 ·split at h
  ·rename_i xs hx
   split at h
   ·rename_i y hy
    simp only [Option.some.injEq] at h
    subst h
    exact Jq_extract hop hx hy
   ·simp at h
  ·simp at h
 ·split at h
  ·rename_i b hc
   split at h
   ·exact Jq_pick_t hop hc h
   ·exact Jq_pick_f hop hc h
  ·simp at h
 ·split at h
  ·rename_i b hx
   simp only [Option.some.injEq] at h
   subst h
   exact Jq_not hop hx rfl
  ·simp at h
 ·split at h
  ·rename_i i off hx
   split at h
   ·rename_i fo sz hf
    have hf:=get2_ok hF.fo hf
    cases hz:Nat.beq sz 0
    ·rw [hz] at h
     simp only [cond_false,Option.some.injEq] at h
     subst h
     exact Jq_fieldAddr hop hx hf hz
    ·rw [hz] at h;simp at h
   ·simp at h
  ·simp at h
 ·split at h
  ·rename_i i off hx
   exact ldD_ok hF hop hx h
  ·simp at h
 ·split at h
  ·rename_i i off hx
   simp only [Option.some.injEq] at h
   subst h
   exact Jq_nilCheck hop hx
  ·simp at h
 ·simp at h
def stepF (F:FTab) (Γ:Gam) (H:Hp):Op→Option Hp
 | .store t x y=>
  match opD Γ x with
  | some (.inr (.inr (.inl (i,off))))=>match opD Γ y with
   | some (.inl v)=>match H[i]? with
    | some (some e)=>match get1 t F.ty with
     | some (b,n)=>bif Nat.beq v.leaves.length n && (Nat.blt 0 n && (Nat.ble (off + n) e.ls.length && Nat.beq e.fz 0)) then some (H.set i (some ⟨e.t,splice e.ls off v.leaves,e.row,e.pin⟩)) else none
     | none=>none
    | _=>none
   | _=>none
  | _=>none
 | _=>none
theorem stepF_ok (hF:F.Ok P) {H':Hp} (h:stepF F Γ H o.op = some H'):Je P ops o Γ H none H':=by
 generalize hop:o.op = op at h
 unfold stepF at h
 split at h
 ·split at h
  ·rename_i i off hx
   split at h
   ·rename_i v hy
    split at h
    ·rename_i e hi
     split at h
     ·rename_i b n ht
      have ht:=get1_ok hF.ty ht
      cases hc:(Nat.beq v.leaves.length n && (Nat.blt 0 n && (Nat.ble (off + n) e.ls.length && Nat.beq e.fz 0)))
      ·rw [hc] at h;simp at h
      ·rw [hc] at h
       simp only [cond_true,Option.some.injEq] at h
       simp only [Bool.and_eq_true,Nat.blt_eq,Nat.ble_eq,Nat.beq_eq] at hc
       subst h
       exact Je_store hop hx hy hi ht hc.1 hc.2.1 hc.2.2.1 rfl hc.2.2.2
     ·simp at h
    ·simp at h
   ·simp at h
  ·simp at h
 ·simp at h
def gst (ops:Array Oper) (Γ:Gam) (o:Oper):Option Bool:=
 match o.guard with
 | none=>some true
 | some (j,want)=>match (ops[j]?).bind (·.dst) with
  | some s=>match lookT Γ s with
   | some (.inl (.inl (.inl (.bool b))))=>match b with
    | true=>some want
    | false=>some (!want)
   | some (.inr (.inl []))=>some false
   | _=>none
  | none=>none
theorem gst_t {d:Option D} {H':Hp} (h:gst ops Γ o = some true) (hj:o.guard = none→JO P ops X o Γ H d H') (hg:∀ {j s:Nat} {want:Bool},o.guard = some (j,want)→(ops[j]?).bind (·.dst) = some s→lookT Γ s = some (D.bool want)→JO P ops X o Γ H d H'):JO P ops X o Γ H d H':=by
 unfold gst at h
 split at h
 ·rename_i hn;exact hj hn
 ·rename_i j want hgd
  split at h
  ·rename_i s hs
   split at h
   ·rename_i b hb
    split at h
    ·simp only [Option.some.injEq] at h;subst h;exact hg hgd hs hb
    ·simp only [Option.some.injEq] at h
     have:want = false:=by cases want <;> simp_all
     subst this;exact hg hgd hs hb
   ·simp at h
   ·simp at h
  ·simp at h
theorem gst_f (h:gst ops Γ o = some false):JO P ops X o Γ H (some (D.tup [])) H:=by
 unfold gst at h
 split at h
 ·simp at h
 ·rename_i j want hgd
  split at h
  ·rename_i s hs
   split at h
   ·rename_i b hb
    split at h
    ·simp only [Option.some.injEq] at h;subst h;exact JO_skip hgd hs hb
    ·simp only [Option.some.injEq] at h
     have:want = true:=by cases want <;> simp_all
     subst this;exact JO_skip hgd hs hb
   ·rename_i hb;exact JO_skipU hgd hs hb
   ·simp at h
  ·simp at h
def step1 (F:FTab) (N:Nat) (ops:Array Oper) (Γ:Gam) (H:Hp) (o:Oper):Option (Gam × Hp):=
 bif dstOk N o.dst then
  match gst ops Γ o with
  | some true=>
   bif isEff o then
    match o.guard with
    | none=>match stepF F Γ H o.op with
     | some H'=>some (putG Γ o.dst none,H')
     | none=>none
    | some _=>none
   else
    match stepD F [] Γ H o.op with
    | some d=>some (putG Γ o.dst (some d),H)
    | none=>none
  | some false=>some (putG Γ o.dst (some (D.tup [])),H)
  | none=>none
 else none
def steps (F:FTab) (N:Nat) (ops:Array Oper):Nat→Gam→Hp→List Oper→Option (Gam × Hp × List Oper)
 | 0,Γ,H,l=>some (Γ,H,l)
 | _ + 1,_,_,[]=>none
 | k + 1,Γ,H,o :: l=>match step1 F N ops Γ H o with
  | some (Γ',H')=>steps F N ops k Γ' H' l
  | none=>none
theorem step1_ok {Q:Exit→Act→World→Prop} {w0:Frm} {A0:Foot} {N:Nat} {Γ':Gam} {H':Hp} {l:List Oper} (hF:F.Ok P) (h:step1 F N ops Γ H o = some (Γ',H')) (hr:Tl P ops Q w0 A0 N Γ' H' l):Tl P ops Q w0 A0 N Γ H (o :: l):=by
 unfold step1 at h
 cases hd:dstOk N o.dst
 ·rw [hd] at h;simp at h
 ·rw [hd] at h
  simp only [cond_true] at h
  split at h
  ·rename_i hg
   cases he:isEff o
   ·rw [he] at h
    simp only [cond_false] at h
    split at h
    ·rename_i d hq
     simp only [Option.some.injEq,Prod.mk.injEq] at h
     obtain ⟨rfl,rfl⟩:=h
     have hq:=stepD_ok (ops:=ops) hF hq
     exact Tl_q (gst_t hg (fun hn=>JO_q hn he hq) (fun h1 h2 h3=>JO_qg h1 h2 h3 he hq)) hd hr
    ·simp at h
   ·rw [he] at h
    simp only [cond_true] at h
    split at h
    ·rename_i hn
     split at h
     ·rename_i H2 hf
      simp only [Option.some.injEq,Prod.mk.injEq] at h
      obtain ⟨rfl,rfl⟩:=h
      exact Tl_e (JO_e hn he (stepF_ok hF hf)) he hd hr
     ·simp at h
    ·simp at h
  ·rename_i hg
   simp only [Option.some.injEq,Prod.mk.injEq] at h
   obtain ⟨rfl,rfl⟩:=h
   exact Tl_q (gst_f hg) hd hr
  ·simp at h
theorem a_ {Q:Exit→Act→World→Prop} {w0:Frm} {A0:Foot} {N:Nat} {Γ':Gam} {H':Hp} {l l':List Oper} (hF:F.Ok P) (k:Nat) (h:steps F N ops k Γ H l = some (Γ',H',l')) (hr:Tl P ops Q w0 A0 N Γ' H' l'):Tl P ops Q w0 A0 N Γ H l:=by
 induction k generalizing Γ H l with
 | zero=>
  simp only [steps,Option.some.injEq,Prod.mk.injEq] at h
  obtain ⟨rfl,rfl,rfl⟩:=h
  exact hr
 | succ k ih=>
  cases l with
  | nil=>simp [steps] at h
  | cons o l=>
   simp only [steps] at h
   split at h
   ·rename_i Γ2 H2 hs
    exact step1_ok hF hs (ih h)
   ·simp at h
def stepsK (F:FTab) (X:List Nat) (H:Hp) (ops:Array Oper):Nat→Gam→List Oper→Option (Gam × List Oper)
 | 0,Γ,l=>some (Γ,l)
 | _ + 1,_,[]=>none
 | k + 1,Γ,o :: l=>match gst ops Γ o with
  | some true=>bif isEff o then none else match stepD F X Γ H o.op with
   | some d=>stepsK F X H ops k (putG Γ o.dst (some d)) l
   | none=>none
  | some false=>stepsK F X H ops k (putG Γ o.dst (some (D.tup []))) l
  | none=>none
theorem DK_no {tl:List (Option Nat)} {n:Nat} {os:List Oper} {K:Gam→Hp→Prop} (h:gst ops Γ o = some false) (hr:DKn P ops tl X (n + 1) os (putG Γ o.dst (some (D.tup []))) H K):DKn P ops tl X n (o :: os) Γ H K:=by
 unfold gst at h
 split at h
 ·simp at h
 ·rename_i j want hgd
  split at h
  ·rename_i s hs
   split at h
   ·rename_i b hb
    split at h
    ·simp only [Option.some.injEq] at h;subst h;exact DK_skip hgd hs hb hr
    ·simp only [Option.some.injEq] at h
     have:want = true:=by cases want <;> simp_all
     subst this;exact DK_skip hgd hs hb hr
   ·rename_i hb;exact DK_skipU hgd hs hb hr
   ·simp at h
  ·simp at h
theorem d_ {tl:List (Option Nat)} {n:Nat} {l l':List Oper} {Γ':Gam} {K:Gam→Hp→Prop} (hF:F.Ok P) (k:Nat) (h:stepsK F X H ops k Γ l = some (Γ',l')) (hr:DKn P ops tl X (n + k) l' Γ' H K):DKn P ops tl X n l Γ H K:=by
 induction k generalizing Γ l n with
 | zero=>
  simp only [stepsK,Option.some.injEq,Prod.mk.injEq] at h
  obtain ⟨rfl,rfl⟩:=h
  exact hr
 | succ k ih=>
  have hr:DKn P ops tl X (n + 1 + k) l' Γ' H K:=by rw [Nat.add_right_comm];exact hr
  cases l with
  | nil=>simp [stepsK] at h
  | cons o l=>
   simp only [stepsK] at h
   split at h
   ·rename_i hg
    cases he:isEff o
    ·rw [he] at h
     simp only [cond_false] at h
     split at h
     ·rename_i d hq
      have hq:=stepD_ok (ops:=ops) hF hq
      exact DK_q (gst_t hg (fun hn=>JO_q hn he hq) (fun h1 h2 h3=>JO_qg h1 h2 h3 he hq)) (ih h hr) he
     ·simp at h
    ·rw [he] at h;simp at h
   ·rename_i hg
    exact DK_no hg (ih h hr)
   ·simp at h
theorem hq_ {α β:Type} {p:α→β→Prop}:∀ a w,p a w→p a w:=fun _ _ h=>h
theorem rA {s t i n:Nat} {e:HE} {x:V} (ht:TyIs P t true n) (hs:lookT Γ s = some (D.ptr i 0)) (hi:H[i]? = some (some e)) (hn:(Nat.beq e.ls.length n && Nat.blt 0 n) = true) (hx:x = V.agg e.ls):resOk P Γ H (.cell s t) x:=by
 simp only [Bool.and_eq_true,Nat.beq_eq,Nat.blt_eq] at hn
 obtain ⟨rfl,h2⟩:=hn
 exact ⟨i,e,hs,hi,.inl ⟨ht,h2,hx⟩⟩
@[reducible] def hb_ (t:Nat) (ls:List Leaf):Option HE:=some ⟨t,ls,none,none⟩
@[reducible] def hbq (t:Nat) (ls:List Leaf) (q:Nat):Option HE:=some ⟨t,ls,none,some (.inl q)⟩
@[reducible] def hgr {α:Type} (t sz:Nat) (e:El α) (l:List α) (n:Nat):Option HE:=some ⟨t,e.all l,some sz,some (.inr ((e.all l).length,some n))⟩
theorem cna {Q:Exit→Act→World→Prop} {w0:Frm} {A0:Foot} {N:Nat} {id:Nat} {l:List Oper} {y:Code} (h:Tl P l.toArray (Exit.then (y.wp P Q) Q) w0 A0 N Γ H l):Tl P ops (Exit.then ((Code.seq (.region id l.toArray false) y).wp P Q) Q) w0 A0 N Γ H []:=c_n (c_a h)
theorem cns {Q:Exit→Act→World→Prop} {w0:Frm} {A0:Foot} {N:Nat} {x y:Code} (h:Tc P (Exit.then (y.wp P Q) Q) w0 A0 N Γ H x):Tl P ops (Exit.then ((Code.seq x y).wp P Q) Q) w0 A0 N Γ H []:=c_n (Tc_seq h)
theorem trim_ {Q:Exit→Act→World→Prop} {w0:Frm} {A0:Foot} {N:Nat} {ex:Exit} (n:Nat) (hn:(H.drop n).all Option.isNone = true) (h:At Q w0 A0 N Γ (H.take n) ex):At Q w0 A0 N Γ H ex:=by
 refine At_trim (H.take n) (H.drop n).length ?_ h
 have:H.drop n = List.replicate (H.drop n).length none:=by
  refine List.eq_replicate_iff.2 ⟨rfl,fun b hb=>?_⟩
  have:=List.all_eq_true.1 hn b hb
  exact Option.isNone_iff_eq_none.1 this
 rw [← this,List.take_append_drop]
end
end Rc
namespace Go.Proofs.YtjdbopkbfkgpdaaGreatDoor
open Go Rc
theorem follows:Tryz.prog.follows .mixedOrders = true:=by kernel_rfl
theorem fn10:FnOk Tryz.prog 10:=⟨_,Tryz.func10,by kernel_rfl,by kernel_rfl⟩
theorem fn11:FnOk Tryz.prog 11:=⟨_,Tryz.func11,by kernel_rfl,by kernel_rfl⟩
theorem fn12:FnOk Tryz.prog 12:=⟨_,Tryz.func12,by kernel_rfl,by kernel_rfl⟩
theorem fn14:FnOk Tryz.prog 14:=⟨_,Tryz.func14,by kernel_rfl,by kernel_rfl⟩
theorem fn19:FnOk Tryz.prog 19:=⟨_,Tryz.func19,by kernel_rfl,by kernel_rfl⟩
theorem fn20:FnOk Tryz.prog 20:=⟨_,Tryz.func20,by kernel_rfl,by kernel_rfl⟩
theorem fn21:FnOk Tryz.prog 21:=⟨_,Tryz.func21,by kernel_rfl,by kernel_rfl⟩
theorem fn22:FnOk Tryz.prog 22:=⟨_,Tryz.func22,by kernel_rfl,by kernel_rfl⟩
theorem fn24:FnOk Tryz.prog 24:=⟨_,Tryz.func24,by kernel_rfl,by kernel_rfl⟩
theorem fn26:FnOk Tryz.prog 26:=⟨_,Tryz.func26,by kernel_rfl,by kernel_rfl⟩
theorem fn27:FnOk Tryz.prog 27:=⟨_,Tryz.func27,by kernel_rfl,by kernel_rfl⟩
theorem fn28:FnOk Tryz.prog 28:=⟨_,Tryz.func28,by kernel_rfl,by kernel_rfl⟩
theorem fn31:FnOk Tryz.prog 31:=⟨_,Tryz.func31,by kernel_rfl,by kernel_rfl⟩
theorem fn33:FnOk Tryz.prog 33:=⟨_,Tryz.func33,by kernel_rfl,by kernel_rfl⟩
theorem fn34:FnOk Tryz.prog 34:=⟨_,Tryz.func34,by kernel_rfl,by kernel_rfl⟩
theorem fn35:FnOk Tryz.prog 35:=⟨_,Tryz.func35,by kernel_rfl,by kernel_rfl⟩
theorem fn36:FnOk Tryz.prog 36:=⟨_,Tryz.func36,by kernel_rfl,by kernel_rfl⟩
theorem fn37:FnOk Tryz.prog 37:=⟨_,Tryz.func37,by kernel_rfl,by kernel_rfl⟩
theorem fn38:FnOk Tryz.prog 38:=⟨_,Tryz.func38,by kernel_rfl,by kernel_rfl⟩
theorem fn40:FnOk Tryz.prog 40:=⟨_,Tryz.func40,by kernel_rfl,by kernel_rfl⟩
theorem fn41:FnOk Tryz.prog 41:=⟨_,Tryz.func41,by kernel_rfl,by kernel_rfl⟩
theorem fn42:FnOk Tryz.prog 42:=⟨_,Tryz.func42,by kernel_rfl,by kernel_rfl⟩
theorem fn43:FnOk Tryz.prog 43:=⟨_,Tryz.func43,by kernel_rfl,by kernel_rfl⟩
theorem fn44:FnOk Tryz.prog 44:=⟨_,Tryz.func44,by kernel_rfl,by kernel_rfl⟩
theorem fn45:FnOk Tryz.prog 45:=⟨_,Tryz.func45,by kernel_rfl,by kernel_rfl⟩
theorem fn46:FnOk Tryz.prog 46:=⟨_,Tryz.func46,by kernel_rfl,by kernel_rfl⟩
theorem fn48:FnOk Tryz.prog 48:=⟨_,Tryz.func48,by kernel_rfl,by kernel_rfl⟩
theorem fn49:FnOk Tryz.prog 49:=⟨_,Tryz.func49,by kernel_rfl,by kernel_rfl⟩
theorem fn50:FnOk Tryz.prog 50:=⟨_,Tryz.func50,by kernel_rfl,by kernel_rfl⟩
theorem fn51:FnOk Tryz.prog 51:=⟨_,Tryz.func51,by kernel_rfl,by kernel_rfl⟩
theorem fn52:FnOk Tryz.prog 52:=⟨_,Tryz.func52,by kernel_rfl,by kernel_rfl⟩
theorem fn53:FnOk Tryz.prog 53:=⟨_,Tryz.func53,by kernel_rfl,by kernel_rfl⟩
theorem fn56:FnOk Tryz.prog 56:=⟨_,Tryz.func56,by kernel_rfl,by kernel_rfl⟩
theorem fn57:FnOk Tryz.prog 57:=⟨_,Tryz.func57,by kernel_rfl,by kernel_rfl⟩
theorem fn58:FnOk Tryz.prog 58:=⟨_,Tryz.func58,by kernel_rfl,by kernel_rfl⟩
theorem fn59:FnOk Tryz.prog 59:=⟨_,Tryz.func59,by kernel_rfl,by kernel_rfl⟩
theorem fn60:FnOk Tryz.prog 60:=⟨_,Tryz.func60,by kernel_rfl,by kernel_rfl⟩
theorem fn61:FnOk Tryz.prog 61:=⟨_,Tryz.func61,by kernel_rfl,by kernel_rfl⟩
theorem fn62:FnOk Tryz.prog 62:=⟨_,Tryz.func62,by kernel_rfl,by kernel_rfl⟩
theorem fn63:FnOk Tryz.prog 63:=⟨_,Tryz.func63,by kernel_rfl,by kernel_rfl⟩
theorem fn64:FnOk Tryz.prog 64:=⟨_,Tryz.func64,by kernel_rfl,by kernel_rfl⟩
theorem fn65:FnOk Tryz.prog 65:=⟨_,Tryz.func65,by kernel_rfl,by kernel_rfl⟩
theorem fn69:FnOk Tryz.prog 69:=⟨_,Tryz.func69,by kernel_rfl,by kernel_rfl⟩
theorem fn70:FnOk Tryz.prog 70:=⟨_,Tryz.func70,by kernel_rfl,by kernel_rfl⟩
theorem fn71:FnOk Tryz.prog 71:=⟨_,Tryz.func71,by kernel_rfl,by kernel_rfl⟩
theorem fn72:FnOk Tryz.prog 72:=⟨_,Tryz.func72,by kernel_rfl,by kernel_rfl⟩
theorem fn73:FnOk Tryz.prog 73:=⟨_,Tryz.func73,by kernel_rfl,by kernel_rfl⟩
theorem fn74:FnOk Tryz.prog 74:=⟨_,Tryz.func74,by kernel_rfl,by kernel_rfl⟩
theorem fn75:FnOk Tryz.prog 75:=⟨_,Tryz.func75,by kernel_rfl,by kernel_rfl⟩
theorem fn76:FnOk Tryz.prog 76:=⟨_,Tryz.func76,by kernel_rfl,by kernel_rfl⟩
theorem fn77:FnOk Tryz.prog 77:=⟨_,Tryz.func77,by kernel_rfl,by kernel_rfl⟩
theorem fn78:FnOk Tryz.prog 78:=⟨_,Tryz.func78,by kernel_rfl,by kernel_rfl⟩
theorem fn79:FnOk Tryz.prog 79:=⟨_,Tryz.func79,by kernel_rfl,by kernel_rfl⟩
theorem fn80:FnOk Tryz.prog 80:=⟨_,Tryz.func80,by kernel_rfl,by kernel_rfl⟩
theorem fn81:FnOk Tryz.prog 81:=⟨_,Tryz.func81,by kernel_rfl,by kernel_rfl⟩
theorem fn82:FnOk Tryz.prog 82:=⟨_,Tryz.func82,by kernel_rfl,by kernel_rfl⟩
theorem fn83:FnOk Tryz.prog 83:=⟨_,Tryz.func83,by kernel_rfl,by kernel_rfl⟩
theorem fn84:FnOk Tryz.prog 84:=⟨_,Tryz.func84,by kernel_rfl,by kernel_rfl⟩
theorem fn85:FnOk Tryz.prog 85:=⟨_,Tryz.func85,by kernel_rfl,by kernel_rfl⟩
theorem fn86:FnOk Tryz.prog 86:=⟨_,Tryz.func86,by kernel_rfl,by kernel_rfl⟩
theorem fn87:FnOk Tryz.prog 87:=⟨_,Tryz.func87,by kernel_rfl,by kernel_rfl⟩
theorem fn88:FnOk Tryz.prog 88:=⟨_,Tryz.func88,by kernel_rfl,by kernel_rfl⟩
theorem fn89:FnOk Tryz.prog 89:=⟨_,Tryz.func89,by kernel_rfl,by kernel_rfl⟩
theorem fn90:FnOk Tryz.prog 90:=⟨_,Tryz.func90,by kernel_rfl,by kernel_rfl⟩
theorem fn91:FnOk Tryz.prog 91:=⟨_,Tryz.func91,by kernel_rfl,by kernel_rfl⟩
theorem fn92:FnOk Tryz.prog 92:=⟨_,Tryz.func92,by kernel_rfl,by kernel_rfl⟩
theorem fn93:FnOk Tryz.prog 93:=⟨_,Tryz.func93,by kernel_rfl,by kernel_rfl⟩
theorem fn94:FnOk Tryz.prog 94:=⟨_,Tryz.func94,by kernel_rfl,by kernel_rfl⟩
theorem fn95:FnOk Tryz.prog 95:=⟨_,Tryz.func95,by kernel_rfl,by kernel_rfl⟩
theorem fn96:FnOk Tryz.prog 96:=⟨_,Tryz.func96,by kernel_rfl,by kernel_rfl⟩
theorem fn97:FnOk Tryz.prog 97:=⟨_,Tryz.func97,by kernel_rfl,by kernel_rfl⟩
theorem fn98:FnOk Tryz.prog 98:=⟨_,Tryz.func98,by kernel_rfl,by kernel_rfl⟩
theorem fn100:FnOk Tryz.prog 100:=⟨_,Tryz.func100,by kernel_rfl,by kernel_rfl⟩
theorem fn101:FnOk Tryz.prog 101:=⟨_,Tryz.func101,by kernel_rfl,by kernel_rfl⟩
theorem fn102:FnOk Tryz.prog 102:=⟨_,Tryz.func102,by kernel_rfl,by kernel_rfl⟩
theorem fn103:FnOk Tryz.prog 103:=⟨_,Tryz.func103,by kernel_rfl,by kernel_rfl⟩
theorem fn104:FnOk Tryz.prog 104:=⟨_,Tryz.func104,by kernel_rfl,by kernel_rfl⟩
theorem fn105:FnOk Tryz.prog 105:=⟨_,Tryz.func105,by kernel_rfl,by kernel_rfl⟩
theorem fn106:FnOk Tryz.prog 106:=⟨_,Tryz.func106,by kernel_rfl,by kernel_rfl⟩
theorem fn107:FnOk Tryz.prog 107:=⟨_,Tryz.func107,by kernel_rfl,by kernel_rfl⟩
theorem fn108:FnOk Tryz.prog 108:=⟨_,Tryz.func108,by kernel_rfl,by kernel_rfl⟩
theorem fn111:FnOk Tryz.prog 111:=⟨_,Tryz.func111,by kernel_rfl,by kernel_rfl⟩
theorem fn112:FnOk Tryz.prog 112:=⟨_,Tryz.func112,by kernel_rfl,by kernel_rfl⟩
theorem fn113:FnOk Tryz.prog 113:=⟨_,Tryz.func113,by kernel_rfl,by kernel_rfl⟩
theorem fn114:FnOk Tryz.prog 114:=⟨_,Tryz.func114,by kernel_rfl,by kernel_rfl⟩
theorem fn115:FnOk Tryz.prog 115:=⟨_,Tryz.func115,by kernel_rfl,by kernel_rfl⟩
theorem fn116:FnOk Tryz.prog 116:=⟨_,Tryz.func116,by kernel_rfl,by kernel_rfl⟩
theorem fn117:FnOk Tryz.prog 117:=⟨_,Tryz.func117,by kernel_rfl,by kernel_rfl⟩
theorem fn118:FnOk Tryz.prog 118:=⟨_,Tryz.func118,by kernel_rfl,by kernel_rfl⟩
theorem fn119:FnOk Tryz.prog 119:=⟨_,Tryz.func119,by kernel_rfl,by kernel_rfl⟩
theorem fn120:FnOk Tryz.prog 120:=⟨_,Tryz.func120,by kernel_rfl,by kernel_rfl⟩
theorem fn121:FnOk Tryz.prog 121:=⟨_,Tryz.func121,by kernel_rfl,by kernel_rfl⟩
theorem fn122:FnOk Tryz.prog 122:=⟨_,Tryz.func122,by kernel_rfl,by kernel_rfl⟩
theorem fn123:FnOk Tryz.prog 123:=⟨_,Tryz.func123,by kernel_rfl,by kernel_rfl⟩
theorem fn124:FnOk Tryz.prog 124:=⟨_,Tryz.func124,by kernel_rfl,by kernel_rfl⟩
theorem fn125:FnOk Tryz.prog 125:=⟨_,Tryz.func125,by kernel_rfl,by kernel_rfl⟩
theorem fn126:FnOk Tryz.prog 126:=⟨_,Tryz.func126,by kernel_rfl,by kernel_rfl⟩
theorem fn127:FnOk Tryz.prog 127:=⟨_,Tryz.func127,by kernel_rfl,by kernel_rfl⟩
theorem fn128:FnOk Tryz.prog 128:=⟨_,Tryz.func128,by kernel_rfl,by kernel_rfl⟩
theorem fn129:FnOk Tryz.prog 129:=⟨_,Tryz.func129,by kernel_rfl,by kernel_rfl⟩
theorem fn130:FnOk Tryz.prog 130:=⟨_,Tryz.func130,by kernel_rfl,by kernel_rfl⟩
theorem fn131:FnOk Tryz.prog 131:=⟨_,Tryz.func131,by kernel_rfl,by kernel_rfl⟩
theorem fn132:FnOk Tryz.prog 132:=⟨_,Tryz.func132,by kernel_rfl,by kernel_rfl⟩
theorem fn133:FnOk Tryz.prog 133:=⟨_,Tryz.func133,by kernel_rfl,by kernel_rfl⟩
theorem fn134:FnOk Tryz.prog 134:=⟨_,Tryz.func134,by kernel_rfl,by kernel_rfl⟩
theorem fn135:FnOk Tryz.prog 135:=⟨_,Tryz.func135,by kernel_rfl,by kernel_rfl⟩
theorem fn136:FnOk Tryz.prog 136:=⟨_,Tryz.func136,by kernel_rfl,by kernel_rfl⟩
theorem fn137:FnOk Tryz.prog 137:=⟨_,Tryz.func137,by kernel_rfl,by kernel_rfl⟩
theorem fn138:FnOk Tryz.prog 138:=⟨_,Tryz.func138,by kernel_rfl,by kernel_rfl⟩
theorem fn139:FnOk Tryz.prog 139:=⟨_,Tryz.func139,by kernel_rfl,by kernel_rfl⟩
theorem fn140:FnOk Tryz.prog 140:=⟨_,Tryz.func140,by kernel_rfl,by kernel_rfl⟩
theorem fn141:FnOk Tryz.prog 141:=⟨_,Tryz.func141,by kernel_rfl,by kernel_rfl⟩
theorem fn142:FnOk Tryz.prog 142:=⟨_,Tryz.func142,by kernel_rfl,by kernel_rfl⟩
theorem fn143:FnOk Tryz.prog 143:=⟨_,Tryz.func143,by kernel_rfl,by kernel_rfl⟩
theorem fn144:FnOk Tryz.prog 144:=⟨_,Tryz.func144,by kernel_rfl,by kernel_rfl⟩
theorem fn146:FnOk Tryz.prog 146:=⟨_,Tryz.func146,by kernel_rfl,by kernel_rfl⟩
theorem fn149:FnOk Tryz.prog 149:=⟨_,Tryz.func149,by kernel_rfl,by kernel_rfl⟩
theorem fn150:FnOk Tryz.prog 150:=⟨_,Tryz.func150,by kernel_rfl,by kernel_rfl⟩
theorem fn151:FnOk Tryz.prog 151:=⟨_,Tryz.func151,by kernel_rfl,by kernel_rfl⟩
theorem fn152:FnOk Tryz.prog 152:=⟨_,Tryz.func152,by kernel_rfl,by kernel_rfl⟩
theorem fn153:FnOk Tryz.prog 153:=⟨_,Tryz.func153,by kernel_rfl,by kernel_rfl⟩
theorem fn154:FnOk Tryz.prog 154:=⟨_,Tryz.func154,by kernel_rfl,by kernel_rfl⟩
theorem fn155:FnOk Tryz.prog 155:=⟨_,Tryz.func155,by kernel_rfl,by kernel_rfl⟩
theorem fn156:FnOk Tryz.prog 156:=⟨_,Tryz.func156,by kernel_rfl,by kernel_rfl⟩
theorem fn157:FnOk Tryz.prog 157:=⟨_,Tryz.func157,by kernel_rfl,by kernel_rfl⟩
theorem fn158:FnOk Tryz.prog 158:=⟨_,Tryz.func158,by kernel_rfl,by kernel_rfl⟩
theorem fn159:FnOk Tryz.prog 159:=⟨_,Tryz.func159,by kernel_rfl,by kernel_rfl⟩
theorem fn160:FnOk Tryz.prog 160:=⟨_,Tryz.func160,by kernel_rfl,by kernel_rfl⟩
theorem fn161:FnOk Tryz.prog 161:=⟨_,Tryz.func161,by kernel_rfl,by kernel_rfl⟩
theorem fn162:FnOk Tryz.prog 162:=⟨_,Tryz.func162,by kernel_rfl,by kernel_rfl⟩
theorem fn163:FnOk Tryz.prog 163:=⟨_,Tryz.func163,by kernel_rfl,by kernel_rfl⟩
theorem fn164:FnOk Tryz.prog 164:=⟨_,Tryz.func164,by kernel_rfl,by kernel_rfl⟩
theorem fn165:FnOk Tryz.prog 165:=⟨_,Tryz.func165,by kernel_rfl,by kernel_rfl⟩
theorem fn166:FnOk Tryz.prog 166:=⟨_,Tryz.func166,by kernel_rfl,by kernel_rfl⟩
theorem fn167:FnOk Tryz.prog 167:=⟨_,Tryz.func167,by kernel_rfl,by kernel_rfl⟩
theorem fn168:FnOk Tryz.prog 168:=⟨_,Tryz.func168,by kernel_rfl,by kernel_rfl⟩
theorem fn169:FnOk Tryz.prog 169:=⟨_,Tryz.func169,by kernel_rfl,by kernel_rfl⟩
theorem fn170:FnOk Tryz.prog 170:=⟨_,Tryz.func170,by kernel_rfl,by kernel_rfl⟩
theorem fn171:FnOk Tryz.prog 171:=⟨_,Tryz.func171,by kernel_rfl,by kernel_rfl⟩
theorem fn172:FnOk Tryz.prog 172:=⟨_,Tryz.func172,by kernel_rfl,by kernel_rfl⟩
theorem fn173:FnOk Tryz.prog 173:=⟨_,Tryz.func173,by kernel_rfl,by kernel_rfl⟩
theorem fn175:FnOk Tryz.prog 175:=⟨_,Tryz.func175,by kernel_rfl,by kernel_rfl⟩
theorem fn176:FnOk Tryz.prog 176:=⟨_,Tryz.func176,by kernel_rfl,by kernel_rfl⟩
theorem fn177:FnOk Tryz.prog 177:=⟨_,Tryz.func177,by kernel_rfl,by kernel_rfl⟩
theorem fn178:FnOk Tryz.prog 178:=⟨_,Tryz.func178,by kernel_rfl,by kernel_rfl⟩
theorem fn179:FnOk Tryz.prog 179:=⟨_,Tryz.func179,by kernel_rfl,by kernel_rfl⟩
theorem fn180:FnOk Tryz.prog 180:=⟨_,Tryz.func180,by kernel_rfl,by kernel_rfl⟩
theorem fn181:FnOk Tryz.prog 181:=⟨_,Tryz.func181,by kernel_rfl,by kernel_rfl⟩
theorem fn182:FnOk Tryz.prog 182:=⟨_,Tryz.func182,by kernel_rfl,by kernel_rfl⟩
theorem fn183:FnOk Tryz.prog 183:=⟨_,Tryz.func183,by kernel_rfl,by kernel_rfl⟩
theorem fn184:FnOk Tryz.prog 184:=⟨_,Tryz.func184,by kernel_rfl,by kernel_rfl⟩
theorem fn185:FnOk Tryz.prog 185:=⟨_,Tryz.func185,by kernel_rfl,by kernel_rfl⟩
theorem fn186:FnOk Tryz.prog 186:=⟨_,Tryz.func186,by kernel_rfl,by kernel_rfl⟩
theorem fn188:FnOk Tryz.prog 188:=⟨_,Tryz.func188,by kernel_rfl,by kernel_rfl⟩
theorem fo26_0:fieldAtOff Tryz.prog 26 0 = some (0,1):=by kernel_rfl
theorem fo26_1:fieldAtOff Tryz.prog 26 1 = some (1,1):=by kernel_rfl
theorem fo26_2:fieldAtOff Tryz.prog 26 2 = some (2,1):=by kernel_rfl
theorem fo29_0:fieldAtOff Tryz.prog 29 0 = some (0,1):=by kernel_rfl
theorem fo29_1:fieldAtOff Tryz.prog 29 1 = some (1,1):=by kernel_rfl
theorem fo29_2:fieldAtOff Tryz.prog 29 2 = some (2,1):=by kernel_rfl
theorem fo34_0:fieldAtOff Tryz.prog 34 0 = some (0,1):=by kernel_rfl
theorem fo34_1:fieldAtOff Tryz.prog 34 1 = some (1,1):=by kernel_rfl
theorem fo34_2:fieldAtOff Tryz.prog 34 2 = some (2,1):=by kernel_rfl
theorem fo36_0:fieldAtOff Tryz.prog 36 0 = some (0,1):=by kernel_rfl
theorem fo36_1:fieldAtOff Tryz.prog 36 1 = some (1,3):=by kernel_rfl
theorem fo38_0:fieldAtOff Tryz.prog 38 0 = some (0,3):=by kernel_rfl
theorem fo38_1:fieldAtOff Tryz.prog 38 1 = some (3,3):=by kernel_rfl
theorem fo38_2:fieldAtOff Tryz.prog 38 2 = some (6,4):=by kernel_rfl
theorem fo42_0:fieldAtOff Tryz.prog 42 0 = some (0,10):=by kernel_rfl
theorem fo42_1:fieldAtOff Tryz.prog 42 1 = some (10,1):=by kernel_rfl
theorem fo42_2:fieldAtOff Tryz.prog 42 2 = some (11,1):=by kernel_rfl
theorem fo48_0:fieldAtOff Tryz.prog 48 0 = some (0,1):=by kernel_rfl
theorem fo48_1:fieldAtOff Tryz.prog 48 1 = some (1,1):=by kernel_rfl
theorem fo64_0:fieldAtOff Tryz.prog 64 0 = some (0,1):=by kernel_rfl
theorem fo64_1:fieldAtOff Tryz.prog 64 1 = some (1,1):=by kernel_rfl
theorem fo64_2:fieldAtOff Tryz.prog 64 2 = some (2,3):=by kernel_rfl
theorem fo64_3:fieldAtOff Tryz.prog 64 3 = some (5,1):=by kernel_rfl
theorem fo68_0:fieldAtOff Tryz.prog 68 0 = some (0,1):=by kernel_rfl
theorem fo68_1:fieldAtOff Tryz.prog 68 1 = some (1,3):=by kernel_rfl
theorem fo73_0:fieldAtOff Tryz.prog 73 0 = some (0,1):=by kernel_rfl
theorem fo73_1:fieldAtOff Tryz.prog 73 1 = some (1,1):=by kernel_rfl
theorem fo73_2:fieldAtOff Tryz.prog 73 2 = some (2,3):=by kernel_rfl
theorem fo105_0:fieldAtOff Tryz.prog 105 0 = some (0,1):=by kernel_rfl
theorem fo105_1:fieldAtOff Tryz.prog 105 1 = some (1,1):=by kernel_rfl
theorem fo105_2:fieldAtOff Tryz.prog 105 2 = some (2,1):=by kernel_rfl
theorem fo105_3:fieldAtOff Tryz.prog 105 3 = some (3,1):=by kernel_rfl
theorem fo107_0:fieldAtOff Tryz.prog 107 0 = some (0,4):=by kernel_rfl
theorem fo107_1:fieldAtOff Tryz.prog 107 1 = some (4,3):=by kernel_rfl
theorem fo117_0:fieldAtOff Tryz.prog 117 0 = some (0,1):=by kernel_rfl
theorem fo117_1:fieldAtOff Tryz.prog 117 1 = some (1,1):=by kernel_rfl
theorem fo117_2:fieldAtOff Tryz.prog 117 2 = some (2,1):=by kernel_rfl
theorem fo124_0:fieldAtOff Tryz.prog 124 0 = some (0,1):=by kernel_rfl
theorem fo124_1:fieldAtOff Tryz.prog 124 1 = some (1,1):=by kernel_rfl
theorem fo130_0:fieldAtOff Tryz.prog 130 0 = some (0,1):=by kernel_rfl
theorem fo130_1:fieldAtOff Tryz.prog 130 1 = some (1,1):=by kernel_rfl
theorem fo146_0:fieldAtOff Tryz.prog 146 0 = some (0,1):=by kernel_rfl
theorem fo146_1:fieldAtOff Tryz.prog 146 1 = some (1,1):=by kernel_rfl
theorem ft36_1:fieldTy Tryz.prog 36 1 = some (1,34):=by kernel_rfl
theorem in5:∃ i:TypeInfo,Tryz.prog.info? 5 = some i∧i.zero = some (.int .u8 0)∧i.size = 1∧i.bytes = 1:=(info_parts (by kernel_rfl))
theorem in34:∃ i:TypeInfo,Tryz.prog.info? 34 = some i∧i.zero = some (.agg #[.bool false,.slice none 0 0,.slice none 0 0])∧i.size = 3∧i.bytes = 56:=(info_parts (by kernel_rfl))
theorem in36:∃ i:TypeInfo,Tryz.prog.info? 36 = some i∧i.zero = some (.agg #[.slice none 0 0,.bool false,.slice none 0 0,.slice none 0 0])∧i.size = 4∧i.bytes = 80:=(info_parts (by kernel_rfl))
theorem in64:∃ i:TypeInfo,Tryz.prog.info? 64 = some i∧i.zero = some (.agg #[.int .i64 0,.bool false,.bool false,.slice none 0 0,.slice none 0 0,.slice none 0 0])∧i.size = 6∧i.bytes = 96:=(info_parts (by kernel_rfl))
theorem in68:∃ i:TypeInfo,Tryz.prog.info? 68 = some i∧i.zero = some (.agg #[.int .i64 0,.bool false,.slice none 0 0,.slice none 0 0])∧i.size = 4∧i.bytes = 64:=(info_parts (by kernel_rfl))
theorem in73:∃ i:TypeInfo,Tryz.prog.info? 73 = some i∧i.zero = some (.agg #[.int .i64 0,.int .i64 0,.bool false,.slice none 0 0,.slice none 0 0])∧i.size = 5∧i.bytes = 72:=(info_parts (by kernel_rfl))
theorem in107:∃ i:TypeInfo,Tryz.prog.info? 107 = some i∧i.zero = some (.agg #[.int .i64 0,.int .i64 0,.int .i64 0,.int .i64 0,.bool false,.slice none 0 0,.slice none 0 0])∧i.size = 7∧i.bytes = 88:=(info_parts (by kernel_rfl))
theorem in157:∃ i:TypeInfo,Tryz.prog.info? 157 = some i∧i.zero = some (.int .u32 0)∧i.size = 1∧i.bytes = 4:=(info_parts (by kernel_rfl))
theorem pl26:structPlaces Tryz.prog 26 = some [(0,1),(1,1),(2,1)]:=by kernel_rfl
theorem pl29:structPlaces Tryz.prog 29 = some [(0,1),(1,1),(2,1)]:=by kernel_rfl
theorem pl34:structPlaces Tryz.prog 34 = some [(0,1),(1,1),(2,1)]:=by kernel_rfl
theorem pl36:structPlaces Tryz.prog 36 = some [(0,1),(1,3)]:=by kernel_rfl
theorem pl38:structPlaces Tryz.prog 38 = some [(0,3),(3,3),(6,4)]:=by kernel_rfl
theorem pl42:structPlaces Tryz.prog 42 = some [(0,10),(10,1),(11,1)]:=by kernel_rfl
theorem pl48:structPlaces Tryz.prog 48 = some [(0,1),(1,1)]:=by kernel_rfl
theorem pl64:structPlaces Tryz.prog 64 = some [(0,1),(1,1),(2,3),(5,1)]:=by kernel_rfl
theorem pl68:structPlaces Tryz.prog 68 = some [(0,1),(1,3)]:=by kernel_rfl
theorem pl73:structPlaces Tryz.prog 73 = some [(0,1),(1,1),(2,3)]:=by kernel_rfl
theorem pl105:structPlaces Tryz.prog 105 = some [(0,1),(1,1),(2,1),(3,1)]:=by kernel_rfl
theorem pl107:structPlaces Tryz.prog 107 = some [(0,4),(4,3)]:=by kernel_rfl
theorem pl117:structPlaces Tryz.prog 117 = some [(0,1),(1,1),(2,1)]:=by kernel_rfl
theorem pl130:structPlaces Tryz.prog 130 = some [(0,1),(1,1)]:=by kernel_rfl
theorem pl146:structPlaces Tryz.prog 146 = some [(0,1),(1,1)]:=by kernel_rfl
theorem tx26:TyZero Tryz.prog 26 [Leaf.val (.int .i64 0),Leaf.val (.slice none 0 0),Leaf.val (.slice none 0 0)]:=⟨.agg #[.int .i64 0,.slice none 0 0,.slice none 0 0],by kernel_rfl,⟨.inl rfl,.inr rfl,.inr rfl,trivial⟩,by decide⟩
theorem tx29:TyZero Tryz.prog 29 [Leaf.val (.slice none 0 0),Leaf.val (.slice none 0 0),Leaf.val (.slice none 0 0)]:=⟨.agg #[.slice none 0 0,.slice none 0 0,.slice none 0 0],by kernel_rfl,⟨.inr rfl,.inr rfl,.inr rfl,trivial⟩,by decide⟩
theorem tx36:TyZero Tryz.prog 36 [Leaf.val (.slice none 0 0),Leaf.val (.bool false),nilL,nilL]:=⟨.agg #[.slice none 0 0,.bool false,.slice none 0 0,.slice none 0 0],by kernel_rfl,⟨.inr rfl,.inl rfl,.inl rfl,.inl rfl,trivial⟩,by decide⟩
theorem tx42:TyZero Tryz.prog 42 [Leaf.val (.int .i64 0),Leaf.val (.slice none 0 0),Leaf.val (.slice none 0 0),Leaf.val (.slice none 0 0),Leaf.val (.slice none 0 0),Leaf.val (.slice none 0 0),Leaf.val (.slice none 0 0),Leaf.val (.bool false),nilL,nilL,Leaf.val (.slice none 0 0),Leaf.val (.slice none 0 0)]:=⟨.agg #[.int .i64 0,.slice none 0 0,.slice none 0 0,.slice none 0 0,.slice none 0 0,.slice none 0 0,.slice none 0 0,.bool false,.slice none 0 0,.slice none 0 0,.slice none 0 0,.slice none 0 0],by kernel_rfl,⟨.inl rfl,.inr rfl,.inr rfl,.inr rfl,.inr rfl,.inr rfl,.inr rfl,.inl rfl,.inl rfl,.inl rfl,.inr rfl,.inr rfl,trivial⟩,by decide⟩
theorem ty2:TyIs Tryz.prog 2 false 1:=⟨by kernel_rfl,by kernel_rfl⟩
theorem ty3:TyIs Tryz.prog 3 false 1:=⟨by kernel_rfl,by kernel_rfl⟩
theorem ty4:TyIs Tryz.prog 4 false 1:=⟨by kernel_rfl,by kernel_rfl⟩
theorem ty5:TyIs Tryz.prog 5 false 1:=⟨by kernel_rfl,by kernel_rfl⟩
theorem ty9:TyIs Tryz.prog 9 false 1:=⟨by kernel_rfl,by kernel_rfl⟩
theorem ty12:TyIs Tryz.prog 12 false 1:=⟨by kernel_rfl,by kernel_rfl⟩
theorem ty21:TyIs Tryz.prog 21 false 1:=⟨by kernel_rfl,by kernel_rfl⟩
theorem ty22:TyIs Tryz.prog 22 false 1:=⟨by kernel_rfl,by kernel_rfl⟩
theorem ty24:TyIs Tryz.prog 24 false 1:=⟨by kernel_rfl,by kernel_rfl⟩
theorem ty26:TyIs Tryz.prog 26 true 3:=⟨by kernel_rfl,by kernel_rfl⟩
theorem ty27:TyIs Tryz.prog 27 false 1:=⟨by kernel_rfl,by kernel_rfl⟩
theorem ty29:TyIs Tryz.prog 29 true 3:=⟨by kernel_rfl,by kernel_rfl⟩
theorem ty30:TyIs Tryz.prog 30 false 1:=⟨by kernel_rfl,by kernel_rfl⟩
theorem ty31:TyIs Tryz.prog 31 false 1:=⟨by kernel_rfl,by kernel_rfl⟩
theorem ty32:TyIs Tryz.prog 32 false 1:=⟨by kernel_rfl,by kernel_rfl⟩
theorem ty34:TyIs Tryz.prog 34 true 3:=⟨by kernel_rfl,by kernel_rfl⟩
theorem ty36:TyIs Tryz.prog 36 true 4:=⟨by kernel_rfl,by kernel_rfl⟩
theorem ty38:TyIs Tryz.prog 38 true 10:=⟨by kernel_rfl,by kernel_rfl⟩
theorem ty39:TyIs Tryz.prog 39 false 1:=⟨by kernel_rfl,by kernel_rfl⟩
theorem ty40:TyIs Tryz.prog 40 false 1:=⟨by kernel_rfl,by kernel_rfl⟩
theorem ty42:TyIs Tryz.prog 42 true 12:=⟨by kernel_rfl,by kernel_rfl⟩
theorem ty44:TyIs Tryz.prog 44 false 1:=⟨by kernel_rfl,by kernel_rfl⟩
theorem ty48:TyIs Tryz.prog 48 true 2:=⟨by kernel_rfl,by kernel_rfl⟩
theorem ty62:TyIs Tryz.prog 62 false 1:=⟨by kernel_rfl,by kernel_rfl⟩
theorem ty64:TyIs Tryz.prog 64 true 6:=⟨by kernel_rfl,by kernel_rfl⟩
theorem ty68:TyIs Tryz.prog 68 true 4:=⟨by kernel_rfl,by kernel_rfl⟩
theorem ty73:TyIs Tryz.prog 73 true 5:=⟨by kernel_rfl,by kernel_rfl⟩
theorem ty83:TyIs Tryz.prog 83 false 1:=⟨by kernel_rfl,by kernel_rfl⟩
theorem ty85:TyIs Tryz.prog 85 false 1:=⟨by kernel_rfl,by kernel_rfl⟩
theorem ty105:TyIs Tryz.prog 105 true 4:=⟨by kernel_rfl,by kernel_rfl⟩
theorem ty107:TyIs Tryz.prog 107 true 7:=⟨by kernel_rfl,by kernel_rfl⟩
theorem ty117:TyIs Tryz.prog 117 true 3:=⟨by kernel_rfl,by kernel_rfl⟩
theorem ty124:TyIs Tryz.prog 124 true 2:=⟨by kernel_rfl,by kernel_rfl⟩
theorem ty130:TyIs Tryz.prog 130 true 2:=⟨by kernel_rfl,by kernel_rfl⟩
theorem ty146:TyIs Tryz.prog 146 true 2:=⟨by kernel_rfl,by kernel_rfl⟩
theorem ty157:TyIs Tryz.prog 157 false 1:=⟨by kernel_rfl,by kernel_rfl⟩
theorem ty164:TyIs Tryz.prog 164 false 1:=⟨by kernel_rfl,by kernel_rfl⟩
theorem ty165:TyIs Tryz.prog 165 true 4:=⟨by kernel_rfl,by kernel_rfl⟩
theorem ty181:TyIs Tryz.prog 181 false 1:=⟨by kernel_rfl,by kernel_rfl⟩
theorem ty206:TyIs Tryz.prog 206 true 32:=⟨by kernel_rfl,by kernel_rfl⟩
theorem tz3:TyZero Tryz.prog 3 [Leaf.val (.int .i64 0)]:=TyZero.of (.int .i64 0) (by kernel_rfl) rfl (by decide)
theorem tz26:TyZero Tryz.prog 26 [Leaf.val (.int .i64 0),nilL,nilL]:=TyZero.of (.agg #[.int .i64 0,.slice none 0 0,.slice none 0 0]) (by kernel_rfl) rfl (by decide)
theorem tz29:TyZero Tryz.prog 29 [nilL,nilL,nilL]:=TyZero.of (.agg #[.slice none 0 0,.slice none 0 0,.slice none 0 0]) (by kernel_rfl) rfl (by decide)
theorem tz34:TyZero Tryz.prog 34 [Leaf.val (.bool false),nilL,nilL]:=TyZero.of (.agg #[.bool false,.slice none 0 0,.slice none 0 0]) (by kernel_rfl) rfl (by decide)
theorem tz36:TyZero Tryz.prog 36 [nilL,Leaf.val (.bool false),nilL,nilL]:=TyZero.of (.agg #[.slice none 0 0,.bool false,.slice none 0 0,.slice none 0 0]) (by kernel_rfl) rfl (by decide)
theorem tz38:TyZero Tryz.prog 38 [Leaf.val (.int .i64 0),nilL,nilL,nilL,nilL,nilL,nilL,Leaf.val (.bool false),nilL,nilL]:=TyZero.of (.agg #[.int .i64 0,.slice none 0 0,.slice none 0 0,.slice none 0 0,.slice none 0 0,.slice none 0 0,.slice none 0 0,.bool false,.slice none 0 0,.slice none 0 0]) (by kernel_rfl) rfl (by decide)
theorem tz42:TyZero Tryz.prog 42 [Leaf.val (.int .i64 0),nilL,nilL,nilL,nilL,nilL,nilL,Leaf.val (.bool false),nilL,nilL,nilL,nilL]:=TyZero.of (.agg #[.int .i64 0,.slice none 0 0,.slice none 0 0,.slice none 0 0,.slice none 0 0,.slice none 0 0,.slice none 0 0,.bool false,.slice none 0 0,.slice none 0 0,.slice none 0 0,.slice none 0 0]) (by kernel_rfl) rfl (by decide)
theorem tz48:TyZero Tryz.prog 48 [Leaf.val (.string ⟨#[]⟩),Leaf.val (.int .i64 0)]:=TyZero.of (.agg #[.string ⟨#[]⟩,.int .i64 0]) (by kernel_rfl) rfl (by decide)
theorem tz64:TyZero Tryz.prog 64 [Leaf.val (.int .i64 0),Leaf.val (.bool false),Leaf.val (.bool false),nilL,nilL,nilL]:=TyZero.of (.agg #[.int .i64 0,.bool false,.bool false,.slice none 0 0,.slice none 0 0,.slice none 0 0]) (by kernel_rfl) rfl (by decide)
theorem tz68:TyZero Tryz.prog 68 [Leaf.val (.int .i64 0),Leaf.val (.bool false),nilL,nilL]:=TyZero.of (.agg #[.int .i64 0,.bool false,.slice none 0 0,.slice none 0 0]) (by kernel_rfl) rfl (by decide)
theorem tz73:TyZero Tryz.prog 73 [Leaf.val (.int .i64 0),Leaf.val (.int .i64 0),Leaf.val (.bool false),nilL,nilL]:=TyZero.of (.agg #[.int .i64 0,.int .i64 0,.bool false,.slice none 0 0,.slice none 0 0]) (by kernel_rfl) rfl (by decide)
theorem tz105:TyZero Tryz.prog 105 [Leaf.val (.int .i64 0),Leaf.val (.int .i64 0),Leaf.val (.int .i64 0),Leaf.val (.int .i64 0)]:=TyZero.of (.agg #[.int .i64 0,.int .i64 0,.int .i64 0,.int .i64 0]) (by kernel_rfl) rfl (by decide)
theorem tz107:TyZero Tryz.prog 107 [Leaf.val (.int .i64 0),Leaf.val (.int .i64 0),Leaf.val (.int .i64 0),Leaf.val (.int .i64 0),Leaf.val (.bool false),nilL,nilL]:=TyZero.of (.agg #[.int .i64 0,.int .i64 0,.int .i64 0,.int .i64 0,.bool false,.slice none 0 0,.slice none 0 0]) (by kernel_rfl) rfl (by decide)
theorem tz117:TyZero Tryz.prog 117 [Leaf.val (.bool false),nilL,Leaf.val (.int .i64 0)]:=TyZero.of (.agg #[.bool false,.slice none 0 0,.int .i64 0]) (by kernel_rfl) rfl (by decide)
theorem tz130:TyZero Tryz.prog 130 [Leaf.val (.bool false),nilL]:=TyZero.of (.agg #[.bool false,.slice none 0 0]) (by kernel_rfl) rfl (by decide)
theorem tz146:TyZero Tryz.prog 146 [nilL,Leaf.val (.int .i64 0)]:=TyZero.of (.agg #[.slice none 0 0,.int .i64 0]) (by kernel_rfl) rfl (by decide)
theorem tz157:TyZero Tryz.prog 157 [Leaf.val (.int .u32 0)]:=TyZero.of (.int .u32 0) (by kernel_rfl) rfl (by decide)
theorem tz165:TyZero Tryz.prog 165 [Leaf.val (.int .i64 0),Leaf.val (.int .i64 0),Leaf.val (.int .i64 0),Leaf.val (.int .i64 0)]:=TyZero.of (.agg #[.int .i64 0,.int .i64 0,.int .i64 0,.int .i64 0]) (by kernel_rfl) rfl (by decide)
theorem un3:Tryz.prog.underlying 3 = some (.int .i64):=by kernel_rfl
theorem un4:Tryz.prog.underlying 4 = some (.bool):=by kernel_rfl
theorem un5:Tryz.prog.underlying 5 = some (.int .u8):=by kernel_rfl
theorem un9:Tryz.prog.underlying 9 = some (.string):=by kernel_rfl
theorem un22:Tryz.prog.underlying 22 = some (.slice 5):=by kernel_rfl
theorem un24:Tryz.prog.underlying 24 = some (.slice 36):=by kernel_rfl
theorem un27:Tryz.prog.underlying 27 = some (.slice 34):=by kernel_rfl
theorem un30:Tryz.prog.underlying 30 = some (.slice 68):=by kernel_rfl
theorem un31:Tryz.prog.underlying 31 = some (.slice 157):=by kernel_rfl
theorem un32:Tryz.prog.underlying 32 = some (.slice 157):=by kernel_rfl
theorem un39:Tryz.prog.underlying 39 = some (.slice 73):=by kernel_rfl
theorem un40:Tryz.prog.underlying 40 = some (.slice 64):=by kernel_rfl
theorem un62:Tryz.prog.underlying 62 = some (.slice 107):=by kernel_rfl
theorem un157:Tryz.prog.underlying 157 = some (.int .u32):=by kernel_rfl
theorem un164:Tryz.prog.underlying 164 = some (.int .u64):=by kernel_rfl
theorem un165:Tryz.prog.underlying 165 = some (.array 4 3):=by kernel_rfl
theorem un206:Tryz.prog.underlying 206 = some (.array 32 5):=by kernel_rfl
theorem us3:(Tryz.prog.underlying 3).isSome = true:=by kernel_rfl
theorem us5:(Tryz.prog.underlying 5).isSome = true:=by kernel_rfl
theorem us157:(Tryz.prog.underlying 157).isSome = true:=by kernel_rfl
theorem us164:(Tryz.prog.underlying 164).isSome = true:=by kernel_rfl
def ftab:FTab:=⟨[((26,0),0,1),((26,1),1,1),((26,2),2,1),((29,0),0,1),((29,1),1,1),((29,2),2,1),((34,0),0,1),((34,1),1,1),((34,2),2,1),((36,0),0,1),((36,1),1,3),((38,0),0,3),((38,1),3,3),((38,2),6,4),((42,0),0,10),((42,1),10,1),((42,2),11,1),((48,0),0,1),((48,1),1,1),((64,0),0,1),((64,1),1,1),((64,2),2,3),((64,3),5,1),((68,0),0,1),((68,1),1,3),((73,0),0,1),((73,1),1,1),((73,2),2,3),((105,0),0,1),((105,1),1,1),((105,2),2,1),((105,3),3,1),((107,0),0,4),((107,1),4,3),((117,0),0,1),((117,1),1,1),((117,2),2,1),((124,0),0,1),((124,1),1,1),((130,0),0,1),((130,1),1,1),((146,0),0,1),((146,1),1,1)],[(2,false,1),(3,false,1),(4,false,1),(5,false,1),(9,false,1),(12,false,1),(21,false,1),(22,false,1),(24,false,1),(26,true,3),(27,false,1),(29,true,3),(30,false,1),(31,false,1),(32,false,1),(34,true,3),(36,true,4),(38,true,10),(39,false,1),(40,false,1),(42,true,12),(44,false,1),(48,true,2),(62,false,1),(64,true,6),(68,true,4),(73,true,5),(83,false,1),(85,false,1),(105,true,4),(107,true,7),(117,true,3),(124,true,2),(130,true,2),(146,true,2),(157,false,1),(164,false,1),(165,true,4),(181,false,1),(206,true,32)]⟩
theorem FT:ftab.Ok Tryz.prog:=⟨⟨fo26_0,fo26_1,fo26_2,fo29_0,fo29_1,fo29_2,fo34_0,fo34_1,fo34_2,fo36_0,fo36_1,fo38_0,fo38_1,fo38_2,fo42_0,fo42_1,fo42_2,fo48_0,fo48_1,fo64_0,fo64_1,fo64_2,fo64_3,fo68_0,fo68_1,fo73_0,fo73_1,fo73_2,fo105_0,fo105_1,fo105_2,fo105_3,fo107_0,fo107_1,fo117_0,fo117_1,fo117_2,fo124_0,fo124_1,fo130_0,fo130_1,fo146_0,fo146_1,trivial⟩,⟨ty2,ty3,ty4,ty5,ty9,ty12,ty21,ty22,ty24,ty26,ty27,ty29,ty30,ty31,ty32,ty34,ty36,ty38,ty39,ty40,ty42,ty44,ty48,ty62,ty64,ty68,ty73,ty83,ty85,ty105,ty107,ty117,ty124,ty130,ty146,ty157,ty164,ty165,ty181,ty206,trivial⟩⟩
end Go.Proofs.YtjdbopkbfkgpdaaGreatDoor

namespace Rc
def dn (d:Nat):Nat:=if d = 0 then 1 else d
theorem dn_pos (d:Nat):0 < dn d:=by unfold dn;split <;> omega
theorem dn_ne (d:Nat):dn d≠0:=Nat.ne_of_gt (dn_pos d)
theorem dn_of {d:Nat} (h:d≠0):dn d = d:=by simp [dn,h]
@[simp] theorem dn_zero:dn 0 = 1:=rfl
def sgn (neg:Bool) (n:Nat):Int:=if neg then -(n:Int) else n
@[simp] theorem sgn_true (n:Nat):sgn true n = -(n:Int):=rfl
@[simp] theorem sgn_false (n:Nat):sgn false n = n:=rfl
@[simp] theorem natAbs_sgn (neg:Bool) (n:Nat):(sgn neg n).natAbs = n:=by cases neg <;> simp
theorem sgn_mul (a b:Bool) (m n:Nat):sgn (a != b) (m * n) = sgn a m * sgn b n:=by
 cases a <;> cases b <;> simp [Int.neg_mul,Int.mul_neg]
theorem sgn_not (a:Bool) (m:Nat):sgn (!a) m = - sgn a m:=by cases a <;> simp
theorem sgn_natAbs (x:Int):sgn (decide (x < 0)) x.natAbs = x:=by
 unfold sgn
 by_cases h:x < 0
 ·simp only [h,decide_true,if_true];omega
 ·simp only [h,decide_false];simp;omega
def rq (neg:Bool) (n d:Nat):Rat:=mkRat (sgn neg n) (dn d)
def cneg (q:Rat):Bool:=decide (q.num < 0)
def cnum (q:Rat):Nat:=q.num.natAbs
def cden (q:Rat):Nat:=if q.den = 1 then 0 else q.den
theorem dn_cden (q:Rat):dn (cden q) = q.den:=by
 have:=q.den_pos
 unfold cden
 by_cases h:q.den = 1
 ·rw [if_pos h,h];rfl
 ·rw [if_neg h];exact dn_of (by omega)
theorem rq_canon (q:Rat):rq (cneg q) (cnum q) (cden q) = q:=by
 unfold rq cneg cnum
 rw [dn_cden,sgn_natAbs,Rat.mkRat_self]
theorem rq_zero (neg:Bool) (d:Nat):rq neg 0 d = 0:=by unfold rq;cases neg <;> simp
theorem rq_eq_zero {neg:Bool} {n d:Nat}:rq neg n d = 0↔n = 0:=by
 unfold rq;rw [Rat.mkRat_eq_zero (dn_ne d)];cases neg <;> simp
@[simp] theorem cneg_zero:cneg 0 = false:=rfl
@[simp] theorem cnum_zero:cnum 0 = 0:=rfl
@[simp] theorem cden_zero:cden 0 = 0:=rfl
theorem rq_dn (neg:Bool) (n d:Nat):rq neg n (dn d) = rq neg n d:=by unfold rq;rw [dn_of (dn_ne d)]
theorem den_rq (neg:Bool) (n d:Nat):(rq neg n d).den = dn d / Nat.gcd n (dn d):=by
 unfold rq;rw [Rat.den_mkRat,if_neg (dn_ne d),natAbs_sgn,Nat.gcd_comm]
theorem num_rq (neg:Bool) (n d:Nat):(rq neg n d).num = sgn neg (n / Nat.gcd n (dn d)):=by
 unfold rq;rw [Rat.num_mkRat,if_neg (dn_ne d),natAbs_sgn,Nat.gcd_comm (dn d) n]
 obtain ⟨k,hk⟩:=Nat.gcd_dvd_left n (dn d)
 have hg0:0 < Nat.gcd n (dn d):=Nat.gcd_pos_of_pos_right _ (dn_pos d)
 generalize Nat.gcd n (dn d) = g at *
 subst hk
 rw [Nat.mul_div_cancel_left _ hg0]
 cases neg
 ·simp only [sgn_false]
  rw [Int.natCast_mul,Int.mul_ediv_cancel_left _ (by omega)]
 ·simp only [sgn_true]
  rw [Int.natCast_mul,← Int.mul_neg,Int.mul_ediv_cancel_left _ (by omega)]
theorem cnum_rq (neg:Bool) (n d:Nat):cnum (rq neg n d) = n / Nat.gcd n (dn d):=by
 unfold cnum;rw [num_rq,natAbs_sgn]
theorem cneg_rq (neg:Bool) (n d:Nat):cneg (rq neg n d) = (neg && decide (n≠0)):=by
 unfold cneg;rw [num_rq]
 have hp:n≠0→0 < n / Nat.gcd n (dn d):=fun h=>Nat.div_pos (Nat.le_of_dvd (by omega) (Nat.gcd_dvd_left _ _)) (Nat.gcd_pos_of_pos_left _ (by omega))
 have h0:n = 0→n / Nat.gcd n (dn d) = 0:=fun h=>by rw [h,Nat.zero_div]
 generalize n / Nat.gcd n (dn d) = k at *
 cases neg
 ·rw [Bool.false_and];exact decide_eq_false (by rw [sgn_false];omega)
 ·rw [Bool.true_and]
  by_cases h:n = 0
  ·rw [h0 h];rw [decide_eq_false (by simp [h]:¬ n≠0)];rfl
  ·have:=hp h
   rw [decide_eq_true (h:n≠0)];exact decide_eq_true (by rw [sgn_true];omega)
theorem rq_add (a b:Bool) (m n d e:Nat) (s:Int) (hs:s = sgn a (m * dn e) + sgn b (n * dn d)) :
  rq (decide (s < 0)) s.natAbs (dn d * dn e) = rq a m d + rq b n e:=by
 have h1:rq (decide (s < 0)) s.natAbs (dn d * dn e) = mkRat s (dn d * dn e):=by
  unfold rq
  rw [sgn_natAbs,dn_of (Nat.ne_of_gt (Nat.mul_pos (dn_pos d) (dn_pos e)))]
 rw [h1,hs]
 unfold rq
 rw [Rat.mkRat_add_mkRat _ _ (dn_ne d) (dn_ne e)]
 congr 1
 cases a <;> cases b <;> simp <;> grind
theorem rq_mul (a b:Bool) (m n d e:Nat):rq (a != b) (m * n) (dn d * dn e) = rq a m d * rq b n e:=by
 unfold rq
 rw [Rat.mkRat_mul_mkRat,sgn_mul,dn_of (Nat.ne_of_gt (Nat.mul_pos (dn_pos d) (dn_pos e)))]
theorem rq_neg (a:Bool) (m d:Nat):rq (!a) m d = - rq a m d:=by
 unfold rq;rw [sgn_not,Rat.neg_mkRat]
theorem mkRat_lt {a b:Int} {d e:Nat} (hd:0 < d) (he:0 < e):mkRat a d < mkRat b e↔a * e < b * d:=by
 rw [Rat.mkRat_eq_div,Rat.mkRat_eq_div]
 have hd':(0:Rat) < ((d:Int):Rat):=by
  rw [show (0:Rat) = ((0:Int):Rat) from rfl];exact Rat.intCast_lt_intCast.2 (by omega)
 have he':(0:Rat) < ((e:Int):Rat):=by
  rw [show (0:Rat) = ((0:Int):Rat) from rfl];exact Rat.intCast_lt_intCast.2 (by omega)
 have e1:((a:Rat) / (d:Nat)) = (a:Rat) / ((d:Int):Rat):=rfl
 have e2:((b:Rat) / (e:Nat)) = (b:Rat) / ((e:Int):Rat):=rfl
 rw [e1,e2,Rat.div_lt_iff hd']
 rw [show (b:Rat) / ((e:Int):Rat) * ((d:Int):Rat) = ((b:Rat) * ((d:Int):Rat)) / ((e:Int):Rat) by grind,Rat.lt_div_iff he',
  ← Rat.intCast_mul,← Rat.intCast_mul,Rat.intCast_lt_intCast]
theorem rq_lt (a b:Bool) (m n d e:Nat):rq a m d < rq b n e↔sgn a m * dn e < sgn b n * dn d:=by
 unfold rq;exact mkRat_lt (dn_pos d) (dn_pos e)
theorem rq_eq (a b:Bool) (m n d e:Nat):rq a m d = rq b n e↔sgn a m * dn e = sgn b n * dn d:=by
 unfold rq;exact Rat.mkRat_eq_iff (dn_ne d) (dn_ne e)
def sg (q:Rat):Int:=if q < 0 then -1 else if q = 0 then 0 else 1
def cmpq (p q:Rat):Int:=if p < q then -1 else if p = q then 0 else 1
theorem cmpq_sub (p q:Rat):cmpq p q = sg (p - q):=by
 unfold cmpq sg
 have h1:p < q↔p - q < 0:=by grind
 have h2:p = q↔p - q = 0:=by grind
 simp only [h1,h2]
end Rc
namespace Rc
def val:List Nat→Nat
 | []=>0
 | x :: xs=>x + 4294967296 * val xs
def Small (l:List Nat):Prop:=∀ x∈l,x < 4294967296
def Canon (l:List Nat):Prop:=Small l∧∀ h:l≠[],l.getLast h≠0
def limbs (n:Nat):List Nat:=if h:n = 0 then [] else n % 4294967296 :: limbs (n / 4294967296)
termination_by n
decreasing_by omega
@[simp] theorem val_nil:val [] = 0:=rfl
@[simp] theorem val_cons (x:Nat) (xs:List Nat):val (x :: xs) = x + 4294967296 * val xs:=rfl
theorem Small.nil:Small []:=fun _ h=>by simp at h
theorem Small.cons {x:Nat} {l:List Nat} (hx:x < 4294967296) (h:Small l):Small (x :: l):=by
 intro y hy
 rcases List.mem_cons.1 hy with rfl | hy
 ·exact hx
 ·exact h y hy
theorem Small.head {x:Nat} {l:List Nat} (h:Small (x :: l)):x < 4294967296:=h x (by simp)
theorem Small.tail {x:Nat} {l:List Nat} (h:Small (x :: l)):Small l:=fun y hy=>h y (by simp [hy])
theorem Small.append {a b:List Nat} (ha:Small a) (hb:Small b):Small (a ++ b):=by
 intro x hx
 rcases List.mem_append.1 hx with h | h
 ·exact ha x h
 ·exact hb x h
theorem Small.take {a:List Nat} (ha:Small a) (n:Nat):Small (a.take n):=fun x hx=>ha x (List.mem_of_mem_take hx)
theorem Small.drop {a:List Nat} (ha:Small a) (n:Nat):Small (a.drop n):=fun x hx=>ha x (List.mem_of_mem_drop hx)
theorem Small.get {a:List Nat} (ha:Small a) (i:Nat) (h:i < a.length):a[i] < 4294967296:=ha _ (List.getElem_mem h)
theorem Small.getD {a:List Nat} (ha:Small a) (i:Nat):a.getD i 0 < 4294967296:=by
 by_cases h:i < a.length
 ·simp [List.getD,h];exact ha.get i h
 ·simp [List.getD,h]
theorem Small.set {a:List Nat} (ha:Small a) (i x:Nat) (hx:x < 4294967296):Small (a.set i x):=by
 intro y hy
 rcases List.mem_or_eq_of_mem_set hy with h | h
 ·exact ha y h
 ·omega
theorem Small.replicate (n:Nat):Small (List.replicate n 0):=by
 intro x hx
 have:=(List.mem_replicate.1 hx).2
 omega
theorem val_append (a b:List Nat):val (a ++ b) = val a + 4294967296 ^ a.length * val b:=by
 induction a with
 | nil=>simp
 | cons x xs ih=>simp only [List.cons_append,val_cons,ih,List.length_cons];grind
theorem val_replicate (n:Nat):val (List.replicate n 0) = 0:=by
 induction n with
 | zero=>rfl
 | succ n ih=>simp [List.replicate_succ,ih]
theorem val_lt {l:List Nat} (h:Small l):val l < 4294967296 ^ l.length:=by
 induction l with
 | nil=>simp
 | cons x xs ih=>
  have hx:=h.head
  have:=ih h.tail
  simp only [val_cons,List.length_cons,Nat.pow_succ]
  omega
theorem val_take_succ (l:List Nat) (i:Nat) (h:i < l.length):val (l.take (i + 1)) = val (l.take i) + 4294967296 ^ i * l[i]:=by
 rw [List.take_succ_eq_append_getElem h,val_append]
 simp [List.length_take,Nat.min_eq_left (Nat.le_of_lt h)]
theorem val_take_getD (l:List Nat) (i:Nat):val (l.take (i + 1)) = val (l.take i) + 4294967296 ^ i * l.getD i 0:=by
 by_cases h:i < l.length
 ·rw [val_take_succ l i h];simp [List.getD,h]
 ·simp [List.getD,h,List.take_of_length_le (Nat.le_of_not_lt h),List.take_of_length_le (Nat.le_succ_of_le (Nat.le_of_not_lt h))]
theorem val_take_drop (l:List Nat) (i:Nat):val l = val (l.take i) + 4294967296 ^ (min i l.length) * val (l.drop i):=by
 conv=>lhs;rw [← List.take_append_drop i l]
 rw [val_append,List.length_take]
theorem limbs_zero:limbs 0 = []:=by unfold limbs;simp
theorem limbs_pos {n:Nat} (h:n≠0):limbs n = n % 4294967296 :: limbs (n / 4294967296):=by rw [limbs];simp [h]
theorem val_limbs (n:Nat):val (limbs n) = n:=by
 induction n using Nat.strongRecOn with
 | _ n ih=>
  by_cases h:n = 0
  ·subst h;simp [limbs_zero]
  ·rw [limbs_pos h,val_cons,ih _ (by omega)];omega
theorem small_limbs (n:Nat):Small (limbs n):=by
 induction n using Nat.strongRecOn with
 | _ n ih=>
  by_cases h:n = 0
  ·subst h;simp [limbs_zero];exact Small.nil
  ·rw [limbs_pos h];exact Small.cons (by omega) (ih _ (by omega))
theorem limbs_eq_nil {n:Nat}:limbs n = []↔n = 0:=by
 constructor
 ·intro h;have:=val_limbs n;rw [h] at this;simp at this;omega
 ·rintro rfl;exact limbs_zero
theorem canon_limbs (n:Nat):Canon (limbs n):=by
 refine ⟨small_limbs n,?_⟩
 induction n using Nat.strongRecOn with
 | _ n ih=>
  intro h
  have hn:n≠0:=fun e=>h (limbs_eq_nil.2 e)
  simp only [limbs_pos hn]
  by_cases h2:n / 4294967296 = 0
  ·simp only [h2,limbs_zero];simp;omega
  ·have h3:limbs (n / 4294967296)≠[]:=fun e=>h2 (limbs_eq_nil.1 e)
   rw [List.getLast_cons h3]
   exact ih _ (by omega) h3
theorem Canon.tail {x:Nat} {l:List Nat} (h:Canon (x :: l)):Canon l:=
 ⟨h.1.tail,fun hl=>by have:=h.2 (by simp);rwa [List.getLast_cons hl] at this⟩
theorem limbs_val {l:List Nat} (h:Canon l):limbs (val l) = l:=by
 induction l with
 | nil=>exact limbs_zero
 | cons x xs ih=>
  have hx:=h.1.head
  have hne:val (x :: xs)≠0:=by
   intro e
   simp only [val_cons] at e
   have h0:val xs = 0:=by omega
   have:xs = []:=by rw [← ih h.tail,h0,limbs_zero]
   subst this
   exact h.2 (by simp) (by simp;omega)
  rw [limbs_pos hne]
  have e1:val (x :: xs) % 4294967296 = x:=by simp only [val_cons];omega
  have e2:val (x :: xs) / 4294967296 = val xs:=by simp only [val_cons];omega
  rw [e1,e2,ih h.tail]
theorem Canon.eq {l:List Nat} (h:Canon l):l = limbs (val l):=(limbs_val h).symm
theorem limbs_length_le {n k:Nat}:(limbs n).length≤k↔n < 4294967296 ^ k:=by
 constructor
 ·intro h
  have h1:=val_lt (small_limbs n)
  rw [val_limbs] at h1
  exact Nat.lt_of_lt_of_le h1 (Nat.pow_le_pow_right (by omega) h)
 ·intro h
  induction k generalizing n with
  | zero=>simp at h;subst h;simp [limbs_zero]
  | succ k ih=>
   by_cases hn:n = 0
   ·subst hn;simp [limbs_zero]
   ·rw [limbs_pos hn]
    simp only [List.length_cons]
    have:=ih (n:=n / 4294967296) (by rw [Nat.pow_succ] at h;omega)
    omega
theorem take_val {l:List Nat} (n:Nat) (h:∀ i (hi:i < l.length),n≤i→l[i] = 0):val (l.take n) = val l:=by
 rw [val_take_drop l n]
 have:val (l.drop n) = 0:=by
  have e:l.drop n = List.replicate (l.length - n) 0:=by
   apply List.ext_getElem
   ·simp
   ·intro i h1 h2
    simp at h1
    simp
    exact h _ _ (by omega)
  rw [e,val_replicate]
 rw [this];simp
theorem limbs_take {l:List Nat} (hs:Small l) (n:Nat) (hn:n≤l.length) (h:∀ i (hi:i < l.length),n≤i→l[i] = 0)
  (hl:∀ h0:0 < n,l[n - 1]≠0):l.take n = limbs (val l):=by
 have hc:Canon (l.take n):=by
  refine ⟨hs.take n,fun he=>?_⟩
  have h0:0 < n:=by
   rcases Nat.eq_zero_or_pos n with h0 | h0
   ·subst h0;simp at he
   ·exact h0
  have h1:=hl h0
  rw [List.getLast_eq_getElem]
  simp only [List.getElem_take,List.length_take]
  simpa [Nat.min_eq_left hn] using h1
 rw [hc.eq,take_val n h]
end Rc
namespace Rc
def cmpN (a b:Nat):Int:=if a < b then -1 else if a = b then 0 else 1
theorem cmpN_lt {a b:Nat} (h:a < b):cmpN a b = -1:=by simp [cmpN,h]
theorem cmpN_gt {a b:Nat} (h:b < a):cmpN a b = 1:=by
 unfold cmpN;rw [if_neg (by omega),if_neg (by omega)]
theorem cmpN_eq {a b:Nat} (h:a = b):cmpN a b = 0:=by subst h;simp [cmpN]
theorem limbs_length_mono {x y:Nat} (h:x≤y):(limbs x).length≤(limbs y).length:=
 limbs_length_le.2 (Nat.lt_of_le_of_lt h (limbs_length_le.1 (Nat.le_refl _)))
theorem lt_of_length {x y:Nat} (h:(limbs x).length < (limbs y).length):x < y:=by
 rcases Nat.lt_or_ge x y with h1 | h1
 ·exact h1
 ·have:=limbs_length_mono h1;omega
theorem limbs_val_length {l:List Nat} (hs:Small l):(limbs (val l)).length≤l.length:=limbs_length_le.2 (val_lt hs)
theorem val_split (l:List Nat) (n:Nat) (h:n < l.length):val l = val (l.take n) + 4294967296 ^ n * (l[n] + 4294967296 * val (l.drop (n + 1))):=by
 have h1:=val_take_drop l n
 rw [Nat.min_eq_left (Nat.le_of_lt h),List.drop_eq_getElem_cons h,val_cons] at h1
 exact h1
theorem cmp_at {a b:List Nat} {n:Nat} (ha:Small a) (hn:n < a.length) (hn':n < b.length) (h:a.drop (n + 1) = b.drop (n + 1)) (hlt:a[n] < b[n]):val a < val b:=by
 rw [val_split a n hn,val_split b n hn',h]
 have h1:=val_lt (ha.take n)
 rw [List.length_take,Nat.min_eq_left (Nat.le_of_lt hn)] at h1
 generalize val (b.drop (n + 1)) = d
 have h2:4294967296 ^ n * (a[n] + 4294967296 * d + 1)≤4294967296 ^ n * (b[n] + 4294967296 * d):=Nat.mul_le_mul_left _ (by omega)
 rw [Nat.mul_add,Nat.mul_one] at h2
 omega
theorem drop_succ_eq {a b:List Nat} {n:Nat} (hn:n < a.length) (hn':n < b.length) (h:a.drop (n + 1) = b.drop (n + 1)) (he:a[n] = b[n]):a.drop n = b.drop n:=by
 rw [List.drop_eq_getElem_cons hn,List.drop_eq_getElem_cons hn',h,he]
theorem val_set_take (out:List Nat) (k x:Nat) (h:k < out.length):val ((out.set k x).take (k + 1)) = val (out.take k) + 4294967296 ^ k * x:=by
 rw [val_take_succ _ _ (by simpa using h),List.take_set_of_le (Nat.le_refl k),List.getElem_set_self]
theorem val_take_all (l:List Nat) (k:Nat) (h:l.length≤k):val (l.take k) = val l:=by rw [List.take_of_length_le h]
theorem getD_of {l:List Nat} {k:Nat} (h:k < l.length):l.getD k 0 = l[k]:=by simp [List.getD,h]
theorem getD_out {l:List Nat} {k:Nat} (h:l.length≤k):l.getD k 0 = 0:=by simp [List.getD,h]
theorem add_step {a b out:List Nat} {k c s:Nat} (hk:k < a.length) (hl:k < out.length) (h:val (out.take k) + c * 4294967296 ^ k = val (a.take k) + val (b.take k)) (hs:s = c + a[k] + b.getD k 0) :
  val ((out.set k (s % 4294967296)).take (k + 1)) + (s / 4294967296) * 4294967296 ^ (k + 1) = val (a.take (k + 1)) + val (b.take (k + 1)):=by
 rw [val_set_take out k _ hl,val_take_succ a k hk,val_take_getD b k,Nat.pow_succ]
 have e:4294967296 ^ k * s = 4294967296 ^ k * (s % 4294967296) + s / 4294967296 * (4294967296 ^ k * 4294967296):=by
  conv=>lhs;rw [← Nat.mod_add_div s 4294967296]
  grind
 rw [hs] at e
 rw [hs]
 have e2:4294967296 ^ k * (c + a[k] + b.getD k 0) = c * 4294967296 ^ k + 4294967296 ^ k * a[k] + 4294967296 ^ k * b.getD k 0:=by grind
 omega
theorem sub_step {a b out:List Nat} {k c x:Nat} (hk:k < a.length) (hl:k < out.length) (ha:Small a) (hb:Small b) (hc:c≤1)
  (h:val (out.take k) + val (b.take k) = val (a.take k) + c * 4294967296 ^ k) (hx:x = (18446744073709551616 + a[k] - c - b.getD k 0) % 18446744073709551616) :
  val ((out.set k (x % 4294967296)).take (k + 1)) + val (b.take (k + 1)) = val (a.take (k + 1)) + (x / 9223372036854775808) * 4294967296 ^ (k + 1):=by
 rw [val_set_take out k _ hl,val_take_succ a k hk,val_take_getD b k,Nat.pow_succ]
 have h1:=ha.get k hk
 have h2:=hb.getD k
 generalize a[k] = p at *
 generalize b.getD k 0 = q at *
 have e:x % 4294967296 + q + c = p + (x / 9223372036854775808) * 4294967296:=by omega
 have e2:4294967296 ^ k * (x % 4294967296 + q + c) = 4294967296 ^ k * (p + (x / 9223372036854775808) * 4294967296):=by rw [e]
 have e3:4294967296 ^ k * (x % 4294967296 + q + c) = 4294967296 ^ k * (x % 4294967296) + 4294967296 ^ k * q + c * 4294967296 ^ k:=by grind
 have e4:4294967296 ^ k * (p + (x / 9223372036854775808) * 4294967296) = 4294967296 ^ k * p + (x / 9223372036854775808) * (4294967296 ^ k * 4294967296):=by grind
 omega
theorem val_set (l:List Nat) (i x:Nat) (h:i < l.length):val (l.set i x) + 4294967296 ^ i * l[i] = val l + 4294967296 ^ i * x:=by
 rw [val_split l i h,val_split (l.set i x) i (by simpa using h)]
 rw [List.take_set_of_le (Nat.le_refl i),List.getElem_set_self,List.drop_set_of_lt (by omega)]
 grind
theorem mul_step {b out:List Nat} {i k c x:Nat} (hk:k < b.length) (hl:i + k < out.length) (base:Nat) (h:val out + c * 4294967296 ^ (i + k) = base + 4294967296 ^ i * (x * val (b.take k))) :
  val (out.set (i + k) ((c + (x * b[k] + out[i + k])) % 4294967296)) + ((c + (x * b[k] + out[i + k])) / 4294967296) * 4294967296 ^ (i + (k + 1)) = base + 4294967296 ^ i * (x * val (b.take (k + 1))):=by
 have h1:=val_set out (i + k) ((c + (x * b[k] + out[i + k])) % 4294967296) hl
 rw [val_take_succ b k hk,show i + (k + 1) = (i + k) + 1 from rfl,Nat.pow_succ]
 generalize hs:c + (x * b[k] + out[i + k]) = s at *
 have e1:4294967296 ^ (i + k) * s = 4294967296 ^ (i + k) * (s % 4294967296) + s / 4294967296 * (4294967296 ^ (i + k) * 4294967296):=by
  conv=>lhs;rw [← Nat.mod_add_div s 4294967296]
  grind
 have e2:4294967296 ^ (i + k) * s = c * 4294967296 ^ (i + k) + 4294967296 ^ i * (x * (4294967296 ^ k * b[k])) + 4294967296 ^ (i + k) * out[i + k]:=by
  rw [← hs,Nat.pow_add];grind
 have e3:4294967296 ^ i * (x * (val (b.take k) + 4294967296 ^ k * b[k])) = 4294967296 ^ i * (x * val (b.take k)) + 4294967296 ^ i * (x * (4294967296 ^ k * b[k])):=by grind
 omega
theorem mul_carry {c x y o:Nat} (hc:c < 4294967296) (hx:x < 4294967296) (hy:y < 4294967296) (ho:o < 4294967296):c + (x * y + o) < 18446744073709551616∧(c + (x * y + o)) / 4294967296 < 4294967296∧x * y≤18446744065119617025:=by
 have h1:x * y≤4294967295 * 4294967295:=Nat.mul_le_mul (by omega) (by omega)
 omega
end Rc
namespace Rc
def bl (n:Nat):Nat:=if n = 0 then 0 else Nat.log2 n + 1
theorem bl_lt (n:Nat):n < 2 ^ bl n:=by
 unfold bl;split
 ·rename_i h;subst h;simp
 ·exact Nat.lt_log2_self
theorem bl_le {n:Nat} (h:n≠0):2 ^ (bl n - 1)≤n:=by
 unfold bl;rw [if_neg h];simpa using Nat.log2_self_le h
theorem bl_unique {n k:Nat} (h1:n < 2 ^ k) (h2:0 < k→2 ^ (k - 1)≤n):bl n = k:=by
 by_cases h0:n = 0
 ·subst h0
  rcases Nat.eq_zero_or_pos k with hk | hk
  ·subst hk;rfl
  ·have:=h2 hk;have:=Nat.pow_pos (n:=k - 1) (show 0 < 2 from by omega);omega
 ·have hk:0 < k:=by
   rcases Nat.eq_zero_or_pos k with hk | hk
   ·subst hk;simp at h1;omega
   ·exact hk
  unfold bl
  rw [if_neg h0,(Nat.log2_eq_iff h0).2 ⟨h2 hk,by rw [show k - 1 + 1 = k from by omega];exact h1⟩]
  omega
theorem bl_zero:bl 0 = 0:=rfl
theorem bl_pos {n:Nat} (h:n≠0):0 < bl n:=by unfold bl;rw [if_neg h];omega
theorem bl_div {n k:Nat} (h:2 ^ k≤n):bl n = bl (n / 2 ^ k) + k:=by
 have hp:0 < 2 ^ k:=Nat.pow_pos (by omega)
 have hq:n / 2 ^ k≠0:=Nat.ne_of_gt (Nat.div_pos h hp)
 apply bl_unique
 ·have:=bl_lt (n / 2 ^ k)
  rw [Nat.pow_add]
  rwa [Nat.div_lt_iff_lt_mul hp] at this
 ·intro _
  have:=bl_le hq
  have h3:=bl_pos hq
  rw [show bl (n / 2 ^ k) + k - 1 = (bl (n / 2 ^ k) - 1) + k from by omega,Nat.pow_add]
  rwa [Nat.le_div_iff_mul_le hp] at this
theorem bl_le_of_lt {n k:Nat} (h:n < 2 ^ k):bl n≤k:=by
 rcases Nat.lt_or_ge k (bl n) with h1 | h1
 ·exfalso
  have h0:n≠0:=by intro e;subst e;simp [bl] at h1
  have:=bl_le h0
  have h2:2 ^ k≤2 ^ (bl n - 1):=Nat.pow_le_pow_right (by omega) (by omega)
  omega
 ·exact h1
theorem bl_add_mul {lo hi k:Nat} (h:lo < 2 ^ k) (hh:hi≠0):bl (lo + 2 ^ k * hi) = k + bl hi:=by
 have hp:0 < 2 ^ k:=Nat.pow_pos (by omega)
 have e:(lo + 2 ^ k * hi) / 2 ^ k = hi:=by
  rw [Nat.add_mul_div_left _ _ hp,Nat.div_eq_of_lt h,Nat.zero_add]
 have h1:2 ^ k≤lo + 2 ^ k * hi:=by
  have:2 ^ k * 1≤2 ^ k * hi:=Nat.mul_le_mul_left _ (by omega)
  omega
 rw [bl_div h1,e,Nat.add_comm]
theorem pow32 (k:Nat):4294967296 ^ k = 2 ^ (32 * k):=by rw [Nat.pow_mul]
theorem bl_limbs {l:List Nat} (hc:Canon l) (h:0 < l.length):bl (val l) = 32 * (l.length - 1) + bl (l[l.length - 1]'(by omega)):=by
 have h1:=val_split l (l.length - 1) (by omega)
 have h2:l.drop (l.length - 1 + 1) = []:=List.drop_of_length_le (by omega)
 rw [h2] at h1
 simp only [val_nil,Nat.mul_zero,Nat.add_zero] at h1
 have h3:=val_lt (hc.1.take (l.length - 1))
 rw [List.length_take,Nat.min_eq_left (by omega),pow32] at h3
 rw [h1,pow32]
 refine bl_add_mul h3 ?_
 have:=hc.2 (by intro e;rw [e] at h;simp at h)
 rwa [List.getLast_eq_getElem] at this
theorem left_step {a out:List Nat} {i k:Nat} (hi:i < a.length) (hl:i + 1 < out.length) (h:val (out.take (i + 1)) = val (a.take i) * 2 ^ k) (x:Nat) (hx:x = a[i] * 2 ^ k) :
  val (((out.set i (out[i] + x % 4294967296)).set (i + 1) (x / 4294967296)).take (i + 1 + 1)) = val (a.take (i + 1)) * 2 ^ k:=by
 rw [val_set_take _ (i + 1) _ (by simpa using hl)]
 rw [val_set_take out i _ (by omega)]
 rw [val_take_succ out i (by omega)] at h
 rw [val_take_succ a i hi,Nat.add_mul,← h,Nat.pow_succ]
 have e:4294967296 ^ i * x = 4294967296 ^ i * (x % 4294967296) + 4294967296 ^ i * 4294967296 * (x / 4294967296):=by
  conv=>lhs;rw [← Nat.mod_add_div x 4294967296]
  grind
 have e2:4294967296 ^ i * a[i] * 2 ^ k = 4294967296 ^ i * x:=by rw [hx];grind
 have e3:4294967296 ^ i * (out[i] + x % 4294967296) = 4294967296 ^ i * out[i] + 4294967296 ^ i * (x % 4294967296):=by grind
 omega
theorem val_drop_div (l:List Nat) (hs:Small l) (i:Nat):val l / 4294967296 ^ i = val (l.drop i):=by
 have hp:0 < 4294967296 ^ i:=Nat.pow_pos (by omega)
 by_cases hi:i≤l.length
 ·have h1:=val_take_drop l i
  have h2:=val_lt (hs.take i)
  rw [List.length_take,Nat.min_eq_left hi] at h2
  rw [Nat.min_eq_left hi] at h1
  rw [h1,Nat.add_mul_div_left _ _ hp,Nat.div_eq_of_lt h2,Nat.zero_add]
 ·have h1:=val_lt hs
  have h2:4294967296 ^ l.length≤4294967296 ^ i:=Nat.pow_le_pow_right (by omega) (by omega)
  rw [List.drop_of_length_le (by omega),Nat.div_eq_of_lt (by omega)];rfl
theorem shr_step {a out:List Nat} {i s:Nat} (ha:Small a) (hi:i < a.length) (hl:i < out.length) (hs:s < 32) (h:val (out.take i) = val a / 2 ^ s % 4294967296 ^ i) (x:Nat) (hx:x = a[i] + 4294967296 * a.getD (i + 1) 0) :
  val ((out.set i (x / 2 ^ s % 4294967296)).take (i + 1)) = val a / 2 ^ s % 4294967296 ^ (i + 1):=by
 rw [val_set_take out i _ hl,h,Nat.pow_succ,Nat.mod_mul,Nat.div_div_eq_div_mul,Nat.mul_comm (2 ^ s),← Nat.div_div_eq_div_mul,val_drop_div a ha i]
 congr 2
 rw [List.drop_eq_getElem_cons hi,val_cons]
 have e:val (a.drop (i + 1)) = a.getD (i + 1) 0 + 4294967296 * val (a.drop (i + 2)):=by
  by_cases h2:i + 1 < a.length
  ·rw [List.drop_eq_getElem_cons h2,val_cons,getD_of h2]
  ·rw [List.drop_of_length_le (by omega),List.drop_of_length_le (by omega),getD_out (by omega)];rfl
 rw [e,hx]
 have e2:(4294967296:Nat) = 2 ^ s * 2 ^ (32 - s):=by rw [← Nat.pow_add,show s + (32 - s) = 32 from by omega]
 have e3:a[i] + 4294967296 * (a.getD (i + 1) 0 + 4294967296 * val (a.drop (i + 2))) = (a[i] + 4294967296 * a.getD (i + 1) 0) + 2 ^ s * (4294967296 * (2 ^ (32 - s) * val (a.drop (i + 2)))):=by
  have:4294967296 * (4294967296 * val (a.drop (i + 2))) = 2 ^ s * (4294967296 * (2 ^ (32 - s) * val (a.drop (i + 2)))):=by
   conv=>lhs;lhs;rw [e2]
   grind
  grind
 rw [e3,Nat.add_mul_div_left _ _ (Nat.pow_pos (by omega)),Nat.add_mul_mod_self_left]
theorem short_step {a out:List Nat} {n d r:Nat} (hn:0 < n) (hna:n≤a.length) (hnl:n≤out.length) (h:val (a.drop n) = val (out.drop n) * d + r) (t:Nat) (ht:t = r * 4294967296 + a[n - 1]'(by omega)) :
  val (a.drop (n - 1)) = val ((out.set (n - 1) (t / d)).drop (n - 1)) * d + t % d:=by
 rw [List.drop_eq_getElem_cons (show n - 1 < a.length from by omega),List.drop_eq_getElem_cons (show n - 1 < (out.set (n - 1) (t / d)).length from by simp;omega)]
 rw [List.getElem_set_self,List.drop_set_of_lt (by omega),show n - 1 + 1 = n from by omega]
 simp only [val_cons]
 rw [h]
 have:=Nat.div_add_mod t d
 grind
end Rc
namespace Rc
def padL (n x:Nat):List Nat:=(List.range n).map fun i=>x / 4294967296 ^ i % 4294967296
theorem padL_length (n x:Nat):(padL n x).length = n:=by simp [padL]
theorem padL_eq {l:List Nat} (hs:Small l):l = padL l.length (val l):=by
 apply List.ext_getElem
 ·simp [padL]
 ·intro i h1 h2
  simp only [padL,List.getElem_map,List.getElem_range]
  rw [val_drop_div l hs i,List.drop_eq_getElem_cons h1,val_cons]
  have:=hs.get i h1
  omega
theorem padL_of {l:List Nat} {n x:Nat} (hs:Small l) (hl:l.length = n) (hv:val l = x):l = padL n x:=by subst hl;subst hv;exact padL_eq hs
theorem small_padL (n x:Nat):Small (padL n x):=by
 intro y hy
 simp only [padL,List.mem_map] at hy
 obtain ⟨i,_,rfl⟩:=hy
 omega
theorem val_padL {n x:Nat} (h:x < 4294967296 ^ n):val (padL n x) = x:=by
 have e:padL n x = limbs x ++ List.replicate (n - (limbs x).length) 0:=by
  refine (padL_of ((small_limbs x).append (Small.replicate _)) ?_ ?_).symm
  ·have:=limbs_length_le.2 h;simp;omega
  ·rw [val_append,val_replicate,val_limbs];simp
 rw [e,val_append,val_replicate,val_limbs];simp
theorem left_or {o d k:Nat} (hk:k < 32) (ho:o < 2 ^ k):(d * 2 ^ k % 4294967296) % 2 ^ k = 0∧d * 2 ^ k % 4294967296 + o < 4294967296:=by
 have e:(4294967296:Nat) = 2 ^ (32 - k) * 2 ^ k:=by rw [← Nat.pow_add,show 32 - k + k = 32 from by omega]
 have h1:d * 2 ^ k % 4294967296 = (d % 2 ^ (32 - k)) * 2 ^ k:=by rw [e,Nat.mul_mod_mul_right]
 have hp:0 < 2 ^ (32 - k):=Nat.pow_pos (by omega)
 have h2:d % 2 ^ (32 - k) < 2 ^ (32 - k):=Nat.mod_lt _ hp
 rw [h1]
 refine ⟨Nat.mul_mod_left _ _,?_⟩
 rw [e]
 generalize 2 ^ (32 - k) = m at *
 generalize 2 ^ k = p at *
 have:(d % m + 1) * p≤m * p:=Nat.mul_le_mul_right _ h2
 rw [Nat.add_mul,Nat.one_mul] at this
 omega
theorem left_bound {d k:Nat} (hk:k < 32) (hd:d < 4294967296):d * 2 ^ k < 18446744073709551616∧d * 2 ^ k / 4294967296 < 2 ^ k∧(2:Nat) ^ k≤2147483648:=by
 have h1:(2:Nat) ^ k≤2 ^ 31:=Nat.pow_le_pow_right (by omega) (by omega)
 have hp:0 < (2:Nat) ^ k:=Nat.pow_pos (by omega)
 have h2:d * 2 ^ k≤4294967295 * 2 ^ k:=Nat.mul_le_mul_right _ (by omega)
 refine ⟨by omega,?_,by omega⟩
 rw [Nat.div_lt_iff_lt_mul (by omega)]
 omega
theorem shift_split (x k:Nat):x / 4294967296 ^ (k / 32) / 2 ^ (k % 32) = x / 2 ^ k:=by
 rw [pow32,Nat.div_div_eq_div_mul,← Nat.pow_add,Nat.div_add_mod]
end Rc
namespace Rc
open Go
theorem or_add {a b:Nat} (i:Nat) (ha:a % 2 ^ i = 0) (hb:b < 2 ^ i):a ||| b = a + b:=by
 have h:a = (a / 2 ^ i) <<< i:=by
  rw [Nat.shiftLeft_eq]
  have:=Nat.div_add_mod a (2 ^ i)
  rw [ha,Nat.add_zero] at this
  rw [Nat.mul_comm];exact this.symm
 rw [h,← Nat.shiftLeft_add_eq_or_of_lt hb]
theorem ofInt_nat (w n:Nat) (h:n < 2 ^ w):(BitVec.ofInt w (n:Int)).toNat = n:=by
 rw [show (BitVec.ofInt w (n:Int)) = BitVec.ofNat w n from by
  apply BitVec.eq_of_toNat_eq
  rw [BitVec.toNat_ofInt,BitVec.toNat_ofNat]
  have:((n:Int) % ((2 ^ w:Nat):Int)) = ((n % 2 ^ w:Nat):Int):=by rw [Int.natCast_emod]
  rw [this];rfl]
 rw [BitVec.toNat_ofNat,Nat.mod_eq_of_lt h]
theorem wrap_nat_u64 {n:Nat} (h:n < 18446744073709551616):IntKind.u64.wrap (n:Int) = n:=wu64 (by omega)
theorem wrap_nat_u32 {n:Nat} (h:n < 4294967296):IntKind.u32.wrap (n:Int) = n:=wu32 (by omega)
theorem or64 {a b:Nat} (i:Nat) (ha:a % 2 ^ i = 0) (hb:b < 2 ^ i) (h:a + b < 18446744073709551616) :
  IntKind.u64.wrap ((BitVec.ofInt IntKind.u64.bits (a:Int) ||| BitVec.ofInt IntKind.u64.bits (b:Int)).toNat) = ((a + b:Nat):Int):=by
 rw [BitVec.toNat_or,ofInt_nat _ a (by simp only [IntKind.bits];omega),ofInt_nat _ b (by simp only [IntKind.bits];omega),or_add i ha hb]
 exact wrap_nat_u64 h
theorem or64' {a b:Nat} (i:Nat) (ha:a % 2 ^ i = 0) (hb:b < 2 ^ i) (h:a + b < 18446744073709551616) :
  IntKind.u64.wrap ((BitVec.ofInt IntKind.u64.bits (b:Int) ||| BitVec.ofInt IntKind.u64.bits (a:Int)).toNat) = ((b + a:Nat):Int):=by
 rw [BitVec.toNat_or,ofInt_nat _ a (by simp only [IntKind.bits];omega),ofInt_nat _ b (by simp only [IntKind.bits];omega),Nat.or_comm,or_add i ha hb,Nat.add_comm b a]
 exact wrap_nat_u64 h
theorem or32' {a b:Nat} (i:Nat) (ha:a % 2 ^ i = 0) (hb:b < 2 ^ i) (h:a + b < 4294967296) :
  IntKind.u32.wrap ((BitVec.ofInt IntKind.u32.bits (b:Int) ||| BitVec.ofInt IntKind.u32.bits (a:Int)).toNat) = ((b + a:Nat):Int):=by
 rw [BitVec.toNat_or,ofInt_nat _ a (by simp only [IntKind.bits];omega),ofInt_nat _ b (by simp only [IntKind.bits];omega),Nat.or_comm,or_add i ha hb,Nat.add_comm b a]
 exact wrap_nat_u32 h
theorem shl64 {c:Int} (x c':Nat) (hc:min c.toNat IntKind.u64.bits = c') (h:x * 2 ^ c' < 18446744073709551616):IntKind.u64.wrap ((x:Int) * 2 ^ (min c.toNat IntKind.u64.bits)) = ((x * 2 ^ c':Nat):Int):=by
 rw [hc,show ((x:Int) * 2 ^ c') = ((x * 2 ^ c':Nat):Int) from by rw [Int.natCast_mul,Int.natCast_pow];rfl]
 exact wrap_nat_u64 h
theorem minbits64 {c:Nat} (h:c≤64):min ((c:Int)).toNat IntKind.u64.bits = c:=by simp only [IntKind.bits];omega
theorem wu8 {x r:Int} (h:x % 256 = r):IntKind.u8.wrap x = r:=by
 subst h;simp [IntKind.wrap,IntKind.bits,IntKind.signed]
theorem tdivN (a b:Nat):((a:Int)).tdiv (b:Int) = ((a / b:Nat):Int):=by rw [Int.tdiv_eq_ediv_of_nonneg (by omega)];rfl
theorem tmodN (a b:Nat):((a:Int)).tmod (b:Int) = ((a % b:Nat):Int):=by rw [Int.tmod_eq_emod_of_nonneg (by omega)];rfl
theorem getElem?_bytes (s:ByteArray) (j:Nat):s[j]? = s.data.toList[j]?:=by
 by_cases h:j < s.size
 ·rw [getElem?_pos s j h]
  have h':j < s.data.toList.length:=by simpa using h
  rw [List.getElem?_eq_getElem h']
  rfl
 ·rw [getElem?_neg s j h,List.getElem?_eq_none (by simpa using h)]
theorem len8_get {s:ByteArray} (hs:s.data.toList = (List.range 256).map fun i=>UInt8.ofNat (bl i)) {x:Nat} (hx:x < 256):s[x]? = some (UInt8.ofNat (bl x)):=by
 rw [getElem?_bytes,hs];simp [hx]
theorem len8_val {x:Nat} (hx:x < 256):((UInt8.ofNat (bl x)).toNat:Int) = (bl x:Int):=by
 have:=bl_le_of_lt (n:=x) (k:=8) hx
 rw [UInt8.toNat_ofNat_of_lt' (by simp [UInt8.size];omega)]
end Rc
namespace Rc
open Go Go.RowKit
set_option maxRecDepth 10000
def est (top s2 v1 v2:Nat):Nat:=
 if top < 4294967296 then min ((top * 4294967296 + s2) / (v1 * 4294967296 + v2)) 4294967295
 else max (min ((top * 4294967296 + s2) / (v1 * 4294967296 + v2)) 4294967295) ((top - 4294967296) / v1)
theorem est_a1 {A r s2 b:Nat} (h:r * 4294967296 + s2 < b):(A + r) * 4294967296 + s2 < A * 4294967296 + b:=by
 rw [Nat.add_mul,Nat.add_assoc];exact Nat.add_lt_add_left h _
theorem est_a2 {a W T p:Nat} (h:a + W≤T) (hp:p≤W):a + p≤T:=Nat.le_trans (Nat.add_le_add_left hp _) h
theorem est_stop1 {top s2 v1 v2 q r:Nat} (h1:0 < v1) (hq:q < 4294967296) (h:q * v2≤r * 4294967296 + s2) (ht:q * v1 + r = top):q≤est top s2 v1 v2:=by
 have hW:q≤(top * 4294967296 + s2) / (v1 * 4294967296 + v2):=by
  rw [Nat.le_div_iff_mul_le (by omega)]
  subst ht
  have:q * (v1 * 4294967296 + v2) = q * v1 * 4294967296 + q * v2:=by grind
  rw [this];omega
 have hm:q≤min ((top * 4294967296 + s2) / (v1 * 4294967296 + v2)) 4294967295:=Nat.le_min.2 ⟨hW,by omega⟩
 unfold est
 split
 ·exact hm
 ·exact Nat.le_trans hm (Nat.le_max_left _ _)
theorem est_stop2 {top s2 v1 v2 q r:Nat} (h1:0 < v1) (hr:4294967296≤r) (ht:q * v1 + r = top):q≤est top s2 v1 v2:=by
 have hm:q≤(top - 4294967296) / v1:=by
  rw [Nat.le_div_iff_mul_le h1];omega
 unfold est
 rw [if_neg (by omega)]
 exact Nat.le_trans hm (Nat.le_max_right _ _)
theorem est_lt {top s2 v1 v2 q r:Nat} (h1:0 < v1) (hr:r < 4294967296) (ht:q * v1 + r = top) (h:4294967296≤q ∨ r * 4294967296 + s2 < q * v2):est top s2 v1 v2 < q:=by
 have hm:min ((top * 4294967296 + s2) / (v1 * 4294967296 + v2)) 4294967295 < q:=by
  rcases h with h | h
  ·exact Nat.lt_of_le_of_lt (Nat.min_le_right _ _) (Nat.lt_of_lt_of_le (Nat.lt_succ_self 4294967295) h)
  ·refine Nat.lt_of_le_of_lt (Nat.min_le_left _ _) ?_
   rw [Nat.div_lt_iff_lt_mul (by omega)]
   subst ht
   have:q * (v1 * 4294967296 + v2) = q * v1 * 4294967296 + q * v2:=by grind
   rw [this];exact est_a1 h
 unfold est
 split
 ·exact hm
 ·refine Nat.max_lt.2 ⟨hm,?_⟩
  rw [Nat.div_lt_iff_lt_mul h1];omega
theorem est_le {top s2 v1 v2:Nat} (h1:0 < v1) (h2:s2 < 4294967296):est top s2 v1 v2≤top / v1:=by
 have hm:min ((top * 4294967296 + s2) / (v1 * 4294967296 + v2)) 4294967295≤top / v1:=by
  refine Nat.le_trans (Nat.min_le_left _ _) ?_
  rw [Nat.le_div_iff_mul_le h1]
  have hd:=Nat.div_mul_le_self (top * 4294967296 + s2) (v1 * 4294967296 + v2)
  generalize (top * 4294967296 + s2) / (v1 * 4294967296 + v2) = q at *
  have:q * (v1 * 4294967296 + v2) = q * v1 * 4294967296 + q * v2:=by grind
  rw [this] at hd
  omega
 unfold est
 split
 ·exact hm
 ·exact Nat.max_le.2 ⟨hm,Nat.div_le_div_right (by omega)⟩
theorem est_bounds {top s2 v1 v2 lo lov e S V:Nat} (he:0 < e) (hv1:2147483648≤v1) (hv1':v1 < 4294967296) (hv2:v2 < 4294967296) (hs2:s2 < 4294967296) (hlo:lo < e) (hlov:lov < e)
  (hS:S = lo + e * (top * 4294967296 + s2)) (hV:V = lov + e * (v1 * 4294967296 + v2)) (hSV:S < V * 4294967296) :
  S / V≤est top s2 v1 v2∧est top s2 v1 v2≤S / V + 1:=by
 have hVpos:0 < V:=by
  rw [hV];have:0 < e * (v1 * 4294967296 + v2):=Nat.mul_pos he (by omega)
  omega
 have hqB:S / V < 4294967296:=by rw [Nat.div_lt_iff_lt_mul hVpos,Nat.mul_comm];exact hSV
 have htop:top < (v1 + 1) * 4294967296:=by
  have h1:e * (top * 4294967296) < e * ((v1 * 4294967296 + v2 + 1) * 4294967296):=by
   have h2:e * (top * 4294967296)≤S:=by rw [hS,Nat.mul_add];omega
   have h3:V≤e * (v1 * 4294967296 + v2 + 1):=by rw [hV,Nat.mul_add e _ 1,Nat.mul_one];omega
   have h4:V * 4294967296≤e * (v1 * 4294967296 + v2 + 1) * 4294967296:=Nat.mul_le_mul_right _ h3
   rw [Nat.mul_assoc] at h4
   omega
  have:=Nat.lt_of_mul_lt_mul_left h1
  omega
 constructor
 ·have hd:=Nat.div_mul_le_self S V
  have hm:S / V≤min ((top * 4294967296 + s2) / (v1 * 4294967296 + v2)) 4294967295:=by
   refine Nat.le_min.2 ⟨?_,by omega⟩
   rw [Nat.le_div_iff_mul_le (by omega)]
   have h1:e * (S / V * (v1 * 4294967296 + v2)) < e * (top * 4294967296 + s2 + 1):=by
    have h2:S / V * (e * (v1 * 4294967296 + v2))≤S / V * V:=Nat.mul_le_mul_left _ (by rw [hV];omega)
    have h3:e * (S / V * (v1 * 4294967296 + v2)) = S / V * (e * (v1 * 4294967296 + v2)):=by grind
    rw [Nat.mul_add e _ 1,Nat.mul_one,h3]
    omega
   have:=Nat.lt_of_mul_lt_mul_left h1
   omega
  unfold est
  split
  ·exact hm
  ·exact Nat.le_trans hm (Nat.le_max_left _ _)
 ·
  have hqW:∀ q,q≤est top s2 v1 v2→q≤4294967296∧q * (v1 * 4294967296 + v2)≤top * 4294967296 + s2 ∨ q≤4294967295∧q * (v1 * 4294967296 + v2)≤top * 4294967296 + s2:=by
   intro q hq
   have hleft:q≤min ((top * 4294967296 + s2) / (v1 * 4294967296 + v2)) 4294967295→q≤4294967295∧q * (v1 * 4294967296 + v2)≤top * 4294967296 + s2:=by
    intro h
    obtain ⟨h1,h2⟩:=Nat.le_min.1 h
    exact ⟨h2,(Nat.le_div_iff_mul_le (by omega)).1 h1⟩
   unfold est at hq
   split at hq
   ·exact .inr (hleft hq)
   ·by_cases hc:q≤min ((top * 4294967296 + s2) / (v1 * 4294967296 + v2)) 4294967295
    ·exact .inr (hleft hc)
    ·have h2:q≤(top - 4294967296) / v1:=by
      rcases Nat.le_total (min ((top * 4294967296 + s2) / (v1 * 4294967296 + v2)) 4294967295) ((top - 4294967296) / v1) with h | h
      ·rwa [Nat.max_eq_right h] at hq
      ·rw [Nat.max_eq_left h] at hq;exact absurd hq hc
     have h3:q * v1≤top - 4294967296:=(Nat.le_div_iff_mul_le (by omega)).1 h2
     have h4:q≤4294967296:=by
      apply Classical.byContradiction
      intro hn
      have:4294967297 * v1≤q * v1:=Nat.mul_le_mul_right _ (by omega)
      omega
     refine .inl ⟨h4,?_⟩
     have h5:q * v2≤4294967296 * 4294967295:=Nat.mul_le_mul h4 (by omega)
     have:q * (v1 * 4294967296 + v2) = q * v1 * 4294967296 + q * v2:=by grind
     rw [this];omega
  have hq:=hqW _ (Nat.le_refl _)
  generalize est top s2 v1 v2 = q at *
  have hq':q≤4294967296∧q * (v1 * 4294967296 + v2)≤top * 4294967296 + s2:=by rcases hq with h | h <;> exact ⟨by omega,h.2⟩
  obtain ⟨hqB',hqW'⟩:=hq'
  rcases Nat.eq_zero_or_pos q with h0 | h0
  ·rw [h0];exact Nat.zero_le _
  ·have:q - 1≤S / V:=by
    rw [Nat.le_div_iff_mul_le hVpos]
    obtain ⟨p,rfl⟩:∃ p,q = p + 1:=⟨q - 1,by omega⟩
    simp only [Nat.add_sub_cancel]
    have h3:V≤e * (v1 * 4294967296 + v2 + 1):=by rw [hV,Nat.mul_add e _ 1,Nat.mul_one];omega
    have h4:p * V≤p * (e * (v1 * 4294967296 + v2 + 1)):=Nat.mul_le_mul_left _ h3
    have h5:p * (e * (v1 * 4294967296 + v2 + 1)) = e * (p * (v1 * 4294967296 + v2) + p):=by grind
    have h6:p * (v1 * 4294967296 + v2) + p≤top * 4294967296 + s2:=by
     rw [Nat.add_mul,Nat.one_mul] at hqW'
     have hW:p≤v1 * 4294967296 + v2:=by omega
     exact est_a2 hqW' hW
    have h7:=Nat.mul_le_mul_left e h6
    rw [hS]
    omega
   generalize S / V = z at *
   omega
theorem get_part {pre s post:List Nat} {j i:Nat} (hj:j = pre.length + i) (h:i < s.length):((pre ++ s ++ post).map u32L)[j]? = some (u32L s[i]):=by
 subst hj
 rw [List.getElem?_map,List.getElem?_append_left (by simp;omega),List.getElem?_append_right (by omega)]
 simp [h]
theorem splice_part {pre s post:List Nat} {j i x:Nat} (hj:j = pre.length + i) (h:i < s.length):splice ((pre ++ s ++ post).map u32L) j [u32L x] = (pre ++ s.set i x ++ post).map u32L:=by
 subst hj
 rw [splice_u32 (by simp;omega),List.set_append_left _ _ (by simp;omega),List.set_append_right _ _ (by omega)]
 simp
theorem red_step {s0 s v:List Nat} {i c b q:Nat} (hi:i < s.length) (hi0:i < s0.length) (hv:i < v.length) (h:val (s.take i) + q * val (v.take i) = val (s0.take i) + (c + b) * 4294967296 ^ i)
  (hsi:s.drop i = s0.drop i) (x b' t:Nat) (ht:t = c + q * v[i]) (hx:x + t % 4294967296 + b = s[i] + 4294967296 * b') :
  val ((s.set i x).take (i + 1)) + q * val (v.take (i + 1)) = val (s0.take (i + 1)) + (t / 4294967296 + b') * 4294967296 ^ (i + 1):=by
 rw [val_set_take _ _ _ hi,val_take_succ v i hv,val_take_succ s0 i hi0]
 have he:s0[i] = s[i]:=by
  have:=congrArg (fun l=>l[0]?) hsi
  simp only [List.getElem?_drop,Nat.add_zero] at this
  rw [List.getElem?_eq_getElem hi,List.getElem?_eq_getElem hi0] at this
  simpa using this.symm
 rw [he,Nat.pow_succ]
 have hd:=Nat.div_add_mod t 4294967296
 generalize t / 4294967296 = T at *
 generalize t % 4294967296 = m at *
 generalize 4294967296 ^ i = p at *
 generalize val (s.take i) = A at *
 generalize val (v.take i) = Bv at *
 generalize val (s0.take i) = C at *
 have e1:p * x + p * m + p * b = p * s[i] + p * (4294967296 * b'):=by rw [← Nat.mul_add,← Nat.mul_add,← Nat.mul_add,hx]
 have e2:p * (4294967296 * T) + p * m = p * c + p * (q * v[i]):=by rw [← Nat.mul_add,hd,ht,Nat.mul_add]
 grind
theorem red_drop {s0 s:List Nat} {i x:Nat} (h:s.drop i = s0.drop i):(s.set i x).drop (i + 1) = s0.drop (i + 1):=by
 rw [List.drop_set_of_lt (by omega)]
 have:=congrArg (List.drop 1) h
 simpa [List.drop_drop,Nat.add_comm] using this
theorem get_of_drop {s0 s:List Nat} {i:Nat} (h:s.drop i = s0.drop i) (hi:i < s.length) (hi0:i < s0.length):s[i] = s0[i]:=by
 have:=congrArg (fun l=>l[0]?) h
 simp only [List.getElem?_drop,Nat.add_zero] at this
 rw [List.getElem?_eq_getElem hi,List.getElem?_eq_getElem hi0] at this
 simpa using this
theorem sub_digit {s l b:Nat} (hs:s < 4294967296) (hl:l + b≤4294967296) :
  let x:=(s + (18446744073709551616 - (l + b))) % 18446744073709551616
  x % 4294967296 + l + b = s + 4294967296 * (x / 9223372036854775808)∧x / 9223372036854775808≤1:=by
 intro x
 by_cases h:l + b≤s
 ·have:x = s - (l + b):=by show _ % _ = _;omega
  rw [this];omega
 ·have:x = s + (18446744073709551616 - (l + b)):=Nat.mod_eq_of_lt (by omega)
  rw [this];omega
theorem red_total {s0 s v:List Nat} {n c b q x b':Nat} (hl:s.length = n + 1) (hl0:s0.length = n + 1) (hvl:v.length = n) (h:val (s.take n) + q * val (v.take n) = val (s0.take n) + (c + b) * 4294967296 ^ n)
  (hd:s.drop n = s0.drop n) (hx:x + c + b = s[n] + 4294967296 * b'):val (s.set n x) + q * val v = val s0 + b' * 4294967296 ^ (n + 1):=by
 have e1:=val_set_take s n x (by omega)
 rw [val_take_all _ _ (by simp;omega)] at e1
 have e2:=val_take_succ s0 n (by omega)
 rw [val_take_all _ _ (by omega)] at e2
 rw [val_take_all v _ (by omega)] at h
 have e3:=get_of_drop hd (by omega) (by omega)
 rw [e1,e2,Nat.pow_succ]
 rw [e3] at hx
 generalize 4294967296 ^ n = p at *
 have e4:p * x + p * c + p * b = p * s0[n] + p * (4294967296 * b'):=by rw [← Nat.mul_add,← Nat.mul_add,← Nat.mul_add,hx]
 grind
theorem red_fin0 {a S V q:Nat} (hq:q = S / V ∨ q = S / V + 1) (hV:0 < V) (h:a + q * V = S):q = S / V∧a = S % V:=by
 have h1:q≤S / V:=by rw [Nat.le_div_iff_mul_le hV];omega
 have h2:q = S / V:=by rcases hq with h | h <;> omega
 have h3:=Nat.div_add_mod S V
 rw [Nat.mul_comm] at h3
 rw [← h2] at h3
 exact ⟨h2,by omega⟩
theorem red_fin1 {a S V q M:Nat} (hq:q = S / V ∨ q = S / V + 1) (hV:0 < V) (ha:a < M) (h:a + q * V = S + M):q = S / V + 1∧a + V = M + S % V:=by
 have h3:=Nat.div_add_mod S V
 rw [Nat.mul_comm] at h3
 have h4:=Nat.mod_lt S hV
 rcases hq with h' | h'
 ·rw [h'] at h;generalize S / V * V = z at *;omega
 ·refine ⟨h',?_⟩
  rw [h',Nat.add_mul,Nat.one_mul] at h
  generalize S / V * V = z at *
  omega
theorem red_back {s3 s2 v:List Nat} {n c V R:Nat} (hs3:Small s3) (hl:s3.length = n + 1) (hl2:s2.length = n + 1) (hvl:v.length = n) (h:val (s3.take n) + c * 4294967296 ^ n = val (s2.take n) + val (v.take n)) (hd:s3.drop n = s2.drop n)
  (hV:val v = V) (hR:R < 4294967296 ^ (n + 1)) (ht:val s2 + V = 4294967296 ^ (n + 1) + R):val (s3.set n ((s3[n] + c) % 4294967296)) = R:=by
 have e1:=val_set_take s3 n ((s3[n] + c) % 4294967296) (by omega)
 rw [val_take_all _ _ (by simp;omega)] at e1
 have e2:=val_take_succ s2 n (by omega)
 rw [val_take_all _ _ (by omega)] at e2
 rw [val_take_all v _ (by omega),hV] at h
 have e3:=get_of_drop hd (by omega) (by omega)
 have hlt:=val_lt (hs3.set n ((s3[n] + c) % 4294967296) (Nat.mod_lt _ (by decide)))
 have hlen:(s3.set n ((s3[n] + c) % 4294967296)).length = n + 1:=by simp [hl]
 rw [hlen] at hlt
 have hdm:=Nat.div_add_mod (s3[n] + c) 4294967296
 rw [e1] at hlt ⊢
 rw [e2,← e3] at ht
 generalize hm:(s3[n] + c) % 4294967296 = m at *
 generalize hz:(s3[n] + c) / 4294967296 = z at *
 rw [Nat.pow_succ] at hlt hR ht
 generalize 4294967296 ^ n = p at *
 generalize val (s3.take n) = A at *
 generalize val (s2.take n) = C at *
 have e4:p * (4294967296 * z) + p * m = p * s3[n] + p * c:=by rw [← Nat.mul_add,← Nat.mul_add,hdm]
 have e5:A + p * m + p * 4294967296 * z = p * 4294967296 + R:=by grind
 have hz1:z = 1:=by
  rcases Nat.lt_or_ge z 1 with h1 | h1
  ·have:z = 0:=by omega
   subst this;omega
  ·rcases Nat.lt_or_ge 1 z with h2 | h2
   ·have:=Nat.mul_le_mul_left (p * 4294967296) h2
    omega
   ·omega
 subst hz1
 omega
theorem norm_div {b:List Nat} (hc:Canon b) (hn:0 < b.length):0 < b[b.length - 1]'(by omega)∧32 - bl (b[b.length - 1]'(by omega)) < 32∧(limbs (val b * 2 ^ (32 - bl (b[b.length - 1]'(by omega))))).length = b.length ∧
  2147483648≤(limbs (val b * 2 ^ (32 - bl (b[b.length - 1]'(by omega))))).getD (b.length - 1) 0:=by
 have htop:b[b.length - 1]'(by omega)≠0:=by
  have h:=hc.2 (by intro e;rw [e] at hn;simp at hn)
  rwa [List.getLast_eq_getElem] at h
 have hs:=hc.1.get (b.length - 1) (by omega)
 have h1:=bl_pos htop
 have h2:bl (b[b.length - 1]'(by omega))≤32:=bl_le_of_lt hs
 have hb:=bl_limbs hc hn
 generalize b[b.length - 1]'(by omega) = t at *
 have hv0:val b≠0:=by intro e;rw [e,bl_zero] at hb;omega
 have g1:=bl_lt (val b)
 have g2:=bl_le hv0
 have hbl:bl (val b * 2 ^ (32 - bl t)) = 32 * b.length:=by
  apply bl_unique
  ·have:32 * b.length = bl (val b) + (32 - bl t):=by omega
   rw [this,Nat.pow_add]
   exact Nat.mul_lt_mul_of_pos_right g1 (Nat.pow_pos (by decide))
  ·intro _
   have:32 * b.length - 1 = (bl (val b) - 1) + (32 - bl t):=by omega
   rw [this,Nat.pow_add]
   exact Nat.mul_le_mul_right _ g2
 have hlt:=bl_lt (val b * 2 ^ (32 - bl t))
 have hV0:val b * 2 ^ (32 - bl t)≠0:=Nat.mul_ne_zero hv0 (Nat.ne_of_gt (Nat.pow_pos (by decide)))
 have hle:=bl_le hV0
 rw [hbl] at hlt hle
 generalize val b * 2 ^ (32 - bl t) = V at *
 have hl1:(limbs V).length≤b.length:=limbs_length_le.2 (by rw [pow32];exact hlt)
 have hl2:¬ (limbs V).length≤b.length - 1:=by
  rw [limbs_length_le,pow32]
  have:=Nat.pow_le_pow_right (n:=2) (by decide) (show 32 * (b.length - 1)≤32 * b.length - 1 by omega)
  omega
 have hl:(limbs V).length = b.length:=by omega
 refine ⟨by omega,by omega,hl,?_⟩
 have hb2:=bl_limbs (canon_limbs V) (by omega)
 rw [val_limbs,hbl] at hb2
 rw [getD_of (by omega)]
 have e:(limbs V)[(limbs V).length - 1]'(by omega) = (limbs V)[b.length - 1]'(by omega):=by congr 1;omega
 rw [e] at hb2
 have h32:bl ((limbs V)[b.length - 1]'(by omega)) = 32:=by omega
 have:=bl_le (n:=(limbs V)[b.length - 1]'(by omega)) (by intro e0;rw [e0] at h32;simp [bl_zero] at h32)
 rw [h32] at this
 simpa using this
theorem dm_split {us:List Nat} {k n:Nat} (hk:0 < k) (h:k + n≤us.length):∃ pre s post,us = pre ++ s ++ post∧pre.length = k - 1∧s.length = n + 1:=
 ⟨us.take (k - 1),(us.drop (k - 1)).take (n + 1),(us.drop (k - 1)).drop (n + 1),by rw [List.append_assoc,List.take_append_drop,List.take_append_drop],by simp;omega,by simp;omega⟩
theorem dm_seg {pre s post:List Nat} {n V:Nat} (hs:Small (pre ++ s ++ post)) (hl:s.length = n + 1) (hV:V < 4294967296 ^ n) (h:val ((pre ++ s ++ post).drop (pre.length + 1)) < V):Small s∧Small pre∧Small post∧val post = 0∧val s < V * 4294967296:=by
 have h1:Small s:=fun x hx=>hs x (by simp [hx])
 refine ⟨h1,fun x hx=>hs x (by simp [hx]),fun x hx=>hs x (by simp [hx]),?_⟩
 match s,hl with
 | d :: t,hl=>
  have hd:(pre ++ (d :: t) ++ post).drop (pre.length + 1) = t ++ post:=by
   rw [List.append_assoc,← List.drop_drop,List.drop_left];rfl
  rw [hd,val_append] at h
  have ht:t.length = n:=by simpa using hl
  rw [ht] at h
  have hp:val post = 0:=by
   rcases Nat.eq_zero_or_pos (val post) with h0 | h0
   ·exact h0
   ·have:=Nat.mul_le_mul_left (4294967296 ^ n) h0
    omega
  refine ⟨hp,?_⟩
  have hd:=h1.head
  rw [hp] at h
  simp only [val]
  omega
theorem dm_step {pre s post out:List Nat} {n V A k:Nat} (hk:pre.length = k) (hko:k < out.length) (hp:val post = 0) (hV0:0 < V) (hV:V < 4294967296 ^ n)
  (h:val (pre ++ s ++ post) + V * (4294967296 ^ (k + 1) * val (out.drop (k + 1))) = A) :
  val (pre ++ padL (n + 1) (val s % V) ++ post) + V * (4294967296 ^ k * val ((out.set k (val s / V)).drop k)) = A∧val ((pre ++ padL (n + 1) (val s % V) ++ post).drop k) < V:=by
 have hm:=Nat.mod_lt (val s) hV0
 have hpl:val (padL (n + 1) (val s % V)) = val s % V:=val_padL (Nat.lt_trans hm (Nat.lt_of_lt_of_le hV (Nat.pow_le_pow_right (by decide) (by omega))))
 constructor
 ·rw [List.drop_eq_getElem_cons (show k < (out.set k (val s / V)).length by simpa using hko),List.getElem_set_self,List.drop_set_of_lt (by omega)]
  simp only [val]
  rw [val_append,val_append,hp,hpl,hk]
  rw [val_append,val_append,hp,hk] at h
  have:=Nat.div_add_mod (val s) V
  generalize val s / V = q at *
  generalize val s % V = r at *
  rw [← h,← this,Nat.pow_succ]
  simp only [Nat.mul_zero,Nat.add_zero]
  generalize 4294967296 ^ k = p at *
  grind
 ·subst hk
  rw [List.append_assoc,List.drop_left,val_append,hp,hpl]
  simpa using hm
theorem dm_fin {x va vb sh o:Nat} (h:x + vb * 2 ^ sh * o = va * 2 ^ sh) (hx:x < vb * 2 ^ sh):o = va / vb∧x / 2 ^ sh = va % vb:=by
 have hp:0 < 2 ^ sh:=Nat.pow_pos (by decide)
 have hvb:0 < vb:=by
  rcases Nat.eq_zero_or_pos vb with h0 | h0
  ·subst h0;simp at hx
  ·exact h0
 have hdv:2 ^ sh ∣ x:=by
  have h1:2 ^ sh ∣ va * 2 ^ sh:=Nat.dvd_mul_left _ _
  rw [← h] at h1
  exact (Nat.dvd_add_left ⟨vb * o,by grind⟩).1 h1
 obtain ⟨y,rfl⟩:=hdv
 have hy:y + vb * o = va:=by
  have:2 ^ sh * (y + vb * o) = 2 ^ sh * va:=by grind
  exact Nat.eq_of_mul_eq_mul_left hp this
 have hyb:y < vb:=by
  rw [Nat.mul_comm] at hx
  exact Nat.lt_of_mul_lt_mul_right hx
 rw [Nat.mul_div_cancel_left _ hp,← hy]
 refine ⟨?_,?_⟩
 ·rw [Nat.add_comm,Nat.mul_add_div hvb,Nat.div_eq_of_lt hyb,Nat.add_zero]
 ·rw [Nat.add_comm,Nat.mul_add_mod,Nat.mod_eq_of_lt hyb]
theorem dm_start {a:List Nat} {n sh V A L:Nat} (hs:Small a) (hL:L = a.length + 1) (hA:A = val a * 2 ^ sh) (hsh:sh < 32) (hn:n≤a.length) (hV:4294967296 ^ (n - 1) * 2 ^ sh≤V) (hn0:0 < n) :
  A < 4294967296 ^ L∧val ((padL L A).drop (a.length - n + 1)) < V:=by
 have hlt:=val_lt hs
 have hsh2:2 ^ sh < 4294967296:=Nat.lt_of_lt_of_le (Nat.pow_lt_pow_right (by decide) hsh) (by decide)
 have hp:0 < 2 ^ sh:=Nat.pow_pos (by decide)
 have hA1:A < 4294967296 ^ a.length * 2 ^ sh:=by subst hA;exact Nat.mul_lt_mul_of_pos_right hlt hp
 have hAL:A < 4294967296 ^ L:=by
  subst hL;rw [Nat.pow_succ]
  exact Nat.lt_of_lt_of_le hA1 (Nat.mul_le_mul_left _ (by omega))
 refine ⟨hAL,?_⟩
 rw [← val_drop_div _ (small_padL _ _),val_padL hAL]
 refine Nat.lt_of_lt_of_le ?_ hV
 rw [Nat.div_lt_iff_lt_mul (Nat.pow_pos (by decide))]
 refine Nat.lt_of_lt_of_le hA1 (Nat.le_of_eq ?_)
 have:a.length = (n - 1) + (a.length - n + 1):=by omega
 conv=>lhs;rw [this,Nat.pow_add]
 grind
theorem estimate_bounds {s v:List Nat} (hs:Small s) (hv:Small v) (hsl:s.length = v.length + 1) (hn:2≤v.length) (htop:2147483648≤v.getD (v.length - 1) 0) (hlt:val s < val v * 4294967296) :
  val s / val v≤est (s.getD v.length 0 * 4294967296 + s.getD (v.length - 1) 0) (s.getD (v.length - 2) 0) (v.getD (v.length - 1) 0) (v.getD (v.length - 2) 0) ∧
  est (s.getD v.length 0 * 4294967296 + s.getD (v.length - 1) 0) (s.getD (v.length - 2) 0) (v.getD (v.length - 1) 0) (v.getD (v.length - 2) 0)≤val s / val v + 1:=by
 obtain ⟨n,hn2⟩:∃ n,v.length = n + 2:=⟨v.length - 2,by omega⟩
 have e1:=val_take_getD s n
 have e2:=val_take_getD s (n + 1)
 have e3:=val_take_getD s (n + 2)
 have g1:=val_take_getD v n
 have g2:=val_take_getD v (n + 1)
 rw [val_take_all s (n + 2 + 1) (by omega)] at e3
 rw [val_take_all v (n + 1 + 1) (by omega)] at g2
 rw [hn2] at htop ⊢
 simp only [Nat.add_sub_cancel,show n + 2 - 1 = n + 1 from rfl] at htop ⊢
 have l1:=val_lt (hs.take n)
 have l2:=val_lt (hv.take n)
 rw [List.length_take,Nat.min_eq_left (by omega)] at l1 l2
 refine est_bounds (lo:=val (s.take n)) (lov:=val (v.take n)) (e:=4294967296 ^ n) (Nat.pow_pos (by decide)) htop (hv.getD _) (hv.getD _) (hs.getD _) l1 l2 ?_ ?_ hlt
 ·rw [e3,e2,e1,Nat.pow_succ,Nat.pow_succ];grind
 ·rw [g2,g1,Nat.pow_succ];grind
theorem norm_ex {b:List Nat} (hc:Canon b) (hn:0 < b.length):∃ sh,32 - bl (b[b.length - 1]'(by omega)) = sh∧sh < 32∧(limbs (val b * 2 ^ sh)).length = b.length∧2147483648≤(limbs (val b * 2 ^ sh)).getD (b.length - 1) 0:=
 let ⟨_,h2,h3,h4⟩:=norm_div hc hn
 ⟨_,rfl,h2,h3,h4⟩
end Rc
namespace Rc
open Go
structure Zr where
 neg:Bool
 m:List Nat
 hm:Small m
def Zr.z (x:Zr):Int:=sgn x.neg (val x.m)
@[reducible] def zV (x:Zr):V:=V.agg [Leaf.val (.bool x.neg),natL x.m]
@[reducible] def zOf (z:Int):Zr:=⟨decide (z < 0),limbs z.natAbs,small_limbs _⟩
theorem zOf_z (z:Int):(zOf z).z = z:=by
 show sgn (decide (z < 0)) (val (limbs z.natAbs)) = z
 rw [val_limbs];exact sgn_natAbs z
structure Qr where
 neg:Bool
 n:List Nat
 d:List Nat
 hn:Small n
 hd:Small d
def Qr.q (x:Qr):Rat:=rq x.neg (val x.n) (val x.d)
@[reducible] def qV (x:Qr):V:=V.agg [Leaf.val (.bool x.neg),natL x.n,natL x.d]
@[reducible] def qOf (q:Rat):Qr:=⟨cneg q,limbs (cnum q),limbs (cden q),small_limbs _,small_limbs _⟩
theorem qOf_q (q:Rat):(qOf q).q = q:=by
 show rq (cneg q) (val (limbs (cnum q))) (val (limbs (cden q))) = q
 rw [val_limbs,val_limbs];exact rq_canon q
@[reducible] def qZero:Qr:=⟨false,[],[],Small.nil,Small.nil⟩
theorem qZero_q:qZero.q = 0:=by
 show rq false 0 0 = 0
 exact rq_zero _ _
theorem qV_zero:qV qZero = qV (qOf 0):=by
 show V.agg _ = V.agg [Leaf.val (.bool (cneg 0)),natL (limbs (cnum 0)),natL (limbs (cden 0))]
 rw [cneg_zero,cnum_zero,cden_zero,limbs_zero]
class Bn (n:Nat) (k:outParam Nat):Prop where
 le:(limbs n).length≤k
theorem Bn.use {n k k':Nat} [h:Bn n k] (hk:k≤k'):(limbs n).length≤k':=Nat.le_trans h.le hk
theorem Bn.lt {n k:Nat} (h:Bn n k):n < 4294967296 ^ k:=limbs_length_le.1 h.le
theorem Bn.of {n k:Nat} (h:n < 4294967296 ^ k):Bn n k:=⟨limbs_length_le.2 h⟩
theorem Bn.val {l:List Nat} {k:Nat} (hs:Small l) (h:l.length≤k):Bn (val l) k:=⟨Nat.le_trans (limbs_val_length hs) h⟩
theorem Bn.of_lt {n k:Nat} (h:n < 18446744073709551616) (hk:2≤k):(limbs n).length≤k:=Nat.le_trans (limbs_length_le (k:=2).2 h) hk
theorem mul_lt_pow {a b i j:Nat} (ha:a < 4294967296 ^ i) (hb:b < 4294967296 ^ j):a * b < 4294967296 ^ (i + j):=by
 rw [Nat.pow_add]
 rcases Nat.eq_zero_or_pos b with h | h
 ·subst h;exact Nat.mul_pos (Nat.pow_pos (by decide)) (Nat.pow_pos (by decide))
 ·exact Nat.lt_of_lt_of_le (Nat.mul_lt_mul_of_pos_right ha h) (Nat.mul_le_mul_left _ (Nat.le_of_lt hb))
theorem add_lt_pow {a b i j:Nat} (ha:a < 4294967296 ^ i) (hb:b < 4294967296 ^ j):a + b < 4294967296 ^ (i + j + 1):=by
 have h1:4294967296 ^ i≤4294967296 ^ (i + j):=Nat.pow_le_pow_right (by decide) (by omega)
 have h2:4294967296 ^ j≤4294967296 ^ (i + j):=Nat.pow_le_pow_right (by decide) (by omega)
 rw [Nat.pow_succ]
 omega
instance Bn.mul {a b i j:Nat} [ha:Bn a i] [hb:Bn b j]:Bn (a * b) (i + j):=Bn.of (mul_lt_pow ha.lt hb.lt)
instance Bn.add {a b i j:Nat} [ha:Bn a i] [hb:Bn b j]:Bn (a + b) (i + j + 1):=Bn.of (add_lt_pow ha.lt hb.lt)
instance Bn.dn {a i:Nat} [ha:Bn a i]:Bn (dn a) (i + 1):=by
 refine Bn.of ?_
 have:=ha.lt
 unfold Rc.dn
 split
 ·exact Nat.one_lt_pow (by omega) (by decide)
 ·rw [Nat.pow_succ];omega
theorem Bn.mono {a b i:Nat} (h:a≤b) (hb:Bn b i):Bn a i:=Bn.of (Nat.lt_of_le_of_lt h hb.lt)
instance Bn.div {a b i:Nat} [ha:Bn a i]:Bn (a / b) i:=Bn.mono (Nat.div_le_self _ _) ha
instance Bn.sub {a b i:Nat} [ha:Bn a i]:Bn (a - b) i:=Bn.mono (Nat.sub_le _ _) ha
instance Bn.mod {a b i:Nat} [ha:Bn a i]:Bn (a % b) i:=Bn.mono (Nat.mod_le _ _) ha
class Bz (z:Int) (k:outParam Nat):Prop where
 le:(limbs z.natAbs).length≤k
theorem Bz.use {z:Int} {k k':Nat} [h:Bz z k] (hk:k≤k'):(limbs z.natAbs).length≤k':=Nat.le_trans h.le hk
theorem Bz.bn {z:Int} {k:Nat} (h:Bz z k):Bn z.natAbs k:=⟨h.le⟩
instance Bz.sgn {b:Bool} {n i:Nat} [h:Bn n i]:Bz (Rc.sgn b n) i:=⟨by rw [natAbs_sgn];exact h.le⟩
instance Bz.nat {n i:Nat} [h:Bn n i]:Bz ((n:Nat):Int) i:=⟨by simpa using h.le⟩
instance Bz.mul {a b:Int} {i j:Nat} [ha:Bz a i] [hb:Bz b j]:Bz (a * b) (i + j):=
 ⟨by rw [Int.natAbs_mul];exact (@Bn.mul _ _ _ _ ha.bn hb.bn).le⟩
instance Bz.add {a b:Int} {i j:Nat} [ha:Bz a i] [hb:Bz b j]:Bz (a + b) (i + j + 1):=
 ⟨(Bn.mono (by omega) (@Bn.add _ _ _ _ ha.bn hb.bn)).le⟩
instance Bz.sub {a b:Int} {i j:Nat} [ha:Bz a i] [hb:Bz b j]:Bz (a - b) (i + j + 1):=
 ⟨(Bn.mono (by omega) (@Bn.add _ _ _ _ ha.bn hb.bn)).le⟩
instance Bz.neg {a:Int} {i:Nat} [ha:Bz a i]:Bz (-a) i:=⟨by rw [Int.natAbs_neg];exact ha.le⟩
structure Fit (k:Nat) (x:Qr):Prop where
 n:x.n.length≤k
 d:x.d.length≤k
theorem Fit.mono {k k':Nat} {x:Qr} (h:Fit k x) (hk:k≤k'):Fit k' x:=⟨Nat.le_trans h.n hk,Nat.le_trans h.d hk⟩
class Br (r:Rat) (k:outParam Nat):Prop where
 fit:Fit k (qOf r)
theorem Br.use {r:Rat} {k k':Nat} [h:Br r k] (hk:k≤k'):Fit k' (qOf r):=h.fit.mono hk
theorem qZero_fit {k:Nat}:Fit k qZero:=⟨Nat.zero_le _,Nat.zero_le _⟩
theorem Br.num {r:Rat} {k:Nat} (h:Br r k):cnum r < 4294967296 ^ k:=limbs_length_le.1 h.fit.n
theorem Br.den {r:Rat} {k:Nat} (h:Br r k):r.den≤4294967296 ^ k:=by
 have h1:cden r < 4294967296 ^ k:=limbs_length_le.1 h.fit.d
 rw [← dn_cden]
 have h2:0 < 4294967296 ^ k:=Nat.pow_pos (by decide)
 unfold dn;split <;> omega
theorem Br.of {r:Rat} {k:Nat} (h1:r.num.natAbs < 4294967296 ^ k) (h2:r.den < 4294967296 ^ k):Br r k:=
 ⟨limbs_length_le.2 h1,limbs_length_le.2 (by unfold cden;split <;> omega)⟩
theorem Br.rq {b:Bool} {n d k:Nat} (h1:n < 4294967296 ^ k) (h2:d < 4294967296 ^ k):Br (rq b n d) k:=by
 refine ⟨limbs_length_le.2 ?_,limbs_length_le.2 ?_⟩
 ·rw [cnum_rq];exact Nat.lt_of_le_of_lt (Nat.div_le_self _ _) h1
 ·have h3:(Rc.rq b n d).den≤dn d:=by rw [den_rq];exact Nat.div_le_self _ _
  unfold cden
  split
  ·omega
  ·rename_i h4
   unfold dn at h3
   have:=(Rc.rq b n d).den_pos
   split at h3 <;> omega
theorem Br.q {x:Qr} {k:Nat} (h:Fit k x):Br x.q k:=
 Br.rq (Nat.lt_of_lt_of_le (val_lt x.hn) (Nat.pow_le_pow_right (by decide) h.n)) (Nat.lt_of_lt_of_le (val_lt x.hd) (Nat.pow_le_pow_right (by decide) h.d))
theorem Br.rqn {b:Bool} {n d i j:Nat} (h1:n < 4294967296 ^ i) (h2:d≤4294967296 ^ j) (hj:j < i):Br (Rc.rq b n d) i:=
 Br.rq h1 (Nat.lt_of_le_of_lt h2 (Nat.pow_lt_pow_right (by decide) hj))
theorem rq_of (q:Rat):Rc.rq (cneg q) (cnum q) q.den = q:=by rw [← dn_cden,rq_dn,rq_canon]
instance Br.mul {r s:Rat} {i j:Nat} [hr:Br r i] [hs:Br s j]:Br (r * s) (i + j + 1):=by
 rw [← rq_of r,← rq_of s,← rq_mul,dn_of (Nat.ne_of_gt r.den_pos),dn_of (Nat.ne_of_gt s.den_pos)]
 refine Br.rqn (j:=i + j) (Nat.lt_trans (mul_lt_pow hr.num hs.num) (Nat.pow_lt_pow_right (by decide) (by omega))) ?_ (by omega)
 rw [Nat.pow_add];exact Nat.mul_le_mul hr.den hs.den
instance Br.add {r s:Rat} {i j:Nat} [hr:Br r i] [hs:Br s j]:Br (r + s) (i + j + 1):=by
 rw [← rq_of r,← rq_of s,← rq_add _ _ _ _ _ _ _ rfl,dn_of (Nat.ne_of_gt r.den_pos),dn_of (Nat.ne_of_gt s.den_pos)]
 refine Br.rqn (j:=i + j) ?_ ?_ (by omega)
 ·have h1:cnum r * s.den < 4294967296 ^ (i + j) ∨ cnum r * s.den = 0:=by
   rcases Nat.eq_zero_or_pos (cnum r) with h | h
   ·exact .inr (by rw [h,Nat.zero_mul])
   ·left;rw [Nat.pow_add]
    exact Nat.lt_of_lt_of_le (Nat.mul_lt_mul_of_pos_right hr.num s.den_pos) (Nat.mul_le_mul_left _ hs.den)
  have h2:cnum s * r.den < 4294967296 ^ (i + j) ∨ cnum s * r.den = 0:=by
   rcases Nat.eq_zero_or_pos (cnum s) with h | h
   ·exact .inr (by rw [h,Nat.zero_mul])
   ·left;rw [Nat.pow_add,Nat.mul_comm (4294967296 ^ i)]
    exact Nat.lt_of_lt_of_le (Nat.mul_lt_mul_of_pos_right hs.num r.den_pos) (Nat.mul_le_mul_left _ hr.den)
  have h0:0 < 4294967296 ^ (i + j):=Nat.pow_pos (by decide)
  have h3:∀ (a b:Bool) (m n:Nat),(sgn a m + sgn b n).natAbs≤m + n:=by
   intro a b m n;cases a <;> cases b <;> simp <;> omega
  have h4:=h3 (cneg r) (cneg s) (cnum r * s.den) (cnum s * r.den)
  refine Nat.lt_of_le_of_lt h4 ?_
  rw [Nat.pow_succ]
  omega
 ·rw [Nat.pow_add];exact Nat.mul_le_mul hr.den hs.den
theorem cnum_neg (r:Rat):cnum (-r) = cnum r:=by unfold cnum;rw [show (-r).num = -r.num from rfl,Int.natAbs_neg]
theorem cden_neg (r:Rat):cden (-r) = cden r:=rfl
instance Br.neg {r:Rat} {i:Nat} [hr:Br r i]:Br (-r) i:=⟨⟨by show (limbs (cnum (-r))).length≤i;rw [cnum_neg];exact hr.fit.n,by show (limbs (cden (-r))).length≤i;rw [cden_neg];exact hr.fit.d⟩⟩
instance Br.sub {r s:Rat} {i j:Nat} [hr:Br r i] [hs:Br s j]:Br (r - s) (i + j + 1):=by
 rw [Rat.sub_eq_add_neg];exact Br.add
theorem Br.mono {r:Rat} {i j:Nat} (h:Br r i) (hij:i≤j):Br r j:=⟨h.fit.mono hij⟩
def mn (r s:Rat):Rat:=if r≤s then r else s
def mx (r s:Rat):Rat:=if s≤r then r else s
instance Br.mn {r s:Rat} {i j:Nat} [hr:Br r i] [hs:Br s j]:Br (mn r s) (i + j):=by
 unfold Rc.mn;split
 ·exact hr.mono (by omega)
 ·exact hs.mono (by omega)
instance Br.mx {r s:Rat} {i j:Nat} [hr:Br r i] [hs:Br s j]:Br (mx r s) (i + j):=by
 unfold Rc.mx;split
 ·exact hr.mono (by omega)
 ·exact hs.mono (by omega)
instance Br.zero:Br 0 0:=⟨⟨by show (limbs (cnum 0)).length≤0;rw [cnum_zero,limbs_zero];exact Nat.le_refl _,by show (limbs (cden 0)).length≤0;rw [cden_zero,limbs_zero];exact Nat.le_refl _⟩⟩
instance Br.inv {r:Rat} {i:Nat} [hr:Br r i]:Br r⁻¹ (i + 1):=by
 by_cases h:r = 0
 ·subst h;rw [Rat.inv_zero];exact Br.zero.mono (Nat.zero_le _)
 ·have hn:r.num≠0:=fun e=>h (Rat.num_eq_zero.1 e)
  refine Br.of ?_ ?_
  ·rw [Rat.num_inv,Int.natAbs_mul]
   have h1:r.num.sign.natAbs≤1:=by rw [Int.natAbs_sign];split <;> omega
   have h2:=hr.den
   have h3:r.num.sign.natAbs * (r.den:Int).natAbs≤1 * r.den:=Nat.mul_le_mul h1 (by simp)
   have h0:0 < 4294967296 ^ i:=Nat.pow_pos (by decide)
   rw [Nat.pow_succ]
   generalize r.num.sign.natAbs * (r.den:Int).natAbs = a at *
   omega
  ·rw [Rat.den_inv,if_neg hn]
   have:=hr.num
   unfold cnum at this
   rw [Nat.pow_succ];omega
instance Br.div {r s:Rat} {i j:Nat} [hr:Br r i] [hs:Br s j]:Br (r / s) (i + (j + 1) + 1):=by
 rw [Rat.div_def];exact Br.mul
def sgz (z:Int):Int:=if z < 0 then -1 else if z = 0 then 0 else 1
def cmpz (a b:Int):Int:=if a < b then -1 else if a = b then 0 else 1
theorem rq_neg_iff (b:Bool) (n d:Nat):rq b n d < 0↔sgn b n < 0:=by
 have h:=rq_lt b false n 0 d 0
 rw [rq_zero] at h
 rw [h];simp [dn]
theorem sg_rq (b:Bool) (n d:Nat):sg (rq b n d) = sgz (sgn b n):=by
 unfold sg sgz
 have h1:=rq_neg_iff b n d
 have h2:rq b n d = 0↔sgn b n = 0:=by rw [rq_eq_zero];cases b <;> simp
 simp only [h1,h2]
theorem cmpq_rq (a b:Bool) (m n d e:Nat):cmpq (rq a m d) (rq b n e) = cmpz (sgn a m * dn e) (sgn b n * dn d):=by
 unfold cmpq cmpz
 simp only [rq_lt,rq_eq]
theorem cmpq_le {p q:Rat}:cmpq p q≤0↔p≤q:=by
 unfold cmpq
 split
 ·rename_i h;exact ⟨fun _=>Rat.le_of_lt h,fun _=>by decide⟩
 ·split
  ·rename_i h;subst h;exact ⟨fun _=>Rat.le_refl,fun _=>by decide⟩
  ·rename_i h1 h2;exact ⟨fun h=>absurd h (by decide),fun h=>by grind⟩
theorem cmpq_ge {p q:Rat}:0≤cmpq p q↔q≤p:=by
 unfold cmpq
 split
 ·rename_i h;exact ⟨fun h=>absurd h (by decide),fun h'=>by grind⟩
 ·rename_i h;exact ⟨fun _=>by grind,fun _=>by split <;> decide⟩
theorem cmpq_gt {p q:Rat}:0 < cmpq p q↔q < p:=by
 unfold cmpq
 split
 ·rename_i h;exact ⟨fun h=>absurd h (by decide),fun h'=>by grind⟩
 ·split
  ·rename_i h;exact ⟨fun h=>absurd h (by decide),fun h'=>by grind⟩
  ·rename_i h1 h2;exact ⟨fun _=>by grind,fun _=>by decide⟩
theorem cmpq_lt {p q:Rat}:cmpq p q < 0↔p < q:=by
 unfold cmpq
 split
 ·rename_i h;exact ⟨fun _=>h,fun _=>by decide⟩
 ·rename_i h;exact ⟨fun h'=>by split at h' <;> simp at h',fun h'=>absurd h' h⟩
theorem sg_lt {p:Rat}:sg p < 0↔p < 0:=by
 unfold sg
 split
 ·rename_i h;exact ⟨fun _=>h,fun _=>by decide⟩
 ·rename_i h;exact ⟨fun h'=>by split at h' <;> simp at h',fun h'=>absurd h' h⟩
end Rc
