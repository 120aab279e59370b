/- Parts of the proof, 4: the texts FwU, FwV, FwW, Mac, Facts, FactsD, as far as they are used. -/
import Derived.Test.YtmpkandbccallaaGreatDoorBo03
import Derived.KernelRfl
import Derived.Test.YtmpkandbccallaaGreatDoorProg
set_option linter.unusedSimpArgs false
set_option linter.unusedVariables false
namespace Rc
open Go Go.RowKit
def HandG (A:Cells) (u sz:Nat) (ls:List Leaf) (lo:Nat) (v:Value) (w':World):Prop:=
 (v = .slice none 0 0∧ls = []) ∨ ∃ (A':Cells) (b cap:Nat) (cs rest:List Value),v = .slice (some ⟨b,0,none⟩) (ls.length / sz) cap∧lo≤b∧w'.heap[b]? = some (.cells (cs ++ rest).toArray u (0,0)) ∧
  (cs ++ rest).length = cap * sz∧cap≤maxLen∧denL (Foot.of A') ls cs w'∧(∀ j,ls.length≤j→¬ A' b j)∧(∀ k j,A' k j→A k j ∨ (lo≤k∧k < w'.heap.size))
def CtrG (P:Program) (f u sz:Nat) (ls:List Leaf) (xs:List V):Prop:=
 ∀ (w:World) (vs:List Value) (A:Cells),Glob w→(∀ k j,A k j→k < w.heap.size)→denVs (Foot.of A) xs vs w →
  Calls P f vs.toArray w fun e w'=>∃ v,e = .returned v∧HandG A u sz ls w.heap.size v w'∧Below w.heap.size w w'
def PostG (P:Program) (fn:Func) (w0:Frm) (A0:Foot) (u sz:Nat) (ls:List Leaf):Exit→Act→World→Prop:=
 bodyPost P fn fun e w'=>∃ v,e = .returned v∧HandG A0.c u sz ls w0.w.heap.size v w'∧w0.Bel w'
theorem CtrG.of_body {P:Program} {f N u sz:Nat} {fn:Func} {c:Code} {ls:List Leaf} {xs:List V} (hf:P.funcs[f]? = some fn) (hb:fn.body = some c) (hN:fn.ntmps = N) (hl:xs.length≤min N 2000)
  (h:∀ w0 A0,(∀ k,¬ w0.X k)→Tc P (PostG P fn w0 A0 u sz ls) w0 A0 N (entryG 0 xs) [] c):CtrG P f u sz ls xs:=by
 intro w vs A hg hA hd
 have hlen:=hd.length
 refine Calls.mono (calls_of_wp hf hb (R:=fun e w'=>∃ v,e = .returned v∧HandG A u sz ls w.heap.size v w'∧(Frm.of w).Bel w') ?_) (fun e w' ⟨v,h1,h2,h3⟩=>⟨v,h1,h2,h3.to_below⟩)
 refine h (Frm.of w) (Foot.of A) (fun _ h=>h) _ _ ⟨⟨fun _=>0,fun _=>0,fun _=>false,Foot.of A⟩,Frm.Bel.refl (Frm.of w) hg (fun _ _ h=>h),hA,fun k j hk=>.inl hk,rfl,?_,?_,fun i e he=>by simp at he,fun i j e e' he=>by simp at he,fun i e v he=>by simp at he,fun i m v hv=>by simp at hv,fun k j hk=>⟨hk,rfl⟩⟩
 ·simp;omega
 ·intro s d hs
  obtain ⟨x,v,rfl,_,h2,h3⟩:=entry_slots xs vs 0 s d hd hs
  refine ⟨trivial,v,?_,h3⟩
  simp only [Nat.sub_zero] at h2
  have hlt:=(List.getElem?_eq_some_iff.1 h2).1
  rw [slotv_tmp (by simp;omega),Array.getElem?_append_left (by simpa using hlt)]
  simpa using h2
section
variable {P:Program} {Q:Exit→Act→World→Prop} {w0:Frm} {A0:Foot} {N:Nat} {Γ:Gam} {H:Hp}
theorem Tc_retG0 {u sz s:Nat} {fn:Func} {ls':List Leaf} (hQ:∀ a w,PostG P fn w0 A0 u sz ls' .ret a w→Q .ret a w) (hr:fn.results = #[.tmp s]) (hs:lookT Γ s = some (D.val (.slice none 0 0))) (hls:ls' = []):Tc P Q w0 A0 N Γ H .ret:=by
 intro a w hSt
 obtain ⟨E,hG⟩:=hSt
 obtain ⟨_,v,hv2,hd⟩:=hG.tmp hs
 have hd:v = .slice none 0 0:=hd.1
 refine wp_ret (hQ a w ⟨hG.defers,v,?_,v,rfl,.inl ⟨hd,hls⟩,hG.below⟩)
 rw [results_eq,hr];simp [resSem,hv2]
theorem Tc_retG {u sz s i n k:Nat} {fn:Func} {ls ls':List Leaf} (hQ:∀ a w,PostG P fn w0 A0 u sz ls' .ret a w→Q .ret a w) (hX:∀ k,¬ w0.X k) (hr:fn.results = #[.tmp s]) (hs:lookT Γ s = some (D.v (V.one (Leaf.own i n))))
  (hH:H[i]? = some (some ⟨u,ls,some sz,some (.inr (k,some n))⟩)) (hls:ls = ls') (hk:k = ls.length:=by rfl) (hcl:clL ls = true:=by first | rfl | exact El.all_cl _ _):Tc P Q w0 A0 N Γ H .ret:=by
 intro a w hSt
 obtain ⟨E,hG⟩:=hSt
 subst hls
 subst hk
 obtain ⟨_,v,hv2,hd⟩:=hG.tmp hs
 have hd:E.A.g i n = some v:=hd.1
 obtain ⟨g1,g2⟩:=hG.boxes i _ hH
 have hkn:=(hG.kn i _ n hH ⟨_,rfl⟩).1
 rw [hd] at hkn
 have hv:v = HE.name E i ⟨u,ls,some sz,some (.inr (ls.length,some n))⟩:=Option.some.inj hkn
 refine wp_ret (hQ a w ⟨hG.defers,v,by rw [results_eq,hr];simp [resSem,hv2],v,rfl,?_,hG.below⟩)
 unfold HE.ok at g1
 unfold HE.name at hv
 simp only at g1 hv
 cases hn:E.nil i
 ·rw [hn] at hv g1
  simp only [Bool.false_eq_true,if_false] at hv g1
  obtain ⟨hm,cs,rest,h1,h2,h3⟩:=g1
  obtain ⟨g3,g4⟩:=g2 hn
  refine .inr ⟨E.A.c,E.b i,E.cap i,cs,rest,hv,?_,h1,h2,hm,h3.pure hcl,g4,fun k j hA=>?_⟩
  ·rcases g3 with g3 | g3
   ·exact g3
   ·exact absurd g3 (hX _)
  ·rcases hG.foot0 k j hA with h | h | h
   ·exact .inl h
   ·exact .inr ⟨h,hG.foot k j hA⟩
   ·exact absurd h (hX _)
 ·rw [hn] at hv g1
  simp only [if_true] at hv g1
  exact .inl ⟨hv,g1.1⟩
theorem Good.adoptG {E:Env} {a:Act} {w w':World} (h:Good w0 A0 N Γ H E a w) (hb:Below w.heap.size w w') {i u sz:Nat} (hi:H[i]? = some none) {v:Value} {ls:List Leaf} (hv:HandG E.A.c u sz ls w.heap.size v w') (hcl:clL ls = true) (hsz:0 < sz) :
  ∃ E',Good w0 A0 N Γ (H.set i (some ⟨u,ls,some sz,some (.inr (ls.length,some 0))⟩)) E' a w'∧E'.A.g i 0 = some v∧v.oneCell' = true:=by
 have hil:=(List.getElem?_eq_some_iff.1 hi).1
 have hk:kept E.A w w':=kept_of fun k j hk=>hb.block k (h.foot k j hk)
 have hs0:w0.w.heap.size≤w.heap.size:=h.below.size
 have hg0:∀ m,E.A.g i m = none:=by
  intro m
  cases hm:E.A.g i m with
  | none=>rfl
  | some x=>
   obtain ⟨e,k,n,q1,_⟩:=h.gd _ m x hm
   rw [hi] at q1;simp at q1
 have hno:∀ s d,look Γ s = some d→d.nm≠some i:=by
  intro s d hsd hnm
  obtain ⟨e,he,_⟩:=D.okn_iff.1 (h.slots s d hsd).1 i hnm
  rw [hi] at he;simp at he
 obtain ⟨A',nl,b,cap,hA',hrow,hname,hfree,hbs⟩:∃ (A':Cells) (nl:Bool) (b cap:Nat),(∀ k j,A' k j→E.A k j ∨ (w.heap.size≤k∧k < w'.heap.size)) ∧
   (if nl = true then ls = []∧cap = 0 else cap≤maxLen∧∃ cs rest:List Value,w'.heap[b]? = some (.cells (cs ++ rest).toArray u (0,0))∧(cs ++ rest).length = cap * sz∧denL (Foot.of A') ls cs w') ∧
   v = (if nl = true then .slice none 0 0 else .slice (some ⟨b,0,none⟩) (ls.length / sz) cap)∧(nl = false→∀ j,ls.length≤j→¬ A' b j)∧(nl = false→w.heap.size≤b∧b < w'.heap.size):=by
  rcases hv with ⟨h1,h2⟩ | ⟨A',b,cap,cs,rest,h1,h2,h3,h4,h5,h6,h7,h8⟩
  ·exact ⟨fun _ _=>False,true,0,0,fun _ _ h=>h.elim,⟨h2,rfl⟩,h1,fun h=>by simp at h,fun h=>by simp at h⟩
  ·exact ⟨A',false,b,cap,h8,⟨h5,cs,rest,h3,h4,h6⟩,h1,fun _=>h7,fun _=>⟨h2,(Array.getElem?_eq_some_iff.1 h3).1⟩⟩
 have hone:v.oneCell' = true:=by rw [hname];split <;> rfl
 let A2:Foot:=⟨fun k j=>E.A k j ∨ A' k j ∨ (nl = false∧k = b∧j < ls.length),fun x m=>if x = i∧m = 0 then some v else E.A.g x m⟩
 let E':Env:=⟨fun x=>if x = i then b else E.b x,fun x=>if x = i then cap else E.cap x,fun x=>if x = i then nl else E.nil x,A2⟩
 have hle:Foot.le E.A A2:=⟨fun x j hx=>.inl hx,fun x m y hy=>by
  show (if x = i∧m = 0 then some v else E.A.g x m) = some y
  rw [if_neg]
  ·exact hy
  ·rintro ⟨rfl,rfl⟩
   rw [hg0] at hy;simp at hy⟩
 have back:∀ (j:Nat) (e1:HE),(H.set i (some ⟨u,ls,some sz,some (.inr (ls.length,some 0))⟩))[j]? = some (some e1)→(j = i∧e1 = ⟨u,ls,some sz,some (.inr (ls.length,some 0))⟩) ∨ (j≠i∧H[j]? = some (some e1)):=by
  intro j e1 hj
  by_cases hij:i = j
  ·subst hij
   rw [List.getElem?_set_self hil] at hj
   simp only [Option.some.injEq] at hj
   exact .inl ⟨rfl,hj.symm⟩
  ·rw [List.getElem?_set_ne hij] at hj
   exact .inr ⟨fun e=>hij e.symm,hj⟩
 refine ⟨E',⟨h.below.then (hb.mono hs0),?_,?_,h.defers,h.size,?_,?_,?_,?_,?_,h.old.keep hle.1 hk⟩,if_pos ⟨rfl,rfl⟩,hone⟩
 ·intro k j hA
  rcases hA with hA | hA | ⟨h1,h2,_⟩
  ·exact Nat.lt_of_lt_of_le (h.foot k j hA) hb.size
  ·rcases hA' k j hA with hA | hA
   ·exact Nat.lt_of_lt_of_le (h.foot k j hA) hb.size
   ·exact hA.2
  ·rw [h2];exact (hbs h1).2
 ·intro k j hA
  rcases hA with hA | hA | ⟨h1,h2,_⟩
  ·exact h.foot0 k j hA
  ·rcases hA' k j hA with hA | hA
   ·exact h.foot0 k j hA
   ·exact .inr (.inl (Nat.le_trans hs0 hA.1))
  ·rw [h2];exact .inr (.inl (Nat.le_trans hs0 (hbs h1).1))
 ·intro s d hs
  obtain ⟨ho,x,hx,hd⟩:=h.slots s d hs
  have hn:=hno s d hs
  refine ⟨D.okn_mono ho (fun y e1 hy he1 hv1=>⟨e1,?_,hv1⟩),x,hx,?_⟩
  ·have:i≠y:=fun e=>hn (by rw [hy,e])
   rw [List.getElem?_set_ne this];exact he1
  ·have hd:=D.den_keep hk hd
   rcases d with x | xs | ⟨y,o⟩ | ⟨y,q⟩
   ·exact V.den_mono hle hd
   ·obtain ⟨vs,rfl,hvs⟩:=hd;exact ⟨vs,rfl,hvs.mono hle⟩
   ·have:y≠i:=fun e=>hn (by rw [← e];rfl)
    simp only [D.den,E',if_neg this] at hd ⊢;exact hd
   ·have:y≠i:=fun e=>hn (by rw [← e];rfl)
    simp only [D.den,E',if_neg this] at hd ⊢;exact hd
 ·intro j e1 hj
  rcases back j e1 hj with ⟨rfl,rfl⟩ | ⟨hij,hj'⟩
  ·refine ⟨?_,fun hn=>?_⟩
   ·unfold HE.ok
    simp only [E',if_true]
    cases hnl:nl
    ·rw [hnl] at hrow
     simp only [Bool.false_eq_true,if_false] at hrow ⊢
     obtain ⟨h1,cs,rest,h2,h3,h4⟩:=hrow
     exact ⟨h1,cs,rest,h2,h3,h4.mono ⟨fun k j hk=>.inr (.inl hk),fun _ _ _ h=>by simp at h⟩⟩
    ·rw [hnl] at hrow
     simp only [if_true] at hrow ⊢
     exact hrow
   ·simp only [E',if_true] at hn ⊢
    refine ⟨.inl (Nat.le_trans hs0 (hbs hn).1),fun x hx hA=>?_⟩
    have hx:ls.length≤x:=hx
    rcases hA with hA | hA | ⟨_,_,h3⟩
    ·have:=h.foot _ _ hA;have:=(hbs hn).1;omega
    ·exact hfree hn x hx hA
    ·omega
  ·obtain ⟨g1,g2⟩:=h.boxes j e1 hj'
   refine ⟨?_,fun hn=>?_⟩
   ·have g3:=HE.ok_grow hle (HE.ok_keep hk (fun hn=>hb.block _ (HE.ok_lt g1 hn)) g1)
    unfold HE.ok at g3 ⊢
    simp only [E',if_neg hij] at g3 ⊢
    exact g3
   ·simp only [E',if_neg hij] at hn ⊢
    refine ⟨(g2 hn).1,fun x hx hA=>?_⟩
    have hlt:=HE.ok_lt g1 hn
    rcases hA with hA | hA | ⟨h1,h2,_⟩
    ·exact (g2 hn).2 x hx hA
    ·rcases hA' _ _ hA with hA | hA
     ·exact (g2 hn).2 x hx hA
     ·omega
    ·have:=(hbs h1).1;omega
 ·have old:∀ (j:Nat) (e:HE),j≠i→(H.set i (some ⟨u,ls,some sz,some (.inr (ls.length,some 0))⟩))[j]? = some (some e)→E.nil j = false→E.b j < w.heap.size:=by
   intro j e hj hje hn
   rcases back j e hje with ⟨h1,_⟩ | ⟨_,h2⟩
   ·exact absurd h1 hj
   ·exact HE.ok_lt (h.boxes j e h2).1 hn
  intro j1 j2 e1 e2 g1 g2 n1 n2 h12
  by_cases h1:j1 = i
  ·have h2:j2≠i:=fun e=>h12 (h1.trans e.symm)
   simp only [E',if_neg h2,if_pos h1] at n1 n2 ⊢
   have:=old j2 e2 h2 g2 n2
   have:=(hbs n1).1
   omega
  ·by_cases h2:j2 = i
   ·simp only [E',if_neg h1,if_pos h2] at n1 n2 ⊢
    have:=old j1 e1 h1 g1 n1
    have:=(hbs n2).1
    omega
   ·simp only [E',if_neg h1,if_neg h2] at n1 n2 ⊢
    rcases back j1 e1 g1 with ⟨q,_⟩ | ⟨_,g1'⟩
    ·exact absurd q h1
    ·rcases back j2 e2 g2 with ⟨q,_⟩ | ⟨_,g2'⟩
     ·exact absurd q h2
     ·exact h.apart j1 j2 e1 e2 g1' g2' n1 n2 h12
 ·intro j e1 m hj hm
  rcases back j e1 hj with ⟨rfl,rfl⟩ | ⟨hij,hj'⟩
  ·obtain ⟨k',hm⟩:=hm
   simp only [Option.some.injEq,Sum.inr.injEq,Prod.mk.injEq] at hm
   obtain ⟨_,rfl⟩:=hm
   refine ⟨?_,fun m' hm'=>?_,fun hn x hx=>?_⟩
   ·show (if j = j∧0 = 0 then some v else E.A.g j 0) = _
    rw [if_pos ⟨rfl,rfl⟩]
    simp only [HE.name,E',if_true]
    rw [hname]
   ·show (if j = j∧m' = 0 then some v else E.A.g j m') = none
    rw [if_neg (fun e'=>by omega)]
    exact hg0 m'
   ·simp only [E',if_true] at hn ⊢
    exact .inr (.inr ⟨hn,rfl,hx⟩)
  ·obtain ⟨q1,q2,q3⟩:=h.kn j e1 m hj' hm
   refine ⟨?_,fun m' hm'=>?_,fun hn x hx=>?_⟩
   ·show (if j = i∧m = 0 then some v else E.A.g j m) = _
    rw [if_neg (fun e'=>hij e'.1),q1]
    unfold HE.name
    simp only [E',if_neg hij]
   ·show (if j = i∧m' = 0 then some v else E.A.g j m') = none
    rw [if_neg (fun e'=>hij e'.1)]
    exact q2 m' hm'
   ·simp only [E',if_neg hij] at hn ⊢
    exact .inl (q3 hn x hx)
 ·intro j m x hg
  by_cases hj:j = i
  ·subst hj
   exact ⟨_,_,0,List.getElem?_set_self hil,rfl⟩
  ·have hg:(if j = i∧m = 0 then some v else E.A.g j m) = some x:=hg
   rw [if_neg (fun e'=>hj e'.1)] at hg
   obtain ⟨e1,k1,n1,q1,q2⟩:=h.gd j m x hg
   exact ⟨e1,k1,n1,by rw [List.getElem?_set_ne (fun e=>hj e.symm)];exact q1,q2⟩
end
section
variable {P:Program} {ops:Array Oper} {o:Oper} {Γ:Gam} {H:Hp}
theorem Je_callG {f i u sz:Nat} {args:Array Operand} {tys:Array TypeId} {xs:List V} {ls:List Leaf} (ho:o.op = .call { callee:=.value (.func f),args:=args,argTypes:=tys }) (hf:FnOk P f)
  (hx:argsD Γ args.toList = some xs) (hspec:CtrG P f u sz ls xs) (hsz:0 < sz) (hi:H[i]? = some none) (hcl:clL ls = true:=by first | rfl | exact El.all_cl _ _) (hcx:clVs xs = true:=by rfl) :
  Je P ops o Γ H (some (D.v (V.one (Leaf.own i 0)))) (H.set i (some ⟨u,ls,some sz,some (.inr (ls.length,some 0))⟩)):=by
 intro w0 A0 N Γ2 a w Q K hs hN hSt hK
 obtain ⟨E,hG⟩:=hSt
 obtain ⟨fn,hfn,hb,hn⟩:=hf
 have hargs:=argsD_spec (Γ:=Γ) (E:=E) (a:=a) (w:=w) args.toList xs (fun x hx d hd=>(op_at hs hG (x:=x) (by rw [ho];simp [Op.operands,Call.operands];exact .inr (by simpa using hx)) hd).2) hx
 have hrun:(execOp a.eval o).run P w = .ok (.enter f (args.map a.eval)) w:=by
  have hn':¬ fn.name = "runtime.NumGoroutine":=by simpa using hn
  have hb':¬ fn.body = none:=by intro e;rw [e] at hb;simp at hb
  simp [execOp,ho,resolve,Deferred.ofValue,invoke,callFunc,hfn,hn',hb',Act.eval]
 unfold Oper.wp
 rw [hrun,Oper.upon_enter]
 have hc:=hspec w (args.map a.eval).toList E.A.c hG.below.now hG.foot (by have:=hargs.pure hcx;simpa using this)
 rw [show (args.map a.eval).toList.toArray = args.map a.eval from Array.toArray_toList] at hc
 refine Calls.mono hc ?_
 rintro e w' ⟨v,rfl,hh,hbel⟩
 obtain ⟨E',hG',hg,hone⟩:=hG.adoptG hbel hi hh hcl hsz
 exact hK _ _ ⟨E',hG'.put (fun d hd=>by cases hd;exact ⟨trivial,hg,hone⟩) hN⟩
theorem Jd_callG {f i u sz:Nat} {args:Array Operand} {tys:Array TypeId} {xs:List V} {ls:List Leaf} (ho:o.op = .call { callee:=.value (.func f),args:=args,argTypes:=tys }) (hf:FnOk P f)
  (hx:argsD Γ args.toList = some xs) (hspec:CtrG P f u sz ls xs) (hsz:0 < sz) (hi:H[i]? = some none) (hcl:clL ls = true:=by first | rfl | exact El.all_cl _ _) (hcx:clVs xs = true:=by rfl) :
  ∀ H2:Hp,H2[i]? = H[i]?→Je P ops o Γ H2 (some (D.v (V.one (Leaf.own i 0)))) (H2.set i (some ⟨u,ls,some sz,some (.inr (ls.length,some 0))⟩)):=fun _ hH=>Je_callG ho hf hx hspec hsz (hH.trans hi) hcl hcx
end
end Rc
set_option linter.unusedSimpArgs false
set_option linter.unusedVariables false
namespace Rc
open Go Go.RowKit
@[reducible] def ifV (t:Nat) (cs:List Value):Value:=.iface t (.agg cs.toArray)
def isIf (P:Program) (t:Nat):Bool:=match P.underlying t with | some (.interface _)=>true | _=>false
theorem isIf_ex {P:Program} {t:Nat} (h:isIf P t = true):∃ ms,P.underlying t = some (.interface ms):=by
 unfold isIf at h
 split at h
 ·exact ⟨_,by assumption⟩
 ·simp at h
theorem run_eqif {P:Program} {w:World} {t tx:Nat} {vx:Value} (hu:isIf P t = true) (d:Nat):(Op.equalIn (d + 1) t (.iface tx vx) .nilIface).run P w = .ok false w:=by
 obtain ⟨ms,hu⟩:=isIf_ex hu
 rw [Op.equalIn];simp [run_underlying hu]
section
variable {P:Program} {ops:Array Oper} {X:List Nat} {o:Oper} {Γ:Gam} {H:Hp} {t u:Nat} {x y:Operand}
theorem Jq_eql_if {tx:Nat} {vx:Value} (ho:o.op = .binOp .eql t x y u) (hx:opD Γ x = some (D.val (.iface tx vx))) (hy:opD Γ y = some (D.val .nilIface)) (h:isIf P t = true):Jq P ops X o Γ H (D.bool false):=by
 intro w0 A0 N Γ2 H2 E a w hs hX hG
 have e1:=op_val hs hG (x:=x) (by rw [ho];simp [Op.operands]) hx
 have e2:=op_val hs hG (x:=y) (by rw [ho];simp [Op.operands]) hy
 have:=run_eqif (tx:=tx) (vx:=vx) (w:=w) h 9999
 refine ⟨trivial,.bool false,?_,rfl,rfl⟩
 simp [execOp,ho,e1,e2,eqGuard,binOp,Op.equal,Op.maxDepth,this]
end
theorem At_retI0 {P:Program} {ops:Array Oper} {Q:Exit→Act→World→Prop} {w0:Frm} {A0:Foot} {N:Nat} {Γ:Gam} {H:Hp} {rest:List Oper} {dst:Option Nat} {a1:Act} {Nc:Nat} {fn:Func} (Γo:Gam)
  (hd:a1.defers = []) (hs:a1.tmps.size = N) (hN:dstOk N dst = true) (hr:fn.results = #[]) (hk:knownU Γ Γo) (hc:Tl P ops Q w0 A0 N (putG Γo dst (some (D.tup []))) H rest) :
  At (bodyPost P fn (fun e w'=>∃ v,e = .returned v∧wpList P ops Q rest (a1.put dst v) w')) (w0.into a1) A0 Nc Γ H .normal:=by
 intro a w hSt
 obtain ⟨E,hG⟩:=hSt
 refine ⟨hG.defers,.tuple #[],?_,_,rfl,hc _ _ ⟨E,(hG.leave hd hs hk).put (fun x hx=>by cases hx;exact ⟨trivial,[],rfl,trivial⟩) hN⟩⟩
 rw [results_eq,hr];simp
end Rc
set_option linter.unusedSimpArgs false
set_option linter.unusedVariables false
namespace Rc
open Go Go.RowKit
structure FTab where
 fo:List ((Nat × Nat) × Nat × Nat)
 ty:List (Nat × Bool × Nat)
def allP {α:Type} (p:α→Prop):List α→Prop
 | []=>True
 | a :: l=>p a∧allP p l
structure FTab.Ok (P:Program) (F:FTab):Prop where
 fo:allP (fun e=>fieldAtOff P e.1.1 e.1.2 = some e.2) F.fo
 ty:allP (fun e=>TyIs P e.1 e.2.1 e.2.2) F.ty
def get1 {β:Type} (k:Nat):List (Nat × β)→Option β
 | []=>none
 | (a,b) :: l=>bif Nat.beq a k then some b else get1 k l
def get2 {β:Type} (k j:Nat):List ((Nat × Nat) × β)→Option β
 | []=>none
 | ((a,c),b) :: l=>bif Nat.beq a k && Nat.beq c j then some b else get2 k j l
theorem get1_ok {β:Type} {p:Nat × β→Prop} {k:Nat} {b:β}:∀ {l:List (Nat × β)},allP p l→get1 k l = some b→p (k,b)
 | [],_,h=>by simp [get1] at h
 | (a,c) :: l,hp,h=>by
  unfold get1 at h
  cases hb:Nat.beq a k
  ·rw [hb] at h;exact get1_ok hp.2 h
  ·rw [hb] at h
   have:=Nat.eq_of_beq_eq_true hb
   simp only [cond_true,Option.some.injEq] at h
   subst this;subst h;exact hp.1
theorem get2_ok {β:Type} {p:(Nat × Nat) × β→Prop} {k j:Nat} {b:β}:∀ {l:List ((Nat × Nat) × β)},allP p l→get2 k j l = some b→p ((k,j),b)
 | [],_,h=>by simp [get2] at h
 | ((a,c),d) :: l,hp,h=>by
  unfold get2 at h
  cases hb:(Nat.beq a k && Nat.beq c j)
  ·rw [hb] at h;exact get2_ok hp.2 h
  ·rw [hb] at h
   rw [Bool.and_eq_true] at hb
   have h1:=Nat.eq_of_beq_eq_true hb.1
   have h2:=Nat.eq_of_beq_eq_true hb.2
   simp only [cond_true,Option.some.injEq] at h
   subst h1;subst h2;subst h;exact hp.1
def nnil:Operand→Bool
 | .const (.slice none _ _)=>false
 | _=>true
def ldD (F:FTab) (X:List Nat) (H:Hp) (t i off:Nat):Option D:=
 bif X.contains i then none else
 match H[i]? with
 | some (some e)=>
  match get1 t F.ty with
  | some (true,n)=>bif Nat.blt 0 n && Nat.ble (off + n) e.ls.length then some (D.agg ((e.ls.drop off).take n)) else none
  | some (false,n)=>
   match e.ls[off]? with
   | some l=>bif Nat.beq n 1 then some (D.v (V.one l)) else none
   | none=>none
  | none=>none
 | _=>none
def stepD (F:FTab) (X:List Nat) (Γ:Gam) (H:Hp):Op→Option D
 | .move x=>bif nnil x then opD Γ x else none
 | .assign x=>bif nnil x then opD Γ x else none
 | .extract x i=>
  match opD Γ x with
  | some (.inr (.inl xs))=>match xs[i]? with
   | some y=>some (.inl y)
   | none=>none
  | _=>none
 | .pick c x y=>
  match opD Γ c with
  | some (.inl (.inl (.inl (.bool b))))=>match b with
   | true=>opD Γ x
   | false=>opD Γ y
  | _=>none
 | .unOp .not _ x=>
  match opD Γ x with
  | some (.inl (.inl (.inl (.bool b))))=>some (D.bool (!b))
  | _=>none
 | .fieldAddr s x f=>
  match opD Γ x with
  | some (.inr (.inr (.inl (i,off))))=>match get2 s f F.fo with
   | some (fo,sz)=>bif Nat.beq sz 0 then none else some (D.ptr i (off + fo))
   | none=>none
  | _=>none
 | .load t x=>
  match opD Γ x with
  | some (.inr (.inr (.inl (i,off))))=>ldD F X H t i off
  | _=>none
 | .nilCheck x=>
  match opD Γ x with
  | some (.inr (.inr (.inl (i,off))))=>some (D.ptr i off)
  | _=>none
 | _=>none
section
variable {P:Program} {ops:Array Oper} {X:List Nat} {o:Oper} {Γ:Gam} {H:Hp} {F:FTab}
theorem ldD_ok (hF:F.Ok P) {t i off:Nat} {x:Operand} {d:D} (ho:o.op = .load t x) (hx:opD Γ x = some (D.ptr i off)) (h:ldD F X H t i off = some d):Jq P ops X o Γ H d:=by
 unfold ldD at h
 cases hc:X.contains i
 ·rw [hc] at h
  have hXi:i ∉ X:=fun hm=>by rw [List.contains_iff_mem.2 hm] at hc;simp at hc
  simp only [cond_false] at h
  split at h
  ·rename_i e hi
   split at h
   ·rename_i n ht
    have ht:TyIs P t true n:=get1_ok hF.ty ht
    cases hn:(Nat.blt 0 n && Nat.ble (off + n) e.ls.length)
    ·rw [hn] at h;simp at h
    ·rw [hn] at h
     simp only [cond_true,Option.some.injEq] at h
     simp only [Bool.and_eq_true,Nat.blt_eq,Nat.ble_eq] at hn
     subst h
     exact Jq_load_agg ho hx hi hXi ht hn.1 hn.2 rfl
   ·rename_i n ht
    have ht:TyIs P t false n:=get1_ok hF.ty ht
    split at h
    ·rename_i l hl
     cases hn:Nat.beq n 1
     ·rw [hn] at h;simp at h
     ·rw [hn] at h
      simp only [cond_true,Option.some.injEq] at h
      subst h
      have:=Nat.eq_of_beq_eq_true hn
      subst this
      exact Jq_load ho hx hi hXi ht hl
    ·simp at h
   ·simp at h
  ·simp at h
 ·rw [hc] at h;simp at h
theorem stepD_ok (hF:F.Ok P) {d:D} (h:stepD F X Γ H o.op = some d):Jq P ops X o Γ H d:=by
 generalize hop:o.op = op at h
 unfold stepD at h
 split at h
 ·rename_i x
  cases hn:nnil x
  ·rw [hn] at h;simp at h
  ·rw [hn] at h;exact Jq_move hop h
 ·rename_i x
  cases hn:nnil x
  ·rw [hn] at h;simp at h
  ·rw [hn] at h;exact Jq_assign hop h
 ·split at h
  ·rename_i xs hx
   split at h
   ·rename_i y hy
    simp only [Option.some.injEq] at h
    subst h
    exact Jq_extract hop hx hy
   ·simp at h
  ·simp at h
 ·split at h
  ·rename_i b hc
   split at h
   ·exact Jq_pick_t hop hc h
   ·exact Jq_pick_f hop hc h
  ·simp at h
 ·split at h
  ·rename_i b hx
   simp only [Option.some.injEq] at h
   subst h
   exact Jq_not hop hx rfl
  ·simp at h
 ·split at h
  ·rename_i i off hx
   split at h
   ·rename_i fo sz hf
    have hf:=get2_ok hF.fo hf
    cases hz:Nat.beq sz 0
    ·rw [hz] at h
     simp only [cond_false,Option.some.injEq] at h
     subst h
     exact Jq_fieldAddr hop hx hf hz
    ·rw [hz] at h;simp at h
   ·simp at h
  ·simp at h
 ·split at h
  ·rename_i i off hx
   exact ldD_ok hF hop hx h
  ·simp at h
 ·split at h
  ·rename_i i off hx
   simp only [Option.some.injEq] at h
   subst h
   exact Jq_nilCheck hop hx
  ·simp at h
 ·simp at h
def gst (ops:Array Oper) (Γ:Gam) (o:Oper):Option Bool:=
 match o.guard with
 | none=>some true
 | some (j,want)=>match (ops[j]?).bind (·.dst) with
  | some s=>match lookT Γ s with
   | some (.inl (.inl (.inl (.bool b))))=>match b with
    | true=>some want
    | false=>some (!want)
   | some (.inr (.inl []))=>some false
   | _=>none
  | none=>none
theorem gst_f (h:gst ops Γ o = some false):JO P ops X o Γ H (some (D.tup [])) H:=by
 unfold gst at h
 split at h
 ·simp at h
 ·rename_i j want hgd
  split at h
  ·rename_i s hs
   split at h
   ·rename_i b hb
    split at h
    ·simp only [Option.some.injEq] at h;subst h;exact JO_skip hgd hs hb
    ·simp only [Option.some.injEq] at h
     have:want = true:=by cases want <;> simp_all
     subst this;exact JO_skip hgd hs hb
   ·rename_i hb;exact JO_skipU hgd hs hb
   ·simp at h
  ·simp at h
theorem DK_no {tl:List (Option Nat)} {n:Nat} {os:List Oper} {K:Gam→Hp→Prop} (h:gst ops Γ o = some false) (hr:DKn P ops tl X (n + 1) os (putG Γ o.dst (some (D.tup []))) H K):DKn P ops tl X n (o :: os) Γ H K:=by
 unfold gst at h
 split at h
 ·simp at h
 ·rename_i j want hgd
  split at h
  ·rename_i s hs
   split at h
   ·rename_i b hb
    split at h
    ·simp only [Option.some.injEq] at h;subst h;exact DK_skip hgd hs hb hr
    ·simp only [Option.some.injEq] at h
     have:want = true:=by cases want <;> simp_all
     subst this;exact DK_skip hgd hs hb hr
   ·rename_i hb;exact DK_skipU hgd hs hb hr
   ·simp at h
  ·simp at h
theorem hq_ {α β:Type} {p:α→β→Prop}:∀ a w,p a w→p a w:=fun _ _ h=>h
theorem rA {s t i n:Nat} {e:HE} {x:V} (ht:TyIs P t true n) (hs:lookT Γ s = some (D.ptr i 0)) (hi:H[i]? = some (some e)) (hn:(Nat.beq e.ls.length n && Nat.blt 0 n) = true) (hx:x = V.agg e.ls):resOk P Γ H (.cell s t) x:=by
 simp only [Bool.and_eq_true,Nat.beq_eq,Nat.blt_eq] at hn
 obtain ⟨rfl,h2⟩:=hn
 exact ⟨i,e,hs,hi,.inl ⟨ht,h2,hx⟩⟩
@[reducible] def hb_ (t:Nat) (ls:List Leaf):Option HE:=some ⟨t,ls,none,none⟩
@[reducible] def hbq (t:Nat) (ls:List Leaf) (q:Nat):Option HE:=some ⟨t,ls,none,some (.inl q)⟩
@[reducible] def hgr {α:Type} (t sz:Nat) (e:El α) (l:List α) (n:Nat):Option HE:=some ⟨t,e.all l,some sz,some (.inr ((e.all l).length,some n))⟩
theorem trim_ {Q:Exit→Act→World→Prop} {w0:Frm} {A0:Foot} {N:Nat} {ex:Exit} (n:Nat) (hn:(H.drop n).all Option.isNone = true) (h:At Q w0 A0 N Γ (H.take n) ex):At Q w0 A0 N Γ H ex:=by
 refine At_trim (H.take n) (H.drop n).length ?_ h
 have:H.drop n = List.replicate (H.drop n).length none:=by
  refine List.eq_replicate_iff.2 ⟨rfl,fun b hb=>?_⟩
  have:=List.all_eq_true.1 hn b hb
  exact Option.isNone_iff_eq_none.1 this
 rw [← this,List.take_append_drop]
end
end Rc
set_option linter.unusedSimpArgs false
set_option linter.unusedVariables false
namespace Rc
open Go Go.RowKit
inductive KF where
 | thn (y:Code)
 | blk (id:Nat)
 | lp (K:Act→World→Prop)
def qk (P:Program) (Q:Exit→Act→World→Prop):List KF→Exit→Act→World→Prop
 | []=>Q
 | .thn y :: ks=>Exit.then (y.wp P (qk P Q ks)) (qk P Q ks)
 | .blk id :: ks=>Exit.inBlock id (qk P Q ks)
 | .lp K :: ks=>Exit.then K (qk P Q ks)
inductive Md where
 | code (c:Code)
 | ops (r:Array Oper) (l:List Oper)
 | ex (e:Exit)
@[reducible] def Ms (P:Program) (Q:Exit→Act→World→Prop) (w0:Frm) (A0:Foot) (N:Nat) (ks:List KF) (Γ:Gam) (H:Hp):Md→Prop
 | .code c=>Tc P (qk P Q ks) w0 A0 N Γ H c
 | .ops r l=>Tl P r (qk P Q ks) w0 A0 N Γ H l
 | .ex e=>At (qk P Q ks) w0 A0 N Γ H e
structure MTab extends FTab where
 tz:List (Nat × List Leaf)
 pl:List (Nat × List (Nat × Nat))
 ft:List ((Nat × Nat) × Nat × Nat)
 un:List (Nat × Nat)
 ik:List (Nat × IntKind)
 inf:List (Nat × Nat × Nat)
structure MTab.Ok (P:Program) (F:MTab):Prop where
 f:F.toFTab.Ok P
 tz:allP (fun e=>TyZero P e.1 e.2) F.tz
 pl:allP (fun e=>structPlaces P e.1 = some e.2) F.pl
 ft:allP (fun e=>fieldTy P e.1.1 e.1.2 = some e.2) F.ft
 un:allP (fun e=>P.underlying e.1 = some (.slice e.2)) F.un
 ik:allP (fun e=>P.underlying e.1 = some (.int e.2)) F.ik
 inf:allP (fun e=>∃ (i:TypeInfo) (z:Value),P.info? e.1 = some i∧i.zero = some z∧i.size = e.2.1∧z.cells.size = e.2.1∧i.bytes = e.2.2) F.inf
class Tab (P:Program) where
 F:MTab
 ok:F.Ok P
 mo:P.follows .mixedOrders = true
def plain {α β:Type}:List α→(List α→Option β)→Option β
 | [],k=>k []
 | x :: l,k=>plain l fun l'=>k (x :: l')
theorem plain_eq {α β:Type}:∀ (l:List α) (k:List α→Option β),plain l k = k l
 | [],_=>rfl
 | x :: l,k=>plain_eq l fun l'=>k (x :: l')
def putK {β:Type} (Γ:Gam) (dst:Option Nat) (d:Option D) (k:Gam→Option β):Option β:=
 match dst with
 | some s=>k ((s,d) :: Γ)
 | none=>k Γ
theorem putK_eq {β:Type} (Γ:Gam) (dst:Option Nat) (d:Option D) (k:Gam→Option β):putK Γ dst d k = k (putG Γ dst d):=by cases dst <;> rfl
def nats:List Nat:=[0,1,2,3,4,5,6,7,8,9,10,11,12,13,14,15,16,17,18,19,20,21,22,23,24,25,26,27,28,29,30,31,32,33,34,35,36,37,38,39,40,41,42,43,44,45,46,47,48,49,50,51,52,53,54,55,56,57,58,59,60,61,62,63]
def natK {β:Type}:Hp→List Nat→(Nat→Option β)→Option β
 | [],n :: _,k=>k n
 | _ :: H,_ :: l,k=>natK H l k
 | _,[],_=>none
theorem natK_eq {β:Type}:∀ (H:Hp) (l:List Nat) (k:Nat→Option β) {b:β},natK H l k = some b→∃ n,l[H.length]? = some n∧k n = some b
 | [],n :: _,k,b,h=>⟨n,rfl,h⟩
 | _ :: H,_ :: l,k,b,h=>natK_eq H l k h
 | _,[],_,_,h=>by simp [natK] at h
theorem nats_eq:nats = List.range 64:=by decide
theorem nat_len {β:Type} {H:Hp} {k:Nat→Option β} {b:β} (h:natK H nats k = some b):k H.length = some b:=by
 obtain ⟨n,h1,h2⟩:=natK_eq H nats k h
 have hl:=(List.getElem?_eq_some_iff.1 h1).1
 rw [nats_eq,List.length_range] at hl
 rw [nats_eq,List.getElem?_range hl] at h1
 cases h1;exact h2
def kindEq (k k':IntKind):Bool:=decide (k = k')
def cmpD:BinOp→Int→Int→Option D
 | .lss,m,n=>some (D.bool (decide (m < n)))
 | .leq,m,n=>some (D.bool (decide (m≤n)))
 | .gtr,m,n=>some (D.bool (decide (n < m)))
 | .geq,m,n=>some (D.bool (decide (n≤m)))
 | .eql,m,n=>some (D.bool (m == n))
 | .neq,m,n=>some (D.bool (m != n))
 | _,_,_=>none
def mD (F:MTab) (X:List Nat) (Γ:Gam) (H:Hp):Op→Option D
 | .move x=>bif nnil x then opD Γ x else match x with
  | .const (.slice none 0 0)=>some (D.v (V.one nilL))
  | _=>none
 | .assign x=>bif nnil x then opD Γ x else match x with
  | .const (.slice none 0 0)=>some (D.v (V.one nilL))
  | _=>none
 | .build t parts=>
  match get1 t F.tz with
  | some zs=>match get1 t F.pl with
   | some pl=>match partsD Γ parts.toList with
    | some lp=>match fillL (fun i=>pl[i]?) zs lp with
     | some ls=>plain ls fun ls=>some (D.agg ls)
     | none=>none
    | none=>none
   | none=>none
  | none=>none
 | .field s x f=>
  match opD Γ x with
  | some (.inl (.inr ls))=>match get2 s f F.ft with
   | some (fo,t)=>match get1 t F.ty with
    | some (true,n)=>plain ((ls.drop fo).take n) fun ls=>some (D.agg ls)
    | some (false,n)=>match ls[fo]? with
     | some l=>bif Nat.beq n 1 then some (D.v (V.one l)) else none
     | none=>none
    | none=>none
   | none=>none
  | _=>none
 | .binOp op t x y u=>
  match opD Γ x with
  | some (.inl (.inl (.inl (.int k m))))=>match opD Γ y with
   | some (.inl (.inl (.inl (.int k' n))))=>bif kindEq k k' then cmpD op m n else none
   | _=>none
  | _=>none
 | .load t x=>
  match opD Γ x with
  | some (.inr (.inr (.inl (i,off))))=>bif X.contains i then none else match H[i]? with
   | some (some e)=>match get1 t F.ty with
    | some (true,n)=>bif Nat.blt 0 n && Nat.ble (off + n) e.ls.length then plain ((e.ls.drop off).take n) fun ls=>some (D.agg ls) else none
    | some (false,n)=>match e.ls[off]? with
     | some l=>bif Nat.beq n 1 then some (D.v (V.one l)) else none
     | none=>none
    | none=>none
   | _=>none
  | _=>none
 | op=>stepD F.toFTab X Γ H op
section
variable {P:Program} {ops:Array Oper} {X:List Nat} {o:Oper} {Γ:Gam} {H:Hp} {F:MTab}
theorem gst_p {C:Prop} (h:gst ops Γ o = some true) (hj:o.guard = none→C) (hg:∀ {j s:Nat} {want:Bool},o.guard = some (j,want)→(ops[j]?).bind (·.dst) = some s→lookT Γ s = some (D.bool want)→C):C:=by
 unfold gst at h
 split at h
 ·rename_i hn;exact hj hn
 ·rename_i j want hgd
  split at h
  ·rename_i s hs
   split at h
   ·rename_i b hb
    split at h
    ·simp only [Option.some.injEq] at h;subst h;exact hg hgd hs hb
    ·simp only [Option.some.injEq] at h
     have:want = false:=by cases want <;> simp_all
     subst this;exact hg hgd hs hb
   ·simp at h
   ·simp at h
  ·simp at h
theorem cmpD_ok {op:BinOp} {k:IntKind} {t u:Nat} {x y:Operand} {m n:Int} {d:D} (ho:o.op = .binOp op t x y u) (hx:opD Γ x = some (D.val (.int k m))) (hy:opD Γ y = some (D.val (.int k n))) (h:cmpD op m n = some d):Jq P ops X o Γ H d:=by
 unfold cmpD at h
 split at h
 ·simp only [Option.some.injEq] at h;subst h;exact Jq_lss ho hx hy rfl
 ·simp only [Option.some.injEq] at h;subst h;exact Jq_leq ho hx hy rfl
 ·simp only [Option.some.injEq] at h;subst h;exact Jq_gtr ho hx hy rfl
 ·simp only [Option.some.injEq] at h;subst h;exact Jq_geq ho hx hy rfl
 ·simp only [Option.some.injEq] at h;subst h;exact Jq_eql ho hx hy rfl
 ·simp only [Option.some.injEq] at h;subst h;exact Jq_neq ho hx hy rfl
 ·simp at h
theorem mD_ok (hF:F.Ok P) {d:D} (h:mD F X Γ H o.op = some d):Jq P ops X o Γ H d:=by
 generalize hop:o.op = op at h
 unfold mD at h
 split at h
 ·rename_i x
  cases hn:nnil x
  ·rw [hn] at h
   simp only [cond_false] at h
   split at h
   ·simp only [Option.some.injEq] at h;subst h;exact Jq_move_nil hop
   ·simp at h
  ·rw [hn] at h;exact Jq_move hop h
 ·rename_i x
  cases hn:nnil x
  ·rw [hn] at h
   simp only [cond_false] at h
   split at h
   ·simp only [Option.some.injEq] at h;subst h;exact Jq_assign_nil hop
   ·simp at h
  ·rw [hn] at h;exact Jq_assign hop h
 ·split at h
  ·rename_i zs hz
   split at h
   ·rename_i pl hpl
    split at h
    ·rename_i lp hlp
     split at h
     ·rename_i ls hls
      rw [plain_eq] at h
      simp only [Option.some.injEq] at h
      subst h
      exact Jq_build hop (get1_ok hF.tz hz) hlp (get1_ok hF.pl hpl) hls
     ·simp at h
    ·simp at h
   ·simp at h
  ·simp at h
 ·split at h
  ·rename_i ls hx
   split at h
   ·rename_i fo t hf
    have hf:=get2_ok hF.ft hf
    split at h
    ·rename_i n ht
     rw [plain_eq] at h
     simp only [Option.some.injEq] at h
     subst h
     exact Jq_fieldTA hop hx hf (get1_ok hF.f.ty ht) rfl
    ·rename_i n ht
     split at h
     ·rename_i l hl
      cases hn:Nat.beq n 1
      ·rw [hn] at h;simp at h
      ·rw [hn] at h
       simp only [cond_true,Option.some.injEq] at h
       subst h
       have:=Nat.eq_of_beq_eq_true hn
       subst this
       exact Jq_fieldT hop hx hf (get1_ok hF.f.ty ht) hl
     ·simp at h
    ·simp at h
   ·simp at h
  ·simp at h
 ·split at h
  ·rename_i k m hx
   split at h
   ·rename_i k' n hy
    cases hk:kindEq k k'
    ·rw [hk] at h;simp at h
    ·rw [hk] at h
     have:=of_decide_eq_true hk
     subst this
     exact cmpD_ok hop hx hy h
   ·simp at h
  ·simp at h
 ·rename_i t x
  split at h
  ·rename_i i off hx
   cases hc:X.contains i
   ·rw [hc] at h
    simp only [cond_false] at h
    have ho:ldD F.toFTab X H t i off = some d:=by
     rw [← h]
     unfold ldD
     rw [hc]
     simp only [cond_false,plain_eq] <;> rfl
    exact ldD_ok hF.f hop hx ho
   ·rw [hc] at h;simp at h
  ·simp at h
 ·exact stepD_ok hF.f (by rw [hop];exact h)
def mE (F:MTab) (Γ:Gam) (H:Hp):Op→Option (Option D × Hp)
 | .alloc t=>match get1 t F.tz with
  | some zs=>natK H nats fun n=>plain (H ++ [some ⟨t,zs,none,none⟩]) fun H'=>some (some (D.ptr n 0),H')
  | none=>none
 | .box t x=>match opD Γ x with
  | some (.inl y)=>natK H nats fun n=>plain y.leaves fun ls=>plain (H ++ [some ⟨t,ls,none,none⟩]) fun H'=>some (some (D.ptr n 0),H')
  | _=>none
 | .store t x y=>
  match opD Γ x with
  | some (.inr (.inr (.inl (i,off))))=>match opD Γ y with
   | some (.inl v)=>match H[i]? with
    | some (some e)=>match get1 t F.ty with
     | some (b,n)=>bif Nat.beq v.leaves.length n && (Nat.blt 0 n && (Nat.ble (off + n) e.ls.length && Nat.beq e.fz 0)) then
       plain (splice e.ls off v.leaves) fun ls=>plain (H.set i (some ⟨e.t,ls,e.row,e.pin⟩)) fun H'=>some (none,H') else none
     | none=>none
    | _=>none
   | _=>none
  | _=>none
 | _=>none
theorem mE_ok (hF:F.Ok P) {d:Option D} {H':Hp} (h:mE F Γ H o.op = some (d,H')):Je P ops o Γ H d H':=by
 generalize hop:o.op = op at h
 unfold mE at h
 split at h
 ·split at h
  ·rename_i zs hz
   have h:=nat_len h
   rw [plain_eq] at h
   simp only [Option.some.injEq,Prod.mk.injEq] at h
   obtain ⟨rfl,rfl⟩:=h
   exact Je_alloc hop (get1_ok hF.tz hz) rfl
  ·simp at h
 ·split at h
  ·rename_i y hx
   have h:=nat_len h
   simp only [plain_eq,Option.some.injEq,Prod.mk.injEq] at h
   obtain ⟨rfl,rfl⟩:=h
   exact Je_box hop hx rfl
  ·simp at h
 ·split at h
  ·rename_i i off hx
   split at h
   ·rename_i v hy
    split at h
    ·rename_i e hi
     split at h
     ·rename_i b n ht
      have ht:=get1_ok hF.f.ty ht
      cases hc:(Nat.beq v.leaves.length n && (Nat.blt 0 n && (Nat.ble (off + n) e.ls.length && Nat.beq e.fz 0)))
      ·rw [hc] at h;simp at h
      ·rw [hc] at h
       simp only [plain_eq,cond_true,Option.some.injEq,Prod.mk.injEq] at h
       simp only [Bool.and_eq_true,Nat.blt_eq,Nat.ble_eq,Nat.beq_eq] at hc
       obtain ⟨rfl,rfl⟩:=h
       exact Je_store hop hx hy hi ht hc.1 hc.2.1 hc.2.2.1 rfl hc.2.2.2
     ·simp at h
    ·simp at h
   ·simp at h
  ·simp at h
 ·simp at h
def mO (F:MTab) (N:Nat) (ops:Array Oper) (Γ:Gam) (H:Hp) (o:Oper):Option (Gam × Hp):=
 bif dstOk N o.dst then
  match gst ops Γ o with
  | some true=>
   bif isEff o then
    match mE F Γ H o.op with
    | some (d,H')=>putK Γ o.dst d fun Γ=>some (Γ,H')
    | none=>none
   else
    match mD F [] Γ H o.op with
    | some d=>putK Γ o.dst (some d) fun Γ=>some (Γ,H)
    | none=>none
  | some false=>putK Γ o.dst (some (D.tup [])) fun Γ=>some (Γ,H)
  | none=>none
 else none
theorem mO_ok {Q:Exit→Act→World→Prop} {w0:Frm} {A0:Foot} {N:Nat} {Γ':Gam} {H':Hp} {l:List Oper} (hF:F.Ok P) (h:mO F N ops Γ H o = some (Γ',H')) (hr:Tl P ops Q w0 A0 N Γ' H' l):Tl P ops Q w0 A0 N Γ H (o :: l):=by
 unfold mO at h
 cases hd:dstOk N o.dst
 ·rw [hd] at h;simp at h
 ·rw [hd] at h
  simp only [cond_true] at h
  split at h
  ·rename_i hg
   cases he:isEff o
   ·rw [he] at h
    simp only [cond_false] at h
    split at h
    ·rename_i d hq
     simp only [putK_eq,Option.some.injEq,Prod.mk.injEq] at h
     obtain ⟨rfl,rfl⟩:=h
     have hq:=mD_ok (ops:=ops) hF hq
     exact Tl_q (gst_p hg (fun hn=>JO_q hn he hq) (fun h1 h2 h3=>JO_qg h1 h2 h3 he hq)) hd hr
    ·simp at h
   ·rw [he] at h
    simp only [cond_true] at h
    split at h
    ·rename_i d2 H2 hf
     simp only [putK_eq,Option.some.injEq,Prod.mk.injEq] at h
     obtain ⟨rfl,rfl⟩:=h
     have hf:=mE_ok (ops:=ops) hF hf
     exact Tl_e (gst_p hg (fun hn=>JO_e hn he hf) (fun h1 h2 h3=>JO_eg h1 h2 h3 he hf)) he hd hr
    ·simp at h
  ·rename_i hg
   simp only [putK_eq,Option.some.injEq,Prod.mk.injEq] at h
   obtain ⟨rfl,rfl⟩:=h
   exact Tl_q (gst_f hg) hd hr
  ·simp at h
def mS1 (F:MTab) (N:Nat) (ks:List KF) (Γ:Gam) (H:Hp):Md→Option (List KF × Gam × Hp × Md)
 | .code c=>match c with
  | .seq x y=>some (.thn y :: ks,Γ,H,.code x)
  | .region _ r dr=>bif dr then none else some (ks,Γ,H,.ops r r.toList)
  | .skip=>some (ks,Γ,H,.ex .normal)
  | .exit id=>some (ks,Γ,H,.ex (.exit id))
  | .block id x=>some (.blk id :: ks,Γ,H,.code x)
  | .cond (.tmp s) x y=>match lookT Γ s with
   | some (.inl (.inl (.inl (.bool b))))=>match b with
    | true=>some (ks,Γ,H,.code x)
    | false=>some (ks,Γ,H,.code y)
   | _=>none
  | _=>none
 | .ops r l=>match l with
  | []=>some (ks,Γ,H,.ex .normal)
  | o :: l=>match mO F N r Γ H o with
   | some (Γ',H')=>some (ks,Γ',H',.ops r l)
   | none=>none
 | .ex e=>match ks with
  | []=>none
  | .thn y :: ks=>match e with
   | .normal=>some (ks,Γ,H,.code y)
   | .exit id=>some (ks,Γ,H,.ex (.exit id))
   | _=>none
  | .blk id :: ks=>match e with
   | .normal=>some (ks,Γ,H,.ex .normal)
   | .exit id'=>bif Nat.beq id' id then some (ks,Γ,H,.ex .normal) else some (ks,Γ,H,.ex (.exit id'))
   | _=>none
  | .lp _ :: ks=>match e with
   | .exit id=>some (ks,Γ,H,.ex (.exit id))
   | _=>none
def mSn (F:MTab) (N:Nat):Nat→List KF→Gam→Hp→Md→Option (List KF × Gam × Hp × Md)
 | 0,ks,Γ,H,m=>some (ks,Γ,H,m)
 | k + 1,ks,Γ,H,m=>match mS1 F N ks Γ H m with
  | some (ks',Γ',H',m')=>mSn F N k ks' Γ' H' m'
  | none=>none
def mRun (F:MTab) (N k:Nat) (ks:List KF) (Γ:Gam) (H:Hp) (m:Md):Option (List KF × Gam × Hp × Md):=plain Γ fun Γ=>plain H fun H=>mSn F N k ks Γ H m
section
variable {Q:Exit→Act→World→Prop} {w0:Frm} {A0:Foot} {N:Nat} {ks ks':List KF} {Γ':Gam} {H':Hp} {m m':Md}
theorem mS1_ok (hF:F.Ok P) (h:mS1 F N ks Γ H m = some (ks',Γ',H',m')) (hr:Ms P Q w0 A0 N ks' Γ' H' m'):Ms P Q w0 A0 N ks Γ H m:=by
 unfold mS1 at h
 split at h
 ·split at h
  ·simp only [Option.some.injEq,Prod.mk.injEq] at h
   obtain ⟨rfl,rfl,rfl,rfl⟩:=h
   exact Tc_seq hr
  ·rename_i id r dr
   cases dr
   ·simp only [cond_false,Option.some.injEq,Prod.mk.injEq] at h
    obtain ⟨rfl,rfl,rfl,rfl⟩:=h
    have:=Tc_region (id:=id) (l:=r.toList) (P:=P) (Q:=qk P Q ks) (w0:=w0) (A0:=A0) (N:=N) (Γ:=Γ) (H:=H) hr
    exact this
   ·simp at h
  ·simp only [Option.some.injEq,Prod.mk.injEq] at h
   obtain ⟨rfl,rfl,rfl,rfl⟩:=h
   exact Tc_skipA hr
  ·simp only [Option.some.injEq,Prod.mk.injEq] at h
   obtain ⟨rfl,rfl,rfl,rfl⟩:=h
   exact Tc_exitA hr
  ·simp only [Option.some.injEq,Prod.mk.injEq] at h
   obtain ⟨rfl,rfl,rfl,rfl⟩:=h
   exact Tc_block hr
  ·split at h
   ·rename_i b hl
    split at h
    ·simp only [Option.some.injEq,Prod.mk.injEq] at h
     obtain ⟨rfl,rfl,rfl,rfl⟩:=h
     exact Tc_t hl hr
    ·simp only [Option.some.injEq,Prod.mk.injEq] at h
     obtain ⟨rfl,rfl,rfl,rfl⟩:=h
     exact Tc_f hl hr
   ·simp at h
  ·simp at h
 ·split at h
  ·simp only [Option.some.injEq,Prod.mk.injEq] at h
   obtain ⟨rfl,rfl,rfl,rfl⟩:=h
   exact Tl_end hr
  ·split at h
   ·rename_i ho
    simp only [Option.some.injEq,Prod.mk.injEq] at h
    obtain ⟨rfl,rfl,rfl,rfl⟩:=h
    exact mO_ok hF ho hr
   ·simp at h
 ·split at h
  ·simp at h
  ·split at h
   ·simp only [Option.some.injEq,Prod.mk.injEq] at h
    obtain ⟨rfl,rfl,rfl,rfl⟩:=h
    exact At_then hr
   ·simp only [Option.some.injEq,Prod.mk.injEq] at h
    obtain ⟨rfl,rfl,rfl,rfl⟩:=h
    exact At_then_exit hr
   ·simp at h
  ·split at h
   ·simp only [Option.some.injEq,Prod.mk.injEq] at h
    obtain ⟨rfl,rfl,rfl,rfl⟩:=h
    exact At_block hr
   ·rename_i id _ _ id'
    cases hb:Nat.beq id' id
    ·rw [hb] at h
     simp only [cond_false,Option.some.injEq,Prod.mk.injEq] at h
     obtain ⟨rfl,rfl,rfl,rfl⟩:=h
     exact At_block_other hb hr
    ·rw [hb] at h
     have:=Nat.eq_of_beq_eq_true hb
     subst this
     simp only [cond_true,Option.some.injEq,Prod.mk.injEq] at h
     obtain ⟨rfl,rfl,rfl,rfl⟩:=h
     exact At_block_exit hr
   ·simp at h
  ·split at h
   ·simp only [Option.some.injEq,Prod.mk.injEq] at h
    obtain ⟨rfl,rfl,rfl,rfl⟩:=h
    exact At_then_exit hr
   ·simp at h
theorem mSn_ok (hF:F.Ok P) (k:Nat) (h:mSn F N k ks Γ H m = some (ks',Γ',H',m')) (hr:Ms P Q w0 A0 N ks' Γ' H' m'):Ms P Q w0 A0 N ks Γ H m:=by
 induction k generalizing ks Γ H m with
 | zero=>
  simp only [mSn,Option.some.injEq,Prod.mk.injEq] at h
  obtain ⟨rfl,rfl,rfl,rfl⟩:=h
  exact hr
 | succ k ih=>
  simp only [mSn] at h
  split at h
  ·rename_i hs
   exact mS1_ok hF hs (ih h)
  ·simp at h
theorem zc [T:Tab P] {c:Code} (k:Nat) (h:mRun T.F N k ks Γ H (.code c) = some (ks',Γ',H',m')) (hr:Ms P Q w0 A0 N ks' Γ' H' m'):Tc P (qk P Q ks) w0 A0 N Γ H c:=mSn_ok T.ok k (by unfold mRun at h;rw [plain_eq,plain_eq] at h;exact h) hr
theorem zl [T:Tab P] {l:List Oper} (k:Nat) (h:mRun T.F N k ks Γ H (.ops ops l) = some (ks',Γ',H',m')) (hr:Ms P Q w0 A0 N ks' Γ' H' m'):Tl P ops (qk P Q ks) w0 A0 N Γ H l:=mSn_ok T.ok k (by unfold mRun at h;rw [plain_eq,plain_eq] at h;exact h) hr
theorem za [T:Tab P] {e:Exit} (k:Nat) (h:mRun T.F N k ks Γ H (.ex e) = some (ks',Γ',H',m')) (hr:Ms P Q w0 A0 N ks' Γ' H' m'):At (qk P Q ks) w0 A0 N Γ H e:=mSn_ok T.ok k (by unfold mRun at h;rw [plain_eq,plain_eq] at h;exact h) hr
end
def mI (F:MTab) (Γ:Gam) (H:Hp) (i:Nat):Op→Option (Option D × HE)
 | .store t x y=>
  match opD Γ x with
  | some (.inr (.inr (.inl (j,off))))=>match opD Γ y with
   | some (.inl v)=>match H[i]? with
    | some (some e)=>match get1 t F.ty with
     | some (b,n)=>bif Nat.beq j i && (Nat.beq v.leaves.length n && (Nat.blt 0 n && (Nat.ble (off + n) e.ls.length && Nat.beq e.fz 0))) then plain (splice e.ls off v.leaves) fun ls=>some (none,⟨e.t,ls,e.row,e.pin⟩) else none
     | none=>none
    | _=>none
   | _=>none
  | _=>none
 | .alloc t=>match H[i]? with
  | some none=>match get1 t F.tz with
   | some zs=>some (some (D.ptr i 0),⟨t,zs,none,none⟩)
   | none=>none
  | _=>none
 | .box t x=>match H[i]? with
  | some none=>match opD Γ x with
   | some (.inl y)=>plain y.leaves fun ls=>some (some (D.ptr i 0),⟨t,ls,none,none⟩)
   | _=>none
  | _=>none
 | _=>none
theorem mI_ok (hF:F.Ok P) {i:Nat} {d:Option D} {e:HE} (h:mI F Γ H i o.op = some (d,e)):∀ H2:Hp,H2[i]? = H[i]?→Je P ops o Γ H2 d (H2.set i (some e)):=by
 generalize hop:o.op = op at h
 unfold mI at h
 split at h
 ·split at h
  ·rename_i j off hx
   split at h
   ·rename_i v hy
    split at h
    ·rename_i e0 hi
     split at h
     ·rename_i b n ht
      have ht:=get1_ok hF.f.ty ht
      cases hc:(Nat.beq j i && (Nat.beq v.leaves.length n && (Nat.blt 0 n && (Nat.ble (off + n) e0.ls.length && Nat.beq e0.fz 0))))
      ·rw [hc] at h;simp at h
      ·rw [hc] at h
       simp only [plain_eq,cond_true,Option.some.injEq,Prod.mk.injEq] at h
       simp only [Bool.and_eq_true,Nat.blt_eq,Nat.ble_eq,Nat.beq_eq] at hc
       obtain ⟨rfl,rfl⟩:=h
       obtain ⟨rfl,hc⟩:=hc
       exact Jd_store hop hx hy hi ht hc.1 hc.2.1 hc.2.2.1 rfl hc.2.2.2
     ·simp at h
    ·simp at h
   ·simp at h
  ·simp at h
 ·split at h
  ·rename_i hi
   split at h
   ·rename_i zs hz
    simp only [Option.some.injEq,Prod.mk.injEq] at h
    obtain ⟨rfl,rfl⟩:=h
    exact Jd_alloc hop (get1_ok hF.tz hz) hi
   ·simp at h
  ·simp at h
 ·split at h
  ·rename_i hi
   split at h
   ·rename_i y hx
    simp only [plain_eq,Option.some.injEq,Prod.mk.injEq] at h
    obtain ⟨rfl,rfl⟩:=h
    exact Jd_box hop hx hi
   ·simp at h
  ·simp at h
 ·simp at h
def mK (F:MTab) (X:List Nat) (tl:List (Option Nat)) (ops:Array Oper):Nat→Nat→Gam→Hp→List Oper→Option (Gam × Hp × List Oper)
 | 0,_,Γ,H,l=>some (Γ,H,l)
 | _ + 1,_,_,_,[]=>none
 | k + 1,n,Γ,H,o :: l=>match gst ops Γ o with
  | some true=>bif isEff o then
    match tl.getD n none with
    | some i=>match mI F Γ H i o.op with
     | some (d,e)=>putK Γ o.dst d fun Γ=>plain (H.set i (some e)) fun H=>mK F X tl ops k (n + 1) Γ H l
     | none=>none
    | none=>none
   else match mD F X Γ H o.op with
    | some d=>putK Γ o.dst (some d) fun Γ=>mK F X tl ops k (n + 1) Γ H l
    | none=>none
  | some false=>putK Γ o.dst (some (D.tup [])) fun Γ=>mK F X tl ops k (n + 1) Γ H l
  | none=>none
theorem mK_ok {tl:List (Option Nat)} {n:Nat} {l l':List Oper} {Γ':Gam} {H':Hp} {K:Gam→Hp→Prop} (hF:F.Ok P) (k:Nat) (h:mK F X tl ops k n Γ H l = some (Γ',H',l')) (hr:DKn P ops tl X (n + k) l' Γ' H' K):DKn P ops tl X n l Γ H K:=by
 induction k generalizing Γ H l n with
 | zero=>
  simp only [mK,Option.some.injEq,Prod.mk.injEq] at h
  obtain ⟨rfl,rfl,rfl⟩:=h
  exact hr
 | succ k ih=>
  have hr:DKn P ops tl X (n + 1 + k) l' Γ' H' K:=by rw [Nat.add_right_comm];exact hr
  cases l with
  | nil=>simp [mK] at h
  | cons o l=>
   simp only [mK] at h
   split at h
   ·rename_i hg
    cases he:isEff o
    ·rw [he] at h
     simp only [cond_false] at h
     split at h
     ·rename_i d hq
      rw [putK_eq] at h
      have hq:=mD_ok (ops:=ops) hF hq
      exact DK_q (gst_p hg (fun hn=>JO_q hn he hq) (fun h1 h2 h3=>JO_qg h1 h2 h3 he hq)) (ih h hr) he
     ·simp at h
    ·rw [he] at h
     simp only [cond_true] at h
     split at h
     ·rename_i i ht
      split at h
      ·rename_i d e hm
       rw [putK_eq,plain_eq] at h
       have hm:=mI_ok (ops:=ops) hF hm
       exact gst_p hg (fun hn=>DK_s i ht hn he hm (ih h hr)) (fun h1 h2 h3=>DK_sg i ht h1 h2 h3 he hm (ih h hr))
      ·simp at h
     ·simp at h
   ·rename_i hg
    rw [putK_eq] at h
    exact DK_no hg (ih h hr)
   ·simp at h
section
variable {tl:List (Option Nat)} {n:Nat} {l l':List Oper} {os rest:List Oper} {Γ':Gam} {H':Hp} {K:Gam→Hp→Prop}
theorem dz [T:Tab P] (k:Nat) (h:(plain Γ fun Γ=>plain H fun H=>mK T.F X tl ops k n Γ H l) = some (Γ',H',l')) (hr:DKn P ops tl X (n + k) l' Γ' H' K):DKn P ops tl X n l Γ H K:=mK_ok T.ok k (by rw [plain_eq,plain_eq] at h;exact h) hr
def mkTl (az:List (Nat × Nat)) (m:Nat):List (Option Nat):=(List.range m).map fun k=>get1 k az
variable {Q:Exit→Act→World→Prop} {w0:Frm} {A0:Foot} {N:Nat} {ks:List KF}
theorem dr_ [T:Tab P] (k:Nat) (az:List (Nat × Nat)) (X:List Nat) {id:Nat} {l:List Oper} (hd:DKn P l.toArray (mkTl az l.length) X 0 l Γ (H ++ List.replicate k none) fun Γ' H'=>At Q w0 A0 N Γ' H' .normal)
  (hok:regionOk N l.toArray (mkTl az l.length) X = true:=by kernel_rfl):Tc P Q w0 A0 N Γ H (.region id l.toArray true):=Tc_drawK k _ X T.mo hok hd
theorem tq_ {d:D} (h1:(gst ops Γ o,isEff o,dstOk N o.dst) = (some true,false,true)) (h:Jq P ops [] o Γ H d) (hr:Tl P ops Q w0 A0 N (putG Γ o.dst (some d)) H rest):Tl P ops Q w0 A0 N Γ H (o :: rest):=by
 simp only [Prod.mk.injEq] at h1
 exact Tl_q (gst_p h1.1 (fun hn=>JO_q hn h1.2.1 h) (fun a b c=>JO_qg a b c h1.2.1 h)) h1.2.2 hr
theorem te_ {d:Option D} (h1:(gst ops Γ o,isEff o,dstOk N o.dst) = (some true,true,true)) (h:Je P ops o Γ H d H') (hr:Tl P ops Q w0 A0 N (putG Γ o.dst d) H' rest):Tl P ops Q w0 A0 N Γ H (o :: rest):=by
 simp only [Prod.mk.injEq] at h1
 exact Tl_e (gst_p h1.1 (fun hn=>JO_e hn h1.2.1 h) (fun a b c=>JO_eg a b c h1.2.1 h)) h1.2.1 h1.2.2 hr
theorem kq_ {d:D} (h1:(gst ops Γ o,isEff o) = (some true,false)) (h:Jq P ops X o Γ H d) (hr:DKn P ops tl X (n + 1) os (putG Γ o.dst (some d)) H K):DKn P ops tl X n (o :: os) Γ H K:=by
 simp only [Prod.mk.injEq] at h1
 exact DK_q (gst_p h1.1 (fun hn=>JO_q hn h1.2 h) (fun a b c=>JO_qg a b c h1.2 h)) hr h1.2
theorem ke_ {d:Option D} (h1:(gst ops Γ o,isEff o) = (some true,true)) (h:∀ H2,Je P ops o Γ H2 d H2) (hr:DKn P ops tl X (n + 1) os (putG Γ o.dst d) H K):DKn P ops tl X n (o :: os) Γ H K:=by
 simp only [Prod.mk.injEq] at h1
 exact gst_p h1.1 (fun hn=>DK_c hn h1.2 h hr) (fun a b c=>DK_cg a b c h1.2 h hr)
theorem ki_ (i:Nat) {d:Option D} {e:Option HE} (h1:(tl.getD n none,gst ops Γ o,isEff o) = (some i,some true,true)) (h:∀ H2:Hp,H2[i]? = H[i]?→Je P ops o Γ H2 d (H2.set i e))
  (hr:DKn P ops tl X (n + 1) os (putG Γ o.dst d) (H.set i e) K):DKn P ops tl X n (o :: os) Γ H K:=by
 simp only [Prod.mk.injEq] at h1
 exact gst_p h1.2.1 (fun hn=>DK_s i h1.1 hn h1.2.2 h hr) (fun a b c=>DK_sg i h1.1 a b c h1.2.2 h hr)
theorem is_ {s:Nat} {b:Bool} {G:Gam} {l:List Oper} (b':Bool) (hG:G = (s,some (D.bool b)) :: Γ) (h:b = b') (hr:Tl P ops Q w0 A0 N ((s,some (D.bool b')) :: Γ) H l):Tl P ops Q w0 A0 N G H l:=by subst hG;subst h;exact hr
theorem kis_ {s:Nat} {b:Bool} {G:Gam} (b':Bool) (hG:G = (s,some (D.bool b)) :: Γ) (h:b = b') (hr:DKn P ops tl X n l ((s,some (D.bool b')) :: Γ) H K):DKn P ops tl X n l G H K:=by subst hG;subst h;exact hr
theorem two_ {s:Nat} {b:Bool} {G:Gam} {l:List Oper} (hG:G = (s,some (D.bool b)) :: Γ) (hf:b = false→Tl P ops Q w0 A0 N ((s,some (D.bool false)) :: Γ) H l) (ht:b = true→Tl P ops Q w0 A0 N ((s,some (D.bool true)) :: Γ) H l):Tl P ops Q w0 A0 N G H l:=by
 subst hG
 cases b
 ·exact hf rfl
 ·exact ht rfl
theorem ktw_ {s:Nat} {b:Bool} {G:Gam} (hG:G = (s,some (D.bool b)) :: Γ) (hf:b = false→DKn P ops tl X n l ((s,some (D.bool false)) :: Γ) H K) (ht:b = true→DKn P ops tl X n l ((s,some (D.bool true)) :: Γ) H K):DKn P ops tl X n l G H K:=by
 subst hG
 cases b
 ·exact hf rfl
 ·exact ht rfl
theorem eq_ {s:Nat} {d:D} {G:Gam} {l:List Oper} (d':D) (hG:G = (s,some d) :: Γ) (h:d = d') (hr:Tl P ops Q w0 A0 N ((s,some d') :: Γ) H l):Tl P ops Q w0 A0 N G H l:=by subst hG;subst h;exact hr
theorem keq_ {s:Nat} {d:D} {G:Gam} (d':D) (hG:G = (s,some d) :: Γ) (h:d = d') (hr:DKn P ops tl X n l ((s,some d') :: Γ) H K):DKn P ops tl X n l G H K:=by subst hG;subst h;exact hr
theorem kp_ (X':List Nat) {d:D} (h1:(gst ops Γ o,isEff o) = (some true,false)) (h:Jq P ops X' o Γ H d) (hr:DKn P ops tl X (n + 1) os (putG Γ o.dst (some d)) H K) (hx:(X.all fun x=>X'.contains x || pinnedN ops tl x n) = true:=by kernel_rfl):DKn P ops tl X n (o :: os) Γ H K:=by
 simp only [Prod.mk.injEq] at h1
 exact DK_qp X' (gst_p h1.1 (fun hn=>JO_q hn h1.2 h) (fun a b c=>JO_qg a b c h1.2 h)) hx hr h1.2
theorem isEff_call {f:Nat} {args:Array Operand} {tys:Array TypeId} (ho:o.op = .call { callee:=.value (.func f),args:=args,argTypes:=tys }):isEff o = true:=by unfold isEff;rw [ho]
theorem tc_ {f:Nat} {args:Array Operand} {tys:Array TypeId} {xs:List V} {y:R} (hf:FnOk P f) (h:(gst ops Γ o,dstOk N o.dst,o.op,argsD Γ args.toList) = (some true,true,Op.call { callee:=.value (.func f),args:=args,argTypes:=tys },some xs))
  (hspec:Ctr P f xs y) (hr:Tl P ops Q w0 A0 N (putG Γ o.dst (some y.toD)) H rest) (hcl:clVs xs = true:=by rfl):Tl P ops Q w0 A0 N Γ H (o :: rest):=by
 simp only [Prod.mk.injEq] at h
 exact te_ (by rw [h.1,h.2.1,isEff_call h.2.2.1]) (Je_call h.2.2.1 hf h.2.2.2 hspec hcl) hr
theorem kc_ {f:Nat} {args:Array Operand} {tys:Array TypeId} {xs:List V} {y:R} (hf:FnOk P f) (h:(gst ops Γ o,o.op,argsD Γ args.toList) = (some true,Op.call { callee:=.value (.func f),args:=args,argTypes:=tys },some xs))
  (hspec:Ctr P f xs y) (hr:DKn P ops tl X (n + 1) os (putG Γ o.dst (some y.toD)) H K) (hcl:clVs xs = true:=by rfl):DKn P ops tl X n (o :: os) Γ H K:=by
 simp only [Prod.mk.injEq] at h
 exact ke_ (by rw [h.1,isEff_call h.2.1]) (Jd_call h.2.1 hf h.2.2 hspec hcl) hr
end
section
variable {x y:Operand} {t u:Nat}
theorem jld [T:Tab P] {i off:Nat} {e:HE} {l:Leaf} (h:(o.op,opD Γ x,H[i]?,X.contains i,get1 t T.F.ty,e.ls[off]?) = (Op.load t x,some (D.ptr i off),some (some e),false,some (false,1),some l)):Jq P ops X o Γ H (D.v (V.one l)):=by
 simp only [Prod.mk.injEq] at h
 exact Jq_load h.1 h.2.1 h.2.2.1 (fun hm=>by rw [List.contains_iff_mem.2 hm] at h;simp at h) (get1_ok T.ok.f.ty h.2.2.2.2.1) h.2.2.2.2.2
theorem jln [T:Tab P] {n:Nat} {ls:List Leaf} (h:(o.op,opD Γ x,get1 t T.F.un) = (Op.call { callee:=.builtin .len,args:=#[x],argTypes:=#[t] },some (D.rep (sliceRep n ls)),some u)):Jq P ops X o Γ H (D.int n):=by
 simp only [Prod.mk.injEq] at h
 exact Jq_len h.1 h.2.1 (get1_ok T.ok.un h.2.2)
theorem jlr [T:Tab P] {n:Nat} {ls:List Leaf} (h:(o.op,opD Γ x,get1 t T.F.ty) = (Op.load t x,some (D.rep (ptrRep ls)),some (true,n))) (hn:n = ls.length:=by rfl):Jq P ops X o Γ H (D.agg ls):=by
 simp only [Prod.mk.injEq] at h
 exact Jq_load_ref_agg h.1 h.2.1 (get1_ok T.ok.f.ty h.2.2) hn
theorem jli [T:Tab P] {l:Leaf} {ls:List Leaf} (h:(o.op,opD Γ x,get1 t T.F.ty) = (Op.load t x,some (D.rep (ptrRep (l :: ls))),some (false,1))):Jq P ops X o Γ H (D.v (V.one l)):=by
 simp only [Prod.mk.injEq] at h
 exact Jq_load_ref h.1 h.2.1 (get1_ok T.ok.f.ty h.2.2)
theorem jfr [T:Tab P] {s f fo sz:Nat} {ls:List Leaf} (h:(o.op,opD Γ x,get2 s f T.F.fo,Nat.beq sz 0) = (Op.fieldAddr s x f,some (D.rep (ptrRep ls)),some (fo,sz),false)):Jq P ops X o Γ H (D.rep (ptrRep (ls.drop fo))):=by
 simp only [Prod.mk.injEq] at h
 exact Jq_fieldAddr_ref h.1 h.2.1 (get2_ok T.ok.f.fo h.2.2.1) h.2.2.2
theorem jft [T:Tab P] {s f fo sz:Nat} {ls:List Leaf} (h:(o.op,opD Γ x,get2 s f T.F.fo,Nat.beq sz 0) = (Op.fieldAddr s x f,some (D.rep (ptrRep ls)),some (fo,sz),false)) {ls':List Leaf} (hls:(ls.drop fo).take sz = ls':=by rfl):Jq P ops X o Γ H (D.rep (ptrRep ls')):=by
 simp only [Prod.mk.injEq] at h
 exact Jq_fieldAddr_refT h.1 h.2.1 (get2_ok T.ok.f.fo h.2.2.1) h.2.2.2 hls
theorem jix [T:Tab P] {α:Type} {e:El α} {l:List α} {v:α} {k:IntKind} {j:Int} {b:Bool} (i:Nat) (hi:l[i]? = some v) (h:(o.op,opD Γ x,opD Γ y,get1 t T.F.un,get1 u T.F.ty) = (Op.indexAddr t x y,some (D.v (V.one (e.row l))),some (D.val (.int k j)),some u,some (b,e.sz)))
  (hj:j = (i:Int):=by first | rfl | omega):Jq P ops X o Γ H (D.rep (ptrRep (e.f v))):=by
 simp only [Prod.mk.injEq] at h
 exact Jq_indexX e l i h.1 h.2.1 h.2.2.1 (get1_ok T.ok.un h.2.2.2.1) (get1_ok T.ok.f.ty h.2.2.2.2) hi hj
theorem ji1 [T:Tab P] {n:Nat} {k:IntKind} {j:Int} {b:Bool} {ls:List Leaf} {l:Leaf} (h:(o.op,opD Γ x,opD Γ y,get1 t T.F.un,get1 u T.F.ty) = (Op.indexAddr t x y,some (D.rep (sliceRep n ls)),some (D.val (.int k j)),some u,some (b,1)))
  (hl:ls[j.toNat]? = some l) (h0:0≤j:=by omega) (hj:j < n:=by omega):Jq P ops X o Γ H (D.rep (ptrRep [l])):=by
 simp only [Prod.mk.injEq] at h
 exact Jq_index1 h.1 h.2.1 h.2.2.1 (get1_ok T.ok.un h.2.2.2.1) (get1_ok T.ok.f.ty h.2.2.2.2) h0 hj hl
theorem subL_refl {l0 l1:Leaf}:∀ (ls:List Leaf),subL l0 l1 ls ls
 | []=>trivial
 | l :: ls=>⟨.inl rfl,subL_refl ls⟩
theorem subL_set {l0 l1:Leaf}:∀ {ls:List Leaf} {k:Nat},ls[k]? = some l0→subL l0 l1 ls (ls.set k l1)
 | [],_,h=>by simp at h
 | l :: ls,0,h=>by simp at h;subst h;exact ⟨.inr ⟨rfl,rfl⟩,subL_refl ls⟩
 | l :: ls,k + 1,h=>by simp at h;exact ⟨.inl rfl,subL_set h⟩
theorem jvl [T:Tab P] {α:Type} {e:El α} {l:List α} {i off n r m u sz:Nat} {e0:HE} {ls:List Leaf} (k:Nat)
  (h:(o.op,opD Γ x,H[i]?,get1 t T.F.ty,(e0.ls.drop off).take n,ls[k]?,H[r]?) = (Op.load t x,some (D.ptr i off),some (some e0),some (true,n),ls,some (Leaf.own r m),some (some ⟨u,e.all l,some sz,some (.inr ((e.all l).length,some m))⟩)))
  (hk:(X.contains i,X.contains r,Nat.blt 0 n && Nat.ble (off + n) e0.ls.length,e.sz,Nat.blt 0 sz) = (false,false,true,sz,true)):Jq P ops X o Γ H (D.agg (ls.set k (e.row l))):=by
 simp only [Prod.mk.injEq,Bool.and_eq_true,Nat.blt_eq,Nat.ble_eq] at h hk
 obtain ⟨h1,h2,h3,h4,rfl,k1,h6⟩:=h
 obtain ⟨k2,k3,k4,k5,k6⟩:=hk
 have ni:∀ {a:Nat},X.contains a = false→a ∉ X:=fun hc hm=>by rw [List.contains_iff_mem.2 hm] at hc;simp at hc
 exact Jq_view (Jq_load_agg h1 h2 h3 (ni k2) (get1_ok T.ok.f.ty h4) k4.1 k4.2 rfl) (RowAt.ofE e l h6 k6 k5) (ni k3) (subL_set k1)
theorem ltT {k:IntKind} {m n:Int} (h:(o.op,opD Γ x,opD Γ y) = (Op.binOp .lss t x y u,some (D.val (.int k m)),some (D.val (.int k n)))) (hr:m < n:=by omega):Jq P ops X o Γ H (D.bool true):=by
 simp only [Prod.mk.injEq] at h
 exact Jq_lss h.1 h.2.1 h.2.2 (dT hr)
theorem ltF {k:IntKind} {m n:Int} (h:(o.op,opD Γ x,opD Γ y) = (Op.binOp .lss t x y u,some (D.val (.int k m)),some (D.val (.int k n)))) (hr:¬ m < n:=by omega):Jq P ops X o Γ H (D.bool false):=by
 simp only [Prod.mk.injEq] at h
 exact Jq_lss h.1 h.2.1 h.2.2 (dF hr)
theorem leT {k:IntKind} {m n:Int} (h:(o.op,opD Γ x,opD Γ y) = (Op.binOp .leq t x y u,some (D.val (.int k m)),some (D.val (.int k n)))) (hr:m≤n:=by omega):Jq P ops X o Γ H (D.bool true):=by
 simp only [Prod.mk.injEq] at h
 exact Jq_leq h.1 h.2.1 h.2.2 (dT hr)
theorem leF {k:IntKind} {m n:Int} (h:(o.op,opD Γ x,opD Γ y) = (Op.binOp .leq t x y u,some (D.val (.int k m)),some (D.val (.int k n)))) (hr:¬ m≤n:=by omega):Jq P ops X o Γ H (D.bool false):=by
 simp only [Prod.mk.injEq] at h
 exact Jq_leq h.1 h.2.1 h.2.2 (dF hr)
theorem gtT {k:IntKind} {m n:Int} (h:(o.op,opD Γ x,opD Γ y) = (Op.binOp .gtr t x y u,some (D.val (.int k m)),some (D.val (.int k n)))) (hr:n < m:=by omega):Jq P ops X o Γ H (D.bool true):=by
 simp only [Prod.mk.injEq] at h
 exact Jq_gtr h.1 h.2.1 h.2.2 (dT hr)
theorem gtF {k:IntKind} {m n:Int} (h:(o.op,opD Γ x,opD Γ y) = (Op.binOp .gtr t x y u,some (D.val (.int k m)),some (D.val (.int k n)))) (hr:¬ n < m:=by omega):Jq P ops X o Γ H (D.bool false):=by
 simp only [Prod.mk.injEq] at h
 exact Jq_gtr h.1 h.2.1 h.2.2 (dF hr)
theorem geT {k:IntKind} {m n:Int} (h:(o.op,opD Γ x,opD Γ y) = (Op.binOp .geq t x y u,some (D.val (.int k m)),some (D.val (.int k n)))) (hr:n≤m:=by omega):Jq P ops X o Γ H (D.bool true):=by
 simp only [Prod.mk.injEq] at h
 exact Jq_geq h.1 h.2.1 h.2.2 (dT hr)
theorem geF {k:IntKind} {m n:Int} (h:(o.op,opD Γ x,opD Γ y) = (Op.binOp .geq t x y u,some (D.val (.int k m)),some (D.val (.int k n)))) (hr:¬ n≤m:=by omega):Jq P ops X o Γ H (D.bool false):=by
 simp only [Prod.mk.injEq] at h
 exact Jq_geq h.1 h.2.1 h.2.2 (dF hr)
theorem eqT {k:IntKind} {m n:Int} (h:(o.op,opD Γ x,opD Γ y) = (Op.binOp .eql t x y u,some (D.val (.int k m)),some (D.val (.int k n)))) (hr:m = n:=by omega):Jq P ops X o Γ H (D.bool true):=by
 simp only [Prod.mk.injEq] at h
 exact Jq_eql h.1 h.2.1 h.2.2 (eT hr)
theorem eqF {k:IntKind} {m n:Int} (h:(o.op,opD Γ x,opD Γ y) = (Op.binOp .eql t x y u,some (D.val (.int k m)),some (D.val (.int k n)))) (hr:m≠n:=by omega):Jq P ops X o Γ H (D.bool false):=by
 simp only [Prod.mk.injEq] at h
 exact Jq_eql h.1 h.2.1 h.2.2 (eF hr)
theorem neT {k:IntKind} {m n:Int} (h:(o.op,opD Γ x,opD Γ y) = (Op.binOp .neq t x y u,some (D.val (.int k m)),some (D.val (.int k n)))) (hr:m≠n:=by omega):Jq P ops X o Γ H (D.bool true):=by
 simp only [Prod.mk.injEq] at h
 exact Jq_neq h.1 h.2.1 h.2.2 (nT hr)
theorem neF {k:IntKind} {m n:Int} (h:(o.op,opD Γ x,opD Γ y) = (Op.binOp .neq t x y u,some (D.val (.int k m)),some (D.val (.int k n)))) (hr:m = n:=by omega):Jq P ops X o Γ H (D.bool false):=by
 simp only [Prod.mk.injEq] at h
 exact Jq_neq h.1 h.2.1 h.2.2 (nF hr)
theorem jad {a b:Int} (n:Nat) (h:(o.op,opD Γ x,opD Γ y) = (Op.binOp .add t x y u,some (D.val (.int .i64 a)),some (D.val (.int .i64 b)))) (hr:a + b = (n:Int)∧(n:Int)≤9223372036854775807:=by omega):Jq P ops X o Γ H (D.val (.int .i64 ((n:Nat):Int))):=by
 simp only [Prod.mk.injEq] at h
 exact Jq_add h.1 h.2.1 h.2.2 (w64 hr.1 (by omega) hr.2)
theorem jsb {a b:Int} (n:Nat) (h:(o.op,opD Γ x,opD Γ y) = (Op.binOp .sub t x y u,some (D.val (.int .i64 a)),some (D.val (.int .i64 b)))) (hr:a - b = (n:Int)∧(n:Int)≤9223372036854775807:=by omega):Jq P ops X o Γ H (D.val (.int .i64 ((n:Nat):Int))):=by
 simp only [Prod.mk.injEq] at h
 exact Jq_sub h.1 h.2.1 h.2.2 (w64 hr.1 (by omega) hr.2)
theorem jcv [T:Tab P] {src dst:Nat} {k k':IntKind} {m:Int} (n:Nat) (h:(o.op,opD Γ x,get1 dst T.F.ik,(get1 src T.F.ik).isSome) = (Op.convert src dst x,some (D.val (.int k m)),some k',true)) (hr:k'.wrap m = ((n:Nat):Int)):Jq P ops X o Γ H (D.val (.int k' ((n:Nat):Int))):=by
 simp only [Prod.mk.injEq,Option.isSome_iff_exists] at h
 obtain ⟨h1,h2,h3,k0,h4⟩:=h
 exact Jq_convert h1 h2 (get1_ok T.ok.ik h3) (by rw [get1_ok T.ok.ik h4];rfl) hr
theorem jc6 [T:Tab P] {src dst:Nat} {k:IntKind} {m:Int} (n:Nat) (h:(o.op,opD Γ x,get1 dst T.F.ik,(get1 src T.F.ik).isSome) = (Op.convert src dst x,some (D.val (.int k m)),some .u64,true)) (hr:m % 18446744073709551616 = ((n:Nat):Int):=by omega):Jq P ops X o Γ H (D.val (.int .u64 ((n:Nat):Int))):=jcv n h (wu64 hr)
theorem jc3 [T:Tab P] {src dst:Nat} {k:IntKind} {m:Int} (n:Nat) (h:(o.op,opD Γ x,get1 dst T.F.ik,(get1 src T.F.ik).isSome) = (Op.convert src dst x,some (D.val (.int k m)),some .u32,true)) (hr:m % 4294967296 = ((n:Nat):Int):=by omega):Jq P ops X o Γ H (D.val (.int .u32 ((n:Nat):Int))):=jcv n h (wu32 hr)
theorem jci [T:Tab P] {src dst:Nat} {k:IntKind} {m:Int} (n:Nat) (h:(o.op,opD Γ x,get1 dst T.F.ik,(get1 src T.F.ik).isSome) = (Op.convert src dst x,some (D.val (.int k m)),some .i64,true)) (hr:m = ((n:Nat):Int)∧((n:Nat):Int)≤9223372036854775807:=by omega):Jq P ops X o Γ H (D.val (.int .i64 ((n:Nat):Int))):=jcv n h (w64 hr.1 (by omega) hr.2)
theorem jap [T:Tab P] {α:Type} {e:El α} {l:List α} {t2 u2 r n sz bt:Nat} (v:α)
  (h:(o.op,opD Γ x,H[r]?,opD Γ y) = (Op.call { callee:=.builtin .append,args:=#[x,y],argTypes:=#[t,t2] },some (D.v (V.one (Leaf.own r n))),some (some ⟨u,e.all l,some sz,some (.inr ((e.all l).length,some n))⟩),some (D.rep (sliceRep 1 (e.f v)))))
  (h2:(get1 t T.F.un,get1 t2 T.F.un,get1 u T.F.inf,e.sz,Nat.blt 0 sz) = (some u,some u2,some (sz,bt),sz,true))
  (hb:l.length + 1≤9223372036854775807∧(l.length + 1) * bt≤140737488355328:=by first | omega | (simp only [List.length_append,List.length_take,List.length_drop,List.length_cons,List.length_nil];omega)) :
  Je P ops o Γ H (some (D.v (V.one (Leaf.own r (n + 1))))) (H.set r (some ⟨u,e.all (l ++ [v]),some sz,some (.inr ((e.all (l ++ [v])).length,some (n + 1)))⟩)):=by
 simp only [Prod.mk.injEq,Nat.blt_eq] at h h2
 obtain ⟨i,z,i1,i2,i3,i4,i5⟩:=get1_ok T.ok.inf h2.2.2.1
 exact Je_appendR e l v h.1 h.2.1 h.2.2.2 h.2.2.1 h2.2.2.2.2 (get1_ok T.ok.un h2.1) (get1_ok T.ok.un h2.2.1) i1 i2 i3 i4 (by simp only [maxLen];omega) (by rw [i5];exact hb.2) h2.2.2.2.1
theorem jal [T:Tab P] {α:Type} {e:El α} {l l2:List α} {t2 u2 r n sz bt:Nat}
  (h:(o.op,opD Γ x,H[r]?,opD Γ y) = (Op.call { callee:=.builtin .append,args:=#[x,y],argTypes:=#[t,t2] },some (D.v (V.one (Leaf.own r n))),some (some ⟨u,e.all l,some sz,some (.inr ((e.all l).length,some n))⟩),some (D.v (V.one (e.row l2)))))
  (h2:(get1 t T.F.un,get1 t2 T.F.un,get1 u T.F.inf,e.sz,Nat.blt 0 sz) = (some u,some u2,some (sz,bt),sz,true))
  (hb:l.length + l2.length≤9223372036854775807∧(l.length + l2.length) * bt≤140737488355328:=by first | omega | (simp only [List.length_append,List.length_take,List.length_drop,List.length_cons,List.length_nil];omega)) :
  Je P ops o Γ H (some (D.v (V.one (Leaf.own r (n + 1))))) (H.set r (some ⟨u,e.all (l ++ l2),some sz,some (.inr ((e.all (l ++ l2)).length,some (n + 1)))⟩)):=by
 simp only [Prod.mk.injEq,Nat.blt_eq] at h h2
 obtain ⟨i,z,i1,i2,i3,i4,i5⟩:=get1_ok T.ok.inf h2.2.2.1
 exact Je_appendRL e l l2 h.1 h.2.1 h.2.2.2 h.2.2.1 h2.2.2.2.2 (get1_ok T.ok.un h2.1) (get1_ok T.ok.un h2.2.1) i1 i2 i3 i4 (by simp only [maxLen];omega) (by rw [i5];exact hb.2) h2.2.2.2.1
theorem dap [T:Tab P] {α:Type} {e:El α} {l:List α} {t2 u2 r n sz bt:Nat} (v:α)
  (h:(o.op,opD Γ x,H[r]?,opD Γ y) = (Op.call { callee:=.builtin .append,args:=#[x,y],argTypes:=#[t,t2] },some (D.v (V.one (Leaf.own r n))),some (some ⟨u,e.all l,some sz,some (.inr ((e.all l).length,some n))⟩),some (D.rep (sliceRep 1 (e.f v)))))
  (h2:(get1 t T.F.un,get1 t2 T.F.un,get1 u T.F.inf,e.sz,Nat.blt 0 sz) = (some u,some u2,some (sz,bt),sz,true))
  (hb:l.length + 1≤9223372036854775807∧(l.length + 1) * bt≤140737488355328:=by first | omega | (simp only [List.length_append,List.length_take,List.length_drop,List.length_cons,List.length_nil];omega)) :
  ∀ H2:Hp,H2[r]? = H[r]?→Je P ops o Γ H2 (some (D.v (V.one (Leaf.own r (n + 1))))) (H2.set r (some ⟨u,e.all (l ++ [v]),some sz,some (.inr ((e.all (l ++ [v])).length,some (n + 1)))⟩)):=
 fun _ hH=>jap v (by rw [hH];exact h) h2 hb
theorem dal [T:Tab P] {α:Type} {e:El α} {l l2:List α} {t2 u2 r n sz bt:Nat}
  (h:(o.op,opD Γ x,H[r]?,opD Γ y) = (Op.call { callee:=.builtin .append,args:=#[x,y],argTypes:=#[t,t2] },some (D.v (V.one (Leaf.own r n))),some (some ⟨u,e.all l,some sz,some (.inr ((e.all l).length,some n))⟩),some (D.v (V.one (e.row l2)))))
  (h2:(get1 t T.F.un,get1 t2 T.F.un,get1 u T.F.inf,e.sz,Nat.blt 0 sz) = (some u,some u2,some (sz,bt),sz,true))
  (hb:l.length + l2.length≤9223372036854775807∧(l.length + l2.length) * bt≤140737488355328:=by first | omega | (simp only [List.length_append,List.length_take,List.length_drop,List.length_cons,List.length_nil];omega)) :
  ∀ H2:Hp,H2[r]? = H[r]?→Je P ops o Γ H2 (some (D.v (V.one (Leaf.own r (n + 1))))) (H2.set r (some ⟨u,e.all (l ++ l2),some sz,some (.inr ((e.all (l ++ l2)).length,some (n + 1)))⟩)):=
 fun _ hH=>jal (by rw [hH];exact h) h2 hb
end
end
@[reducible] def so (k:Nat) (d:D):Nat × Option D:=(k,some d)
def lkN (Γ:Gam):Gam→List (Option D)
 | []=>[]
 | e :: g=>look Γ e.1 :: lkN Γ g
def lkV:Gam→List (Option D)
 | []=>[]
 | e :: g=>e.2 :: lkV g
theorem lk_known {Γ:Gam}:∀ {g:Gam},lkN Γ g = lkV g→known Γ g
 | [],_=>trivial
 | (s,some d) :: g,h=>by simp only [lkN,lkV,List.cons.injEq] at h;exact ⟨h.1,lk_known h.2⟩
 | (s,none) :: g,h=>by simp only [lkN,lkV,List.cons.injEq] at h;exact lk_known (Γ:=Γ) (g:=g) h.2
def frG:List Nat→Gam→Gam
 | [],g=>g
 | i :: l,g=>frG l (dropName i g)
def frH:List Nat→Hp→Hp
 | [],H=>H
 | i :: l,H=>frH l (H.set i none)
def frK:List Nat→Hp→Bool
 | [],_=>true
 | i :: l,H=>!verAt H i && frK l (H.set i none)
section
variable {P:Program} {Q:Exit→Act→World→Prop} {w0:Frm} {A0:Foot} {N:Nat} {ks:List KF} {Γ:Gam} {H:Hp}
theorem bd_ {f N:Nat} {fn:Func} {c:Code} {xs:List V} {y:R} (hf:P.funcs[f]? = some fn) (hN:fn.ntmps = N) (h:(fn.body,Nat.ble xs.length (min N 2000)) = (some c,true))
  (hc:∀ w0 A0,Tc P (qk P (Post P fn w0 A0 y) []) w0 A0 N (entryG 0 xs) [] c):Ctr P f xs y:=by
 simp only [Prod.mk.injEq,Nat.ble_eq] at h
 exact Ctr.of_body hf h.1 hN h.2 hc
theorem qc_ {c:Code} (h:Tc P (qk P Q []) w0 A0 N Γ H c):Tc P Q w0 A0 N Γ H c:=h
theorem nz_ {c:Code} (Γ':Gam) (H':Hp) (hk:lkN Γ Γ' = lkV Γ') (hH:H = H') (h:Tc P Q w0 A0 N Γ' H' c):Tc P Q w0 A0 N Γ H c:=Tc_norm Γ' H' (lk_known hk) hH h
theorem fr_ {c:Code}:∀ (l:List Nat) {Γ:Gam} {H:Hp},frK l H = true→Tc P Q w0 A0 N (frG l Γ) (frH l H) c→Tc P Q w0 A0 N Γ H c
 | [],_,_,_,h=>h
 | i :: l,_,_,hk,h=>by
  simp only [frK,Bool.and_eq_true,Bool.not_eq_true'] at hk
  exact Tc_free i (fr_ l hk.2 h) hk.1
theorem nf_ {c:Code} (l:List Nat) (Γ':Gam) (H':Hp) (h0:frK l H = true) (hk:lkN (frG l Γ) Γ' = lkV Γ') (hH:frH l H = H') (h:Tc P Q w0 A0 N Γ' H' c):Tc P Q w0 A0 N Γ H c:=fr_ l h0 (nz_ Γ' H' hk hH h)
theorem lpR_ {c:Code} (I:Nat→Gam→Hp→Prop) {m0:Nat} {Γ0:Gam} (h0:I m0 Γ0 H) (hk:lkN Γ Γ0 = lkV Γ0)
  (round:∀ m Γ H,I m Γ H→Tc P (qk P Q (.lp (fun a w=>∃ m' Γ' H',m' < m∧I m' Γ' H'∧St w0 A0 N Γ' H' a w) :: ks)) w0 A0 N Γ H c):Tc P (qk P Q ks) w0 A0 N Γ H (.loop c):=Tc_loopR I h0 (lk_known hk) round
theorem lpK_ {c:Code} (I:Nat→Gam→Hp→Prop) {m0:Nat} {Γ0:Gam} (h0:I m0 Γ0 H) (hk:known Γ Γ0)
  (round:∀ m Γ H,I m Γ H→Tc P (qk P Q (.lp (fun a w=>∃ m' Γ' H',m' < m∧I m' Γ' H'∧St w0 A0 N Γ' H' a w) :: ks)) w0 A0 N Γ H c):Tc P (qk P Q ks) w0 A0 N Γ H (.loop c):=Tc_loopR I h0 hk round
theorem nx_ {I:Nat→Gam→Hp→Prop} {m m':Nat} {Γ':Gam} (hI:I m' Γ' H) (hk:lkN Γ Γ' = lkV Γ') (hm:m' < m:=by omega) :
  At (qk P Q (.lp (fun a w=>∃ m' Γ' H',m' < m∧I m' Γ' H'∧St w0 A0 N Γ' H' a w) :: ks)) w0 A0 N Γ H .normal:=At_next hm hI (lk_known hk)
theorem mt_ {x y:Code} (Γ':Gam) (H':Hp) (h:Tc P (qk P Q (.lp (fun a w=>St w0 A0 N Γ' H' a w) :: ks)) w0 A0 N Γ H x) (hy:Tc P (qk P Q ks) w0 A0 N Γ' H' y):Tc P (qk P Q ks) w0 A0 N Γ H (.seq x y):=Tc_meet h hy
theorem mx_ {Γ':Gam} (hk:lkN Γ Γ' = lkV Γ'):At (qk P Q (.lp (fun a w=>St w0 A0 N Γ' H a w) :: ks)) w0 A0 N Γ H .normal:=At_meet (lk_known hk)
theorem rn_ {c:Code} {n:Nat} (h:Tc P (qk P Q (.lp (Code.rounds P c (qk P Q ks) n) :: ks)) w0 A0 N Γ H c):Rn P (qk P Q ks) w0 A0 N Γ H (n + 1) c:=h
def rvD (F:MTab) (Γ:Gam) (H:Hp):ResultVar→Option V
 | .tmp s=>match lookT Γ s with
  | some (.inl x)=>some x
  | _=>none
 | .cell s t=>match lookT Γ s with
  | some (.inr (.inr (.inl (i,off))))=>match H[i]? with
   | some (some e)=>match get1 t F.ty with
    | some (true,n)=>bif Nat.beq off 0 && (Nat.beq e.ls.length n && Nat.blt 0 n) then some (V.agg e.ls) else none
    | _=>none
   | _=>none
  | _=>none
theorem rvD_ok {F:MTab} (hF:F.Ok P) {r:ResultVar} {x:V} (h:rvD F Γ H r = some x):resOk P Γ H r x:=by
 unfold rvD at h
 split at h
 ·split at h
  ·rename_i x hx
   simp only [Option.some.injEq] at h
   subst h;exact hx
  ·simp at h
 ·split at h
  ·rename_i i off hs
   split at h
   ·rename_i e hi
    split at h
    ·rename_i n ht
     cases hc:(Nat.beq off 0 && (Nat.beq e.ls.length n && Nat.blt 0 n))
     ·rw [hc] at h;simp at h
     ·rw [hc] at h
      simp only [cond_true,Option.some.injEq] at h
      simp only [Bool.and_eq_true,Nat.beq_eq,Nat.blt_eq] at hc
      obtain ⟨rfl,rfl,h2⟩:=hc
      exact ⟨i,e,hs,hi,.inl ⟨get1_ok hF.f.ty ht,h2,h.symm⟩⟩
    ·simp at h
   ·simp at h
  ·simp at h
theorem r1_ [T:Tab P] {fn:Func} {y:R} {r:ResultVar} {x:V} (hQ:∀ a w,Post P fn w0 A0 y .ret a w→Q .ret a w) (h:(fn.results,rvD T.F Γ H r) = (#[r],some x)) (hy:R.one x = y) (hcl:x.cl = true:=by rfl):Tc P Q w0 A0 N Γ H .ret:=by
 simp only [Prod.mk.injEq] at h
 exact Tc_ret1 hQ h.1 (rvD_ok T.ok h.2) hy hcl
theorem r2_ [T:Tab P] {fn:Func} {y:R} {r r':ResultVar} {x x':V} (hQ:∀ a w,Post P fn w0 A0 y .ret a w→Q .ret a w) (h:(fn.results,rvD T.F Γ H r,rvD T.F Γ H r') = (#[r,r'],some x,some x')) (hy:R.tup [x,x'] = y) (hcl:clVs [x,x'] = true:=by rfl):Tc P Q w0 A0 N Γ H .ret:=by
 simp only [Prod.mk.injEq] at h
 exact Tc_ret2 hQ h.1 (rvD_ok T.ok h.2.1) (rvD_ok T.ok h.2.2) hy hcl
theorem r3_ [T:Tab P] {fn:Func} {y:R} {r r' r'':ResultVar} {x x' x'':V} (hQ:∀ a w,Post P fn w0 A0 y .ret a w→Q .ret a w) (h:(fn.results,rvD T.F Γ H r,rvD T.F Γ H r',rvD T.F Γ H r'') = (#[r,r',r''],some x,some x',some x'')) (hy:R.tup [x,x',x''] = y) (hcl:clVs [x,x',x''] = true:=by rfl):Tc P Q w0 A0 N Γ H .ret:=by
 simp only [Prod.mk.injEq] at h
 exact Tc_ret3 hQ h.1 (rvD_ok T.ok h.2.1) (rvD_ok T.ok h.2.2.1) (rvD_ok T.ok h.2.2.2) hy hcl
end
end Rc
namespace Go.Proofs.YtmpkandbccallaaGreatDoor
open Go Rc
theorem follows:Tryz.prog.follows .mixedOrders = true:=by kernel_rfl
theorem fn10:FnOk Tryz.prog 10:=⟨_,Tryz.func10,by kernel_rfl,by kernel_rfl⟩
theorem fn11:FnOk Tryz.prog 11:=⟨_,Tryz.func11,by kernel_rfl,by kernel_rfl⟩
theorem fn12:FnOk Tryz.prog 12:=⟨_,Tryz.func12,by kernel_rfl,by kernel_rfl⟩
theorem fn13:FnOk Tryz.prog 13:=⟨_,Tryz.func13,by kernel_rfl,by kernel_rfl⟩
theorem fn14:FnOk Tryz.prog 14:=⟨_,Tryz.func14,by kernel_rfl,by kernel_rfl⟩
theorem fn15:FnOk Tryz.prog 15:=⟨_,Tryz.func15,by kernel_rfl,by kernel_rfl⟩
theorem fn16:FnOk Tryz.prog 16:=⟨_,Tryz.func16,by kernel_rfl,by kernel_rfl⟩
theorem fn18:FnOk Tryz.prog 18:=⟨_,Tryz.func18,by kernel_rfl,by kernel_rfl⟩
theorem fn20:FnOk Tryz.prog 20:=⟨_,Tryz.func20,by kernel_rfl,by kernel_rfl⟩
theorem fn21:FnOk Tryz.prog 21:=⟨_,Tryz.func21,by kernel_rfl,by kernel_rfl⟩
theorem fn26:FnOk Tryz.prog 26:=⟨_,Tryz.func26,by kernel_rfl,by kernel_rfl⟩
theorem fn30:FnOk Tryz.prog 30:=⟨_,Tryz.func30,by kernel_rfl,by kernel_rfl⟩
theorem fn31:FnOk Tryz.prog 31:=⟨_,Tryz.func31,by kernel_rfl,by kernel_rfl⟩
theorem fn32:FnOk Tryz.prog 32:=⟨_,Tryz.func32,by kernel_rfl,by kernel_rfl⟩
theorem fn36:FnOk Tryz.prog 36:=⟨_,Tryz.func36,by kernel_rfl,by kernel_rfl⟩
theorem fn37:FnOk Tryz.prog 37:=⟨_,Tryz.func37,by kernel_rfl,by kernel_rfl⟩
theorem fn38:FnOk Tryz.prog 38:=⟨_,Tryz.func38,by kernel_rfl,by kernel_rfl⟩
theorem fn39:FnOk Tryz.prog 39:=⟨_,Tryz.func39,by kernel_rfl,by kernel_rfl⟩
theorem fn40:FnOk Tryz.prog 40:=⟨_,Tryz.func40,by kernel_rfl,by kernel_rfl⟩
theorem fn41:FnOk Tryz.prog 41:=⟨_,Tryz.func41,by kernel_rfl,by kernel_rfl⟩
theorem fn42:FnOk Tryz.prog 42:=⟨_,Tryz.func42,by kernel_rfl,by kernel_rfl⟩
theorem fn43:FnOk Tryz.prog 43:=⟨_,Tryz.func43,by kernel_rfl,by kernel_rfl⟩
theorem fn44:FnOk Tryz.prog 44:=⟨_,Tryz.func44,by kernel_rfl,by kernel_rfl⟩
theorem fn45:FnOk Tryz.prog 45:=⟨_,Tryz.func45,by kernel_rfl,by kernel_rfl⟩
theorem fn46:FnOk Tryz.prog 46:=⟨_,Tryz.func46,by kernel_rfl,by kernel_rfl⟩
theorem fn47:FnOk Tryz.prog 47:=⟨_,Tryz.func47,by kernel_rfl,by kernel_rfl⟩
theorem fn48:FnOk Tryz.prog 48:=⟨_,Tryz.func48,by kernel_rfl,by kernel_rfl⟩
theorem fn49:FnOk Tryz.prog 49:=⟨_,Tryz.func49,by kernel_rfl,by kernel_rfl⟩
theorem fn50:FnOk Tryz.prog 50:=⟨_,Tryz.func50,by kernel_rfl,by kernel_rfl⟩
theorem fn51:FnOk Tryz.prog 51:=⟨_,Tryz.func51,by kernel_rfl,by kernel_rfl⟩
theorem fn52:FnOk Tryz.prog 52:=⟨_,Tryz.func52,by kernel_rfl,by kernel_rfl⟩
theorem fn53:FnOk Tryz.prog 53:=⟨_,Tryz.func53,by kernel_rfl,by kernel_rfl⟩
theorem fn54:FnOk Tryz.prog 54:=⟨_,Tryz.func54,by kernel_rfl,by kernel_rfl⟩
theorem fn55:FnOk Tryz.prog 55:=⟨_,Tryz.func55,by kernel_rfl,by kernel_rfl⟩
theorem fn56:FnOk Tryz.prog 56:=⟨_,Tryz.func56,by kernel_rfl,by kernel_rfl⟩
theorem fn57:FnOk Tryz.prog 57:=⟨_,Tryz.func57,by kernel_rfl,by kernel_rfl⟩
theorem fn58:FnOk Tryz.prog 58:=⟨_,Tryz.func58,by kernel_rfl,by kernel_rfl⟩
theorem fn60:FnOk Tryz.prog 60:=⟨_,Tryz.func60,by kernel_rfl,by kernel_rfl⟩
theorem fn61:FnOk Tryz.prog 61:=⟨_,Tryz.func61,by kernel_rfl,by kernel_rfl⟩
theorem fn62:FnOk Tryz.prog 62:=⟨_,Tryz.func62,by kernel_rfl,by kernel_rfl⟩
theorem fn63:FnOk Tryz.prog 63:=⟨_,Tryz.func63,by kernel_rfl,by kernel_rfl⟩
theorem fn64:FnOk Tryz.prog 64:=⟨_,Tryz.func64,by kernel_rfl,by kernel_rfl⟩
theorem fn65:FnOk Tryz.prog 65:=⟨_,Tryz.func65,by kernel_rfl,by kernel_rfl⟩
theorem fn66:FnOk Tryz.prog 66:=⟨_,Tryz.func66,by kernel_rfl,by kernel_rfl⟩
theorem fn69:FnOk Tryz.prog 69:=⟨_,Tryz.func69,by kernel_rfl,by kernel_rfl⟩
theorem fn71:FnOk Tryz.prog 71:=⟨_,Tryz.func71,by kernel_rfl,by kernel_rfl⟩
theorem fn74:FnOk Tryz.prog 74:=⟨_,Tryz.func74,by kernel_rfl,by kernel_rfl⟩
theorem fn75:FnOk Tryz.prog 75:=⟨_,Tryz.func75,by kernel_rfl,by kernel_rfl⟩
theorem fn76:FnOk Tryz.prog 76:=⟨_,Tryz.func76,by kernel_rfl,by kernel_rfl⟩
theorem fn77:FnOk Tryz.prog 77:=⟨_,Tryz.func77,by kernel_rfl,by kernel_rfl⟩
theorem fn79:FnOk Tryz.prog 79:=⟨_,Tryz.func79,by kernel_rfl,by kernel_rfl⟩
theorem fn80:FnOk Tryz.prog 80:=⟨_,Tryz.func80,by kernel_rfl,by kernel_rfl⟩
theorem fn81:FnOk Tryz.prog 81:=⟨_,Tryz.func81,by kernel_rfl,by kernel_rfl⟩
theorem fn82:FnOk Tryz.prog 82:=⟨_,Tryz.func82,by kernel_rfl,by kernel_rfl⟩
theorem fn83:FnOk Tryz.prog 83:=⟨_,Tryz.func83,by kernel_rfl,by kernel_rfl⟩
theorem fn85:FnOk Tryz.prog 85:=⟨_,Tryz.func85,by kernel_rfl,by kernel_rfl⟩
theorem fn86:FnOk Tryz.prog 86:=⟨_,Tryz.func86,by kernel_rfl,by kernel_rfl⟩
theorem fn87:FnOk Tryz.prog 87:=⟨_,Tryz.func87,by kernel_rfl,by kernel_rfl⟩
theorem fn88:FnOk Tryz.prog 88:=⟨_,Tryz.func88,by kernel_rfl,by kernel_rfl⟩
theorem fn89:FnOk Tryz.prog 89:=⟨_,Tryz.func89,by kernel_rfl,by kernel_rfl⟩
theorem fn90:FnOk Tryz.prog 90:=⟨_,Tryz.func90,by kernel_rfl,by kernel_rfl⟩
theorem fn91:FnOk Tryz.prog 91:=⟨_,Tryz.func91,by kernel_rfl,by kernel_rfl⟩
theorem fn92:FnOk Tryz.prog 92:=⟨_,Tryz.func92,by kernel_rfl,by kernel_rfl⟩
theorem fn93:FnOk Tryz.prog 93:=⟨_,Tryz.func93,by kernel_rfl,by kernel_rfl⟩
theorem fn94:FnOk Tryz.prog 94:=⟨_,Tryz.func94,by kernel_rfl,by kernel_rfl⟩
theorem fn95:FnOk Tryz.prog 95:=⟨_,Tryz.func95,by kernel_rfl,by kernel_rfl⟩
theorem fn96:FnOk Tryz.prog 96:=⟨_,Tryz.func96,by kernel_rfl,by kernel_rfl⟩
theorem fn97:FnOk Tryz.prog 97:=⟨_,Tryz.func97,by kernel_rfl,by kernel_rfl⟩
theorem fn98:FnOk Tryz.prog 98:=⟨_,Tryz.func98,by kernel_rfl,by kernel_rfl⟩
theorem fn99:FnOk Tryz.prog 99:=⟨_,Tryz.func99,by kernel_rfl,by kernel_rfl⟩
theorem fn100:FnOk Tryz.prog 100:=⟨_,Tryz.func100,by kernel_rfl,by kernel_rfl⟩
theorem fn101:FnOk Tryz.prog 101:=⟨_,Tryz.func101,by kernel_rfl,by kernel_rfl⟩
theorem fn102:FnOk Tryz.prog 102:=⟨_,Tryz.func102,by kernel_rfl,by kernel_rfl⟩
theorem fn103:FnOk Tryz.prog 103:=⟨_,Tryz.func103,by kernel_rfl,by kernel_rfl⟩
theorem fn104:FnOk Tryz.prog 104:=⟨_,Tryz.func104,by kernel_rfl,by kernel_rfl⟩
theorem fn107:FnOk Tryz.prog 107:=⟨_,Tryz.func107,by kernel_rfl,by kernel_rfl⟩
theorem fn108:FnOk Tryz.prog 108:=⟨_,Tryz.func108,by kernel_rfl,by kernel_rfl⟩
theorem fn109:FnOk Tryz.prog 109:=⟨_,Tryz.func109,by kernel_rfl,by kernel_rfl⟩
theorem fn110:FnOk Tryz.prog 110:=⟨_,Tryz.func110,by kernel_rfl,by kernel_rfl⟩
theorem fn111:FnOk Tryz.prog 111:=⟨_,Tryz.func111,by kernel_rfl,by kernel_rfl⟩
theorem fn112:FnOk Tryz.prog 112:=⟨_,Tryz.func112,by kernel_rfl,by kernel_rfl⟩
theorem fn113:FnOk Tryz.prog 113:=⟨_,Tryz.func113,by kernel_rfl,by kernel_rfl⟩
theorem fn114:FnOk Tryz.prog 114:=⟨_,Tryz.func114,by kernel_rfl,by kernel_rfl⟩
theorem fn115:FnOk Tryz.prog 115:=⟨_,Tryz.func115,by kernel_rfl,by kernel_rfl⟩
theorem fn116:FnOk Tryz.prog 116:=⟨_,Tryz.func116,by kernel_rfl,by kernel_rfl⟩
theorem fn117:FnOk Tryz.prog 117:=⟨_,Tryz.func117,by kernel_rfl,by kernel_rfl⟩
theorem fn118:FnOk Tryz.prog 118:=⟨_,Tryz.func118,by kernel_rfl,by kernel_rfl⟩
theorem fn119:FnOk Tryz.prog 119:=⟨_,Tryz.func119,by kernel_rfl,by kernel_rfl⟩
theorem fn120:FnOk Tryz.prog 120:=⟨_,Tryz.func120,by kernel_rfl,by kernel_rfl⟩
theorem fn121:FnOk Tryz.prog 121:=⟨_,Tryz.func121,by kernel_rfl,by kernel_rfl⟩
theorem fn122:FnOk Tryz.prog 122:=⟨_,Tryz.func122,by kernel_rfl,by kernel_rfl⟩
theorem fn123:FnOk Tryz.prog 123:=⟨_,Tryz.func123,by kernel_rfl,by kernel_rfl⟩
theorem fn124:FnOk Tryz.prog 124:=⟨_,Tryz.func124,by kernel_rfl,by kernel_rfl⟩
theorem fn125:FnOk Tryz.prog 125:=⟨_,Tryz.func125,by kernel_rfl,by kernel_rfl⟩
theorem fn126:FnOk Tryz.prog 126:=⟨_,Tryz.func126,by kernel_rfl,by kernel_rfl⟩
theorem fn128:FnOk Tryz.prog 128:=⟨_,Tryz.func128,by kernel_rfl,by kernel_rfl⟩
theorem fn129:FnOk Tryz.prog 129:=⟨_,Tryz.func129,by kernel_rfl,by kernel_rfl⟩
theorem fn130:FnOk Tryz.prog 130:=⟨_,Tryz.func130,by kernel_rfl,by kernel_rfl⟩
theorem fn131:FnOk Tryz.prog 131:=⟨_,Tryz.func131,by kernel_rfl,by kernel_rfl⟩
theorem fn132:FnOk Tryz.prog 132:=⟨_,Tryz.func132,by kernel_rfl,by kernel_rfl⟩
theorem fn133:FnOk Tryz.prog 133:=⟨_,Tryz.func133,by kernel_rfl,by kernel_rfl⟩
theorem fn134:FnOk Tryz.prog 134:=⟨_,Tryz.func134,by kernel_rfl,by kernel_rfl⟩
theorem fn135:FnOk Tryz.prog 135:=⟨_,Tryz.func135,by kernel_rfl,by kernel_rfl⟩
theorem fn136:FnOk Tryz.prog 136:=⟨_,Tryz.func136,by kernel_rfl,by kernel_rfl⟩
theorem fn137:FnOk Tryz.prog 137:=⟨_,Tryz.func137,by kernel_rfl,by kernel_rfl⟩
theorem fn138:FnOk Tryz.prog 138:=⟨_,Tryz.func138,by kernel_rfl,by kernel_rfl⟩
theorem fn140:FnOk Tryz.prog 140:=⟨_,Tryz.func140,by kernel_rfl,by kernel_rfl⟩
theorem fn141:FnOk Tryz.prog 141:=⟨_,Tryz.func141,by kernel_rfl,by kernel_rfl⟩
theorem fn142:FnOk Tryz.prog 142:=⟨_,Tryz.func142,by kernel_rfl,by kernel_rfl⟩
theorem fn143:FnOk Tryz.prog 143:=⟨_,Tryz.func143,by kernel_rfl,by kernel_rfl⟩
theorem fn144:FnOk Tryz.prog 144:=⟨_,Tryz.func144,by kernel_rfl,by kernel_rfl⟩
theorem fn145:FnOk Tryz.prog 145:=⟨_,Tryz.func145,by kernel_rfl,by kernel_rfl⟩
theorem fn146:FnOk Tryz.prog 146:=⟨_,Tryz.func146,by kernel_rfl,by kernel_rfl⟩
theorem fn147:FnOk Tryz.prog 147:=⟨_,Tryz.func147,by kernel_rfl,by kernel_rfl⟩
theorem fn148:FnOk Tryz.prog 148:=⟨_,Tryz.func148,by kernel_rfl,by kernel_rfl⟩
theorem fn149:FnOk Tryz.prog 149:=⟨_,Tryz.func149,by kernel_rfl,by kernel_rfl⟩
theorem fn150:FnOk Tryz.prog 150:=⟨_,Tryz.func150,by kernel_rfl,by kernel_rfl⟩
theorem fn151:FnOk Tryz.prog 151:=⟨_,Tryz.func151,by kernel_rfl,by kernel_rfl⟩
theorem fn152:FnOk Tryz.prog 152:=⟨_,Tryz.func152,by kernel_rfl,by kernel_rfl⟩
theorem fn153:FnOk Tryz.prog 153:=⟨_,Tryz.func153,by kernel_rfl,by kernel_rfl⟩
theorem fn154:FnOk Tryz.prog 154:=⟨_,Tryz.func154,by kernel_rfl,by kernel_rfl⟩
theorem fn155:FnOk Tryz.prog 155:=⟨_,Tryz.func155,by kernel_rfl,by kernel_rfl⟩
theorem fn156:FnOk Tryz.prog 156:=⟨_,Tryz.func156,by kernel_rfl,by kernel_rfl⟩
theorem fn157:FnOk Tryz.prog 157:=⟨_,Tryz.func157,by kernel_rfl,by kernel_rfl⟩
theorem fn158:FnOk Tryz.prog 158:=⟨_,Tryz.func158,by kernel_rfl,by kernel_rfl⟩
theorem fn159:FnOk Tryz.prog 159:=⟨_,Tryz.func159,by kernel_rfl,by kernel_rfl⟩
theorem fn160:FnOk Tryz.prog 160:=⟨_,Tryz.func160,by kernel_rfl,by kernel_rfl⟩
theorem fn161:FnOk Tryz.prog 161:=⟨_,Tryz.func161,by kernel_rfl,by kernel_rfl⟩
theorem fn162:FnOk Tryz.prog 162:=⟨_,Tryz.func162,by kernel_rfl,by kernel_rfl⟩
theorem fn163:FnOk Tryz.prog 163:=⟨_,Tryz.func163,by kernel_rfl,by kernel_rfl⟩
theorem fn165:FnOk Tryz.prog 165:=⟨_,Tryz.func165,by kernel_rfl,by kernel_rfl⟩
theorem fn166:FnOk Tryz.prog 166:=⟨_,Tryz.func166,by kernel_rfl,by kernel_rfl⟩
theorem fn167:FnOk Tryz.prog 167:=⟨_,Tryz.func167,by kernel_rfl,by kernel_rfl⟩
theorem fn168:FnOk Tryz.prog 168:=⟨_,Tryz.func168,by kernel_rfl,by kernel_rfl⟩
theorem fn169:FnOk Tryz.prog 169:=⟨_,Tryz.func169,by kernel_rfl,by kernel_rfl⟩
theorem fn170:FnOk Tryz.prog 170:=⟨_,Tryz.func170,by kernel_rfl,by kernel_rfl⟩
theorem fn171:FnOk Tryz.prog 171:=⟨_,Tryz.func171,by kernel_rfl,by kernel_rfl⟩
theorem fn172:FnOk Tryz.prog 172:=⟨_,Tryz.func172,by kernel_rfl,by kernel_rfl⟩
theorem fn173:FnOk Tryz.prog 173:=⟨_,Tryz.func173,by kernel_rfl,by kernel_rfl⟩
theorem fn174:FnOk Tryz.prog 174:=⟨_,Tryz.func174,by kernel_rfl,by kernel_rfl⟩
theorem fn175:FnOk Tryz.prog 175:=⟨_,Tryz.func175,by kernel_rfl,by kernel_rfl⟩
theorem fn176:FnOk Tryz.prog 176:=⟨_,Tryz.func176,by kernel_rfl,by kernel_rfl⟩
theorem fn177:FnOk Tryz.prog 177:=⟨_,Tryz.func177,by kernel_rfl,by kernel_rfl⟩
theorem fn178:FnOk Tryz.prog 178:=⟨_,Tryz.func178,by kernel_rfl,by kernel_rfl⟩
theorem fn180:FnOk Tryz.prog 180:=⟨_,Tryz.func180,by kernel_rfl,by kernel_rfl⟩
theorem fn181:FnOk Tryz.prog 181:=⟨_,Tryz.func181,by kernel_rfl,by kernel_rfl⟩
theorem fn182:FnOk Tryz.prog 182:=⟨_,Tryz.func182,by kernel_rfl,by kernel_rfl⟩
theorem fn183:FnOk Tryz.prog 183:=⟨_,Tryz.func183,by kernel_rfl,by kernel_rfl⟩
theorem fn184:FnOk Tryz.prog 184:=⟨_,Tryz.func184,by kernel_rfl,by kernel_rfl⟩
theorem fn185:FnOk Tryz.prog 185:=⟨_,Tryz.func185,by kernel_rfl,by kernel_rfl⟩
theorem fn186:FnOk Tryz.prog 186:=⟨_,Tryz.func186,by kernel_rfl,by kernel_rfl⟩
theorem fn187:FnOk Tryz.prog 187:=⟨_,Tryz.func187,by kernel_rfl,by kernel_rfl⟩
theorem fn188:FnOk Tryz.prog 188:=⟨_,Tryz.func188,by kernel_rfl,by kernel_rfl⟩
theorem fn189:FnOk Tryz.prog 189:=⟨_,Tryz.func189,by kernel_rfl,by kernel_rfl⟩
theorem fn190:FnOk Tryz.prog 190:=⟨_,Tryz.func190,by kernel_rfl,by kernel_rfl⟩
theorem fn191:FnOk Tryz.prog 191:=⟨_,Tryz.func191,by kernel_rfl,by kernel_rfl⟩
theorem fn192:FnOk Tryz.prog 192:=⟨_,Tryz.func192,by kernel_rfl,by kernel_rfl⟩
theorem fn193:FnOk Tryz.prog 193:=⟨_,Tryz.func193,by kernel_rfl,by kernel_rfl⟩
theorem fn194:FnOk Tryz.prog 194:=⟨_,Tryz.func194,by kernel_rfl,by kernel_rfl⟩
theorem fn195:FnOk Tryz.prog 195:=⟨_,Tryz.func195,by kernel_rfl,by kernel_rfl⟩
theorem fn196:FnOk Tryz.prog 196:=⟨_,Tryz.func196,by kernel_rfl,by kernel_rfl⟩
theorem fn197:FnOk Tryz.prog 197:=⟨_,Tryz.func197,by kernel_rfl,by kernel_rfl⟩
theorem fn198:FnOk Tryz.prog 198:=⟨_,Tryz.func198,by kernel_rfl,by kernel_rfl⟩
theorem fn199:FnOk Tryz.prog 199:=⟨_,Tryz.func199,by kernel_rfl,by kernel_rfl⟩
theorem fn202:FnOk Tryz.prog 202:=⟨_,Tryz.func202,by kernel_rfl,by kernel_rfl⟩
theorem fn203:FnOk Tryz.prog 203:=⟨_,Tryz.func203,by kernel_rfl,by kernel_rfl⟩
theorem fn204:FnOk Tryz.prog 204:=⟨_,Tryz.func204,by kernel_rfl,by kernel_rfl⟩
theorem fn205:FnOk Tryz.prog 205:=⟨_,Tryz.func205,by kernel_rfl,by kernel_rfl⟩
theorem fn206:FnOk Tryz.prog 206:=⟨_,Tryz.func206,by kernel_rfl,by kernel_rfl⟩
theorem fn207:FnOk Tryz.prog 207:=⟨_,Tryz.func207,by kernel_rfl,by kernel_rfl⟩
theorem fn208:FnOk Tryz.prog 208:=⟨_,Tryz.func208,by kernel_rfl,by kernel_rfl⟩
theorem fn209:FnOk Tryz.prog 209:=⟨_,Tryz.func209,by kernel_rfl,by kernel_rfl⟩
theorem fn210:FnOk Tryz.prog 210:=⟨_,Tryz.func210,by kernel_rfl,by kernel_rfl⟩
theorem fn211:FnOk Tryz.prog 211:=⟨_,Tryz.func211,by kernel_rfl,by kernel_rfl⟩
theorem fn212:FnOk Tryz.prog 212:=⟨_,Tryz.func212,by kernel_rfl,by kernel_rfl⟩
theorem fn213:FnOk Tryz.prog 213:=⟨_,Tryz.func213,by kernel_rfl,by kernel_rfl⟩
theorem fn215:FnOk Tryz.prog 215:=⟨_,Tryz.func215,by kernel_rfl,by kernel_rfl⟩
theorem fn216:FnOk Tryz.prog 216:=⟨_,Tryz.func216,by kernel_rfl,by kernel_rfl⟩
theorem fn218:FnOk Tryz.prog 218:=⟨_,Tryz.func218,by kernel_rfl,by kernel_rfl⟩
theorem fo27_0:fieldAtOff Tryz.prog 27 0 = some (0,1):=by kernel_rfl
theorem fo27_1:fieldAtOff Tryz.prog 27 1 = some (1,1):=by kernel_rfl
theorem fo27_2:fieldAtOff Tryz.prog 27 2 = some (2,1):=by kernel_rfl
theorem fo29_0:fieldAtOff Tryz.prog 29 0 = some (0,1):=by kernel_rfl
theorem fo29_1:fieldAtOff Tryz.prog 29 1 = some (1,3):=by kernel_rfl
theorem fo33_0:fieldAtOff Tryz.prog 33 0 = some (0,1):=by kernel_rfl
theorem fo33_1:fieldAtOff Tryz.prog 33 1 = some (1,1):=by kernel_rfl
theorem fo33_2:fieldAtOff Tryz.prog 33 2 = some (2,1):=by kernel_rfl
theorem fo36_0:fieldAtOff Tryz.prog 36 0 = some (0,1):=by kernel_rfl
theorem fo36_1:fieldAtOff Tryz.prog 36 1 = some (1,1):=by kernel_rfl
theorem fo36_2:fieldAtOff Tryz.prog 36 2 = some (2,1):=by kernel_rfl
theorem fo38_0:fieldAtOff Tryz.prog 38 0 = some (0,3):=by kernel_rfl
theorem fo38_1:fieldAtOff Tryz.prog 38 1 = some (3,3):=by kernel_rfl
theorem fo38_2:fieldAtOff Tryz.prog 38 2 = some (6,4):=by kernel_rfl
theorem fo42_0:fieldAtOff Tryz.prog 42 0 = some (0,10):=by kernel_rfl
theorem fo42_1:fieldAtOff Tryz.prog 42 1 = some (10,1):=by kernel_rfl
theorem fo42_2:fieldAtOff Tryz.prog 42 2 = some (11,1):=by kernel_rfl
theorem fo72_0:fieldAtOff Tryz.prog 72 0 = some (0,3):=by kernel_rfl
theorem fo72_1:fieldAtOff Tryz.prog 72 1 = some (3,3):=by kernel_rfl
theorem fo78_0:fieldAtOff Tryz.prog 78 0 = some (0,1):=by kernel_rfl
theorem fo78_1:fieldAtOff Tryz.prog 78 1 = some (1,1):=by kernel_rfl
theorem fo78_2:fieldAtOff Tryz.prog 78 2 = some (2,3):=by kernel_rfl
theorem fo92_0:fieldAtOff Tryz.prog 92 0 = some (0,1):=by kernel_rfl
theorem fo92_1:fieldAtOff Tryz.prog 92 1 = some (1,3):=by kernel_rfl
theorem fo103_0:fieldAtOff Tryz.prog 103 0 = some (0,1):=by kernel_rfl
theorem fo103_1:fieldAtOff Tryz.prog 103 1 = some (1,1):=by kernel_rfl
theorem fo103_2:fieldAtOff Tryz.prog 103 2 = some (2,1):=by kernel_rfl
theorem fo103_3:fieldAtOff Tryz.prog 103 3 = some (3,1):=by kernel_rfl
theorem fo105_0:fieldAtOff Tryz.prog 105 0 = some (0,4):=by kernel_rfl
theorem fo105_1:fieldAtOff Tryz.prog 105 1 = some (4,3):=by kernel_rfl
theorem fo111_0:fieldAtOff Tryz.prog 111 0 = some (0,3):=by kernel_rfl
theorem fo111_1:fieldAtOff Tryz.prog 111 1 = some (3,1):=by kernel_rfl
theorem fo111_2:fieldAtOff Tryz.prog 111 2 = some (4,1):=by kernel_rfl
theorem fo133_0:fieldAtOff Tryz.prog 133 0 = some (0,1):=by kernel_rfl
theorem fo133_1:fieldAtOff Tryz.prog 133 1 = some (1,1):=by kernel_rfl
theorem fo133_2:fieldAtOff Tryz.prog 133 2 = some (2,3):=by kernel_rfl
theorem fo133_3:fieldAtOff Tryz.prog 133 3 = some (5,1):=by kernel_rfl
theorem fo138_0:fieldAtOff Tryz.prog 138 0 = some (0,1):=by kernel_rfl
theorem fo138_1:fieldAtOff Tryz.prog 138 1 = some (1,1):=by kernel_rfl
theorem fo144_0:fieldAtOff Tryz.prog 144 0 = some (0,12):=by kernel_rfl
theorem fo144_1:fieldAtOff Tryz.prog 144 1 = some (12,1):=by kernel_rfl
theorem fo166_0:fieldAtOff Tryz.prog 166 0 = some (0,1):=by kernel_rfl
theorem fo166_1:fieldAtOff Tryz.prog 166 1 = some (1,1):=by kernel_rfl
theorem fo179_0:fieldAtOff Tryz.prog 179 0 = some (0,1):=by kernel_rfl
theorem fo179_1:fieldAtOff Tryz.prog 179 1 = some (1,1):=by kernel_rfl
theorem fo179_2:fieldAtOff Tryz.prog 179 2 = some (2,1):=by kernel_rfl
theorem ft27_0:fieldTy Tryz.prog 27 0 = some (0,4):=by kernel_rfl
theorem ft27_1:fieldTy Tryz.prog 27 1 = some (1,25):=by kernel_rfl
theorem ft27_2:fieldTy Tryz.prog 27 2 = some (2,25):=by kernel_rfl
theorem ft29_0:fieldTy Tryz.prog 29 0 = some (0,23):=by kernel_rfl
theorem ft29_1:fieldTy Tryz.prog 29 1 = some (1,27):=by kernel_rfl
theorem ft33_0:fieldTy Tryz.prog 33 0 = some (0,3):=by kernel_rfl
theorem ft33_1:fieldTy Tryz.prog 33 1 = some (1,31):=by kernel_rfl
theorem ft33_2:fieldTy Tryz.prog 33 2 = some (2,31):=by kernel_rfl
theorem ft36_0:fieldTy Tryz.prog 36 0 = some (0,34):=by kernel_rfl
theorem ft36_1:fieldTy Tryz.prog 36 1 = some (1,34):=by kernel_rfl
theorem ft36_2:fieldTy Tryz.prog 36 2 = some (2,31):=by kernel_rfl
theorem ft38_0:fieldTy Tryz.prog 38 0 = some (0,33):=by kernel_rfl
theorem ft38_1:fieldTy Tryz.prog 38 1 = some (3,36):=by kernel_rfl
theorem ft38_2:fieldTy Tryz.prog 38 2 = some (6,29):=by kernel_rfl
theorem ft42_0:fieldTy Tryz.prog 42 0 = some (0,38):=by kernel_rfl
theorem ft42_1:fieldTy Tryz.prog 42 1 = some (10,39):=by kernel_rfl
theorem ft42_2:fieldTy Tryz.prog 42 2 = some (11,40):=by kernel_rfl
theorem ft72_0:fieldTy Tryz.prog 72 0 = some (0,27):=by kernel_rfl
theorem ft72_1:fieldTy Tryz.prog 72 1 = some (3,27):=by kernel_rfl
theorem ft78_0:fieldTy Tryz.prog 78 0 = some (0,3):=by kernel_rfl
theorem ft78_1:fieldTy Tryz.prog 78 1 = some (1,3):=by kernel_rfl
theorem ft78_2:fieldTy Tryz.prog 78 2 = some (2,27):=by kernel_rfl
theorem ft92_0:fieldTy Tryz.prog 92 0 = some (0,3):=by kernel_rfl
theorem ft92_1:fieldTy Tryz.prog 92 1 = some (1,27):=by kernel_rfl
theorem ft103_0:fieldTy Tryz.prog 103 0 = some (0,3):=by kernel_rfl
theorem ft103_1:fieldTy Tryz.prog 103 1 = some (1,3):=by kernel_rfl
theorem ft103_2:fieldTy Tryz.prog 103 2 = some (2,3):=by kernel_rfl
theorem ft103_3:fieldTy Tryz.prog 103 3 = some (3,3):=by kernel_rfl
theorem ft105_0:fieldTy Tryz.prog 105 0 = some (0,103):=by kernel_rfl
theorem ft105_1:fieldTy Tryz.prog 105 1 = some (4,27):=by kernel_rfl
theorem ft111_0:fieldTy Tryz.prog 111 0 = some (0,27):=by kernel_rfl
theorem ft111_1:fieldTy Tryz.prog 111 1 = some (3,44):=by kernel_rfl
theorem ft111_2:fieldTy Tryz.prog 111 2 = some (4,4):=by kernel_rfl
theorem ft133_0:fieldTy Tryz.prog 133 0 = some (0,3):=by kernel_rfl
theorem ft133_1:fieldTy Tryz.prog 133 1 = some (1,4):=by kernel_rfl
theorem ft133_2:fieldTy Tryz.prog 133 2 = some (2,27):=by kernel_rfl
theorem ft133_3:fieldTy Tryz.prog 133 3 = some (5,44):=by kernel_rfl
theorem ft138_0:fieldTy Tryz.prog 138 0 = some (0,4):=by kernel_rfl
theorem ft138_1:fieldTy Tryz.prog 138 1 = some (1,25):=by kernel_rfl
theorem ft144_0:fieldTy Tryz.prog 144 0 = some (0,42):=by kernel_rfl
theorem ft144_1:fieldTy Tryz.prog 144 1 = some (12,142):=by kernel_rfl
theorem ft166_0:fieldTy Tryz.prog 166 0 = some (0,22):=by kernel_rfl
theorem ft166_1:fieldTy Tryz.prog 166 1 = some (1,3):=by kernel_rfl
theorem ft179_0:fieldTy Tryz.prog 179 0 = some (0,4):=by kernel_rfl
theorem ft179_1:fieldTy Tryz.prog 179 1 = some (1,25):=by kernel_rfl
theorem ft179_2:fieldTy Tryz.prog 179 2 = some (2,3):=by kernel_rfl
theorem in2:∃ i:TypeInfo,Tryz.prog.info? 2 = some i∧i.zero = some (.int .i64 0)∧i.size = 1∧i.bytes = 8:=(info_parts (by kernel_rfl))
theorem in3:∃ i:TypeInfo,Tryz.prog.info? 3 = some i∧i.zero = some (.int .i64 0)∧i.size = 1∧i.bytes = 8:=(info_parts (by kernel_rfl))
theorem in4:∃ i:TypeInfo,Tryz.prog.info? 4 = some i∧i.zero = some (.bool false)∧i.size = 1∧i.bytes = 1:=(info_parts (by kernel_rfl))
theorem in5:∃ i:TypeInfo,Tryz.prog.info? 5 = some i∧i.zero = some (.int .u8 0)∧i.size = 1∧i.bytes = 1:=(info_parts (by kernel_rfl))
theorem in9:∃ i:TypeInfo,Tryz.prog.info? 9 = some i∧i.zero = some (.string ⟨#[]⟩)∧i.size = 1∧i.bytes = 16:=(info_parts (by kernel_rfl))
theorem in12:∃ i:TypeInfo,Tryz.prog.info? 12 = some i∧i.zero = some (.int .u64 0)∧i.size = 1∧i.bytes = 8:=(info_parts (by kernel_rfl))
theorem in21:∃ i:TypeInfo,Tryz.prog.info? 21 = some i∧i.zero = some (.int .i32 0)∧i.size = 1∧i.bytes = 4:=(info_parts (by kernel_rfl))
theorem in22:∃ i:TypeInfo,Tryz.prog.info? 22 = some i∧i.zero = some (.slice none 0 0)∧i.size = 1∧i.bytes = 24:=(info_parts (by kernel_rfl))
theorem in23:∃ i:TypeInfo,Tryz.prog.info? 23 = some i∧i.zero = some (.slice none 0 0)∧i.size = 1∧i.bytes = 24:=(info_parts (by kernel_rfl))
theorem in24:∃ i:TypeInfo,Tryz.prog.info? 24 = some i∧i.zero = some (.slice none 0 0)∧i.size = 1∧i.bytes = 24:=(info_parts (by kernel_rfl))
theorem in25:∃ i:TypeInfo,Tryz.prog.info? 25 = some i∧i.zero = some (.slice none 0 0)∧i.size = 1∧i.bytes = 24:=(info_parts (by kernel_rfl))
theorem in27:∃ i:TypeInfo,Tryz.prog.info? 27 = some i∧i.zero = some (.agg #[.bool false,.slice none 0 0,.slice none 0 0])∧i.size = 3∧i.bytes = 56:=(info_parts (by kernel_rfl))
theorem in29:∃ i:TypeInfo,Tryz.prog.info? 29 = some i∧i.zero = some (.agg #[.slice none 0 0,.bool false,.slice none 0 0,.slice none 0 0])∧i.size = 4∧i.bytes = 80:=(info_parts (by kernel_rfl))
theorem in31:∃ i:TypeInfo,Tryz.prog.info? 31 = some i∧i.zero = some (.slice none 0 0)∧i.size = 1∧i.bytes = 24:=(info_parts (by kernel_rfl))
theorem in33:∃ i:TypeInfo,Tryz.prog.info? 33 = some i∧i.zero = some (.agg #[.int .i64 0,.slice none 0 0,.slice none 0 0])∧i.size = 3∧i.bytes = 56:=(info_parts (by kernel_rfl))
theorem in34:∃ i:TypeInfo,Tryz.prog.info? 34 = some i∧i.zero = some (.slice none 0 0)∧i.size = 1∧i.bytes = 24:=(info_parts (by kernel_rfl))
theorem in36:∃ i:TypeInfo,Tryz.prog.info? 36 = some i∧i.zero = some (.agg #[.slice none 0 0,.slice none 0 0,.slice none 0 0])∧i.size = 3∧i.bytes = 72:=(info_parts (by kernel_rfl))
theorem in38:∃ i:TypeInfo,Tryz.prog.info? 38 = some i∧i.zero = some (.agg #[.int .i64 0,.slice none 0 0,.slice none 0 0,.slice none 0 0,.slice none 0 0,.slice none 0 0,.slice none 0 0,.bool false,.slice none 0 0,.slice none 0 0])∧i.size = 10∧i.bytes = 208:=(info_parts (by kernel_rfl))
theorem in39:∃ i:TypeInfo,Tryz.prog.info? 39 = some i∧i.zero = some (.slice none 0 0)∧i.size = 1∧i.bytes = 24:=(info_parts (by kernel_rfl))
theorem in40:∃ i:TypeInfo,Tryz.prog.info? 40 = some i∧i.zero = some (.slice none 0 0)∧i.size = 1∧i.bytes = 24:=(info_parts (by kernel_rfl))
theorem in42:∃ i:TypeInfo,Tryz.prog.info? 42 = some i∧i.zero = some (.agg #[.int .i64 0,.slice none 0 0,.slice none 0 0,.slice none 0 0,.slice none 0 0,.slice none 0 0,.slice none 0 0,.bool false,.slice none 0 0,.slice none 0 0,.slice none 0 0,.slice none 0 0])∧i.size = 12∧i.bytes = 256:=(info_parts (by kernel_rfl))
theorem in44:∃ i:TypeInfo,Tryz.prog.info? 44 = some i∧i.zero = some (.slice none 0 0)∧i.size = 1∧i.bytes = 24:=(info_parts (by kernel_rfl))
theorem in55:∃ i:TypeInfo,Tryz.prog.info? 55 = some i∧i.zero = some (.int .i64 0)∧i.size = 1∧i.bytes = 8:=(info_parts (by kernel_rfl))
theorem in72:∃ i:TypeInfo,Tryz.prog.info? 72 = some i∧i.zero = some (.agg #[.bool false,.slice none 0 0,.slice none 0 0,.bool false,.slice none 0 0,.slice none 0 0])∧i.size = 6∧i.bytes = 112:=(info_parts (by kernel_rfl))
theorem in75:∃ i:TypeInfo,Tryz.prog.info? 75 = some i∧i.zero = some (.slice none 0 0)∧i.size = 1∧i.bytes = 24:=(info_parts (by kernel_rfl))
theorem in78:∃ i:TypeInfo,Tryz.prog.info? 78 = some i∧i.zero = some (.agg #[.int .i64 0,.int .i64 0,.bool false,.slice none 0 0,.slice none 0 0])∧i.size = 5∧i.bytes = 72:=(info_parts (by kernel_rfl))
theorem in92:∃ i:TypeInfo,Tryz.prog.info? 92 = some i∧i.zero = some (.agg #[.int .i64 0,.bool false,.slice none 0 0,.slice none 0 0])∧i.size = 4∧i.bytes = 64:=(info_parts (by kernel_rfl))
theorem in103:∃ i:TypeInfo,Tryz.prog.info? 103 = some i∧i.zero = some (.agg #[.int .i64 0,.int .i64 0,.int .i64 0,.int .i64 0])∧i.size = 4∧i.bytes = 32:=(info_parts (by kernel_rfl))
theorem in105:∃ i:TypeInfo,Tryz.prog.info? 105 = some i∧i.zero = some (.agg #[.int .i64 0,.int .i64 0,.int .i64 0,.int .i64 0,.bool false,.slice none 0 0,.slice none 0 0])∧i.size = 7∧i.bytes = 88:=(info_parts (by kernel_rfl))
theorem in111:∃ i:TypeInfo,Tryz.prog.info? 111 = some i∧i.zero = some (.agg #[.bool false,.slice none 0 0,.slice none 0 0,.slice none 0 0,.bool false])∧i.size = 5∧i.bytes = 88:=(info_parts (by kernel_rfl))
theorem in133:∃ i:TypeInfo,Tryz.prog.info? 133 = some i∧i.zero = some (.agg #[.int .i64 0,.bool false,.bool false,.slice none 0 0,.slice none 0 0,.slice none 0 0])∧i.size = 6∧i.bytes = 96:=(info_parts (by kernel_rfl))
theorem in138:∃ i:TypeInfo,Tryz.prog.info? 138 = some i∧i.zero = some (.agg #[.bool false,.slice none 0 0])∧i.size = 2∧i.bytes = 32:=(info_parts (by kernel_rfl))
theorem in142:∃ i:TypeInfo,Tryz.prog.info? 142 = some i∧i.zero = some (.slice none 0 0)∧i.size = 1∧i.bytes = 24:=(info_parts (by kernel_rfl))
theorem in144:∃ i:TypeInfo,Tryz.prog.info? 144 = some i∧i.zero = some (.agg #[.int .i64 0,.slice none 0 0,.slice none 0 0,.slice none 0 0,.slice none 0 0,.slice none 0 0,.slice none 0 0,.bool false,.slice none 0 0,.slice none 0 0,.slice none 0 0,.slice none 0 0,.slice none 0 0])∧i.size = 13∧i.bytes = 280:=(info_parts (by kernel_rfl))
theorem in164:∃ i:TypeInfo,Tryz.prog.info? 164 = some i∧i.zero = some (.int .u32 0)∧i.size = 1∧i.bytes = 4:=(info_parts (by kernel_rfl))
theorem in166:∃ i:TypeInfo,Tryz.prog.info? 166 = some i∧i.zero = some (.agg #[.slice none 0 0,.int .i64 0])∧i.size = 2∧i.bytes = 32:=(info_parts (by kernel_rfl))
theorem in179:∃ i:TypeInfo,Tryz.prog.info? 179 = some i∧i.zero = some (.agg #[.bool false,.slice none 0 0,.int .i64 0])∧i.size = 3∧i.bytes = 40:=(info_parts (by kernel_rfl))
theorem in186:∃ i:TypeInfo,Tryz.prog.info? 186 = some i∧i.zero = some (.int .u64 0)∧i.size = 1∧i.bytes = 8:=(info_parts (by kernel_rfl))
theorem in198:∃ i:TypeInfo,Tryz.prog.info? 198 = some i∧i.zero = some (.int .u64 0)∧i.size = 1∧i.bytes = 8:=(info_parts (by kernel_rfl))
theorem in209:∃ i:TypeInfo,Tryz.prog.info? 209 = some i∧i.zero = some (.agg #[.int .i64 0,.int .i64 0,.int .i64 0,.int .i64 0])∧i.size = 4∧i.bytes = 32:=(info_parts (by kernel_rfl))
theorem in231:∃ i:TypeInfo,Tryz.prog.info? 231 = some i∧i.zero = some (.slice none 0 0)∧i.size = 1∧i.bytes = 24:=(info_parts (by kernel_rfl))
theorem in238:∃ i:TypeInfo,Tryz.prog.info? 238 = some i∧i.zero = some (.agg #[.int .u8 0,.int .u8 0,.int .u8 0,.int .u8 0,.int .u8 0,.int .u8 0,.int .u8 0,.int .u8 0,.int .u8 0,.int .u8 0,.int .u8 0,.int .u8 0,.int .u8 0,.int .u8 0,.int .u8 0,.int .u8 0,.int .u8 0,.int .u8 0,.int .u8 0,.int .u8 0,.int .u8 0,.int .u8 0,.int .u8 0,.int .u8 0,.int .u8 0,.int .u8 0,.int .u8 0,.int .u8 0,.int .u8 0,.int .u8 0,.int .u8 0,.int .u8 0])∧i.size = 32∧i.bytes = 32:=(info_parts (by kernel_rfl))
theorem pl27:structPlaces Tryz.prog 27 = some [(0,1),(1,1),(2,1)]:=by kernel_rfl
theorem pl29:structPlaces Tryz.prog 29 = some [(0,1),(1,3)]:=by kernel_rfl
theorem pl33:structPlaces Tryz.prog 33 = some [(0,1),(1,1),(2,1)]:=by kernel_rfl
theorem pl36:structPlaces Tryz.prog 36 = some [(0,1),(1,1),(2,1)]:=by kernel_rfl
theorem pl38:structPlaces Tryz.prog 38 = some [(0,3),(3,3),(6,4)]:=by kernel_rfl
theorem pl42:structPlaces Tryz.prog 42 = some [(0,10),(10,1),(11,1)]:=by kernel_rfl
theorem pl47:structPlaces Tryz.prog 47 = some []:=by kernel_rfl
theorem pl72:structPlaces Tryz.prog 72 = some [(0,3),(3,3)]:=by kernel_rfl
theorem pl78:structPlaces Tryz.prog 78 = some [(0,1),(1,1),(2,3)]:=by kernel_rfl
theorem pl92:structPlaces Tryz.prog 92 = some [(0,1),(1,3)]:=by kernel_rfl
theorem pl103:structPlaces Tryz.prog 103 = some [(0,1),(1,1),(2,1),(3,1)]:=by kernel_rfl
theorem pl105:structPlaces Tryz.prog 105 = some [(0,4),(4,3)]:=by kernel_rfl
theorem pl111:structPlaces Tryz.prog 111 = some [(0,3),(3,1),(4,1)]:=by kernel_rfl
theorem pl133:structPlaces Tryz.prog 133 = some [(0,1),(1,1),(2,3),(5,1)]:=by kernel_rfl
theorem pl138:structPlaces Tryz.prog 138 = some [(0,1),(1,1)]:=by kernel_rfl
theorem pl144:structPlaces Tryz.prog 144 = some [(0,12),(12,1)]:=by kernel_rfl
theorem pl166:structPlaces Tryz.prog 166 = some [(0,1),(1,1)]:=by kernel_rfl
theorem pl179:structPlaces Tryz.prog 179 = some [(0,1),(1,1),(2,1)]:=by kernel_rfl
theorem tx29:TyZero Tryz.prog 29 [Leaf.val (.slice none 0 0),Leaf.val (.bool false),nilL,nilL]:=⟨.agg #[.slice none 0 0,.bool false,.slice none 0 0,.slice none 0 0],by kernel_rfl,⟨.inr rfl,.inl rfl,.inl rfl,.inl rfl,trivial⟩,by decide⟩
theorem tx33:TyZero Tryz.prog 33 [Leaf.val (.int .i64 0),Leaf.val (.slice none 0 0),Leaf.val (.slice none 0 0)]:=⟨.agg #[.int .i64 0,.slice none 0 0,.slice none 0 0],by kernel_rfl,⟨.inl rfl,.inr rfl,.inr rfl,trivial⟩,by decide⟩
theorem tx36:TyZero Tryz.prog 36 [Leaf.val (.slice none 0 0),Leaf.val (.slice none 0 0),Leaf.val (.slice none 0 0)]:=⟨.agg #[.slice none 0 0,.slice none 0 0,.slice none 0 0],by kernel_rfl,⟨.inr rfl,.inr rfl,.inr rfl,trivial⟩,by decide⟩
theorem tx42:TyZero Tryz.prog 42 [Leaf.val (.int .i64 0),Leaf.val (.slice none 0 0),Leaf.val (.slice none 0 0),Leaf.val (.slice none 0 0),Leaf.val (.slice none 0 0),Leaf.val (.slice none 0 0),Leaf.val (.slice none 0 0),Leaf.val (.bool false),nilL,nilL,Leaf.val (.slice none 0 0),Leaf.val (.slice none 0 0)]:=⟨.agg #[.int .i64 0,.slice none 0 0,.slice none 0 0,.slice none 0 0,.slice none 0 0,.slice none 0 0,.slice none 0 0,.bool false,.slice none 0 0,.slice none 0 0,.slice none 0 0,.slice none 0 0],by kernel_rfl,⟨.inl rfl,.inr rfl,.inr rfl,.inr rfl,.inr rfl,.inr rfl,.inr rfl,.inl rfl,.inl rfl,.inl rfl,.inr rfl,.inr rfl,trivial⟩,by decide⟩
theorem tx144:TyZero Tryz.prog 144 [Leaf.val (.int .i64 0),Leaf.val (.slice none 0 0),Leaf.val (.slice none 0 0),Leaf.val (.slice none 0 0),Leaf.val (.slice none 0 0),Leaf.val (.slice none 0 0),Leaf.val (.slice none 0 0),Leaf.val (.bool false),nilL,nilL,Leaf.val (.slice none 0 0),Leaf.val (.slice none 0 0),Leaf.val (.slice none 0 0)]:=⟨.agg #[.int .i64 0,.slice none 0 0,.slice none 0 0,.slice none 0 0,.slice none 0 0,.slice none 0 0,.slice none 0 0,.bool false,.slice none 0 0,.slice none 0 0,.slice none 0 0,.slice none 0 0,.slice none 0 0],by kernel_rfl,⟨.inl rfl,.inr rfl,.inr rfl,.inr rfl,.inr rfl,.inr rfl,.inr rfl,.inl rfl,.inl rfl,.inl rfl,.inr rfl,.inr rfl,.inr rfl,trivial⟩,by decide⟩
theorem ty2:TyIs Tryz.prog 2 false 1:=⟨by kernel_rfl,by kernel_rfl⟩
theorem ty3:TyIs Tryz.prog 3 false 1:=⟨by kernel_rfl,by kernel_rfl⟩
theorem ty4:TyIs Tryz.prog 4 false 1:=⟨by kernel_rfl,by kernel_rfl⟩
theorem ty5:TyIs Tryz.prog 5 false 1:=⟨by kernel_rfl,by kernel_rfl⟩
theorem ty9:TyIs Tryz.prog 9 false 1:=⟨by kernel_rfl,by kernel_rfl⟩
theorem ty12:TyIs Tryz.prog 12 false 1:=⟨by kernel_rfl,by kernel_rfl⟩
theorem ty21:TyIs Tryz.prog 21 false 1:=⟨by kernel_rfl,by kernel_rfl⟩
theorem ty22:TyIs Tryz.prog 22 false 1:=⟨by kernel_rfl,by kernel_rfl⟩
theorem ty23:TyIs Tryz.prog 23 false 1:=⟨by kernel_rfl,by kernel_rfl⟩
theorem ty24:TyIs Tryz.prog 24 false 1:=⟨by kernel_rfl,by kernel_rfl⟩
theorem ty25:TyIs Tryz.prog 25 false 1:=⟨by kernel_rfl,by kernel_rfl⟩
theorem ty27:TyIs Tryz.prog 27 true 3:=⟨by kernel_rfl,by kernel_rfl⟩
theorem ty29:TyIs Tryz.prog 29 true 4:=⟨by kernel_rfl,by kernel_rfl⟩
theorem ty31:TyIs Tryz.prog 31 false 1:=⟨by kernel_rfl,by kernel_rfl⟩
theorem ty33:TyIs Tryz.prog 33 true 3:=⟨by kernel_rfl,by kernel_rfl⟩
theorem ty34:TyIs Tryz.prog 34 false 1:=⟨by kernel_rfl,by kernel_rfl⟩
theorem ty36:TyIs Tryz.prog 36 true 3:=⟨by kernel_rfl,by kernel_rfl⟩
theorem ty38:TyIs Tryz.prog 38 true 10:=⟨by kernel_rfl,by kernel_rfl⟩
theorem ty39:TyIs Tryz.prog 39 false 1:=⟨by kernel_rfl,by kernel_rfl⟩
theorem ty40:TyIs Tryz.prog 40 false 1:=⟨by kernel_rfl,by kernel_rfl⟩
theorem ty42:TyIs Tryz.prog 42 true 12:=⟨by kernel_rfl,by kernel_rfl⟩
theorem ty44:TyIs Tryz.prog 44 false 1:=⟨by kernel_rfl,by kernel_rfl⟩
theorem ty55:TyIs Tryz.prog 55 false 1:=⟨by kernel_rfl,by kernel_rfl⟩
theorem ty72:TyIs Tryz.prog 72 true 6:=⟨by kernel_rfl,by kernel_rfl⟩
theorem ty75:TyIs Tryz.prog 75 false 1:=⟨by kernel_rfl,by kernel_rfl⟩
theorem ty78:TyIs Tryz.prog 78 true 5:=⟨by kernel_rfl,by kernel_rfl⟩
theorem ty92:TyIs Tryz.prog 92 true 4:=⟨by kernel_rfl,by kernel_rfl⟩
theorem ty103:TyIs Tryz.prog 103 true 4:=⟨by kernel_rfl,by kernel_rfl⟩
theorem ty105:TyIs Tryz.prog 105 true 7:=⟨by kernel_rfl,by kernel_rfl⟩
theorem ty111:TyIs Tryz.prog 111 true 5:=⟨by kernel_rfl,by kernel_rfl⟩
theorem ty129:TyIs Tryz.prog 129 false 1:=⟨by kernel_rfl,by kernel_rfl⟩
theorem ty133:TyIs Tryz.prog 133 true 6:=⟨by kernel_rfl,by kernel_rfl⟩
theorem ty138:TyIs Tryz.prog 138 true 2:=⟨by kernel_rfl,by kernel_rfl⟩
theorem ty142:TyIs Tryz.prog 142 false 1:=⟨by kernel_rfl,by kernel_rfl⟩
theorem ty144:TyIs Tryz.prog 144 true 13:=⟨by kernel_rfl,by kernel_rfl⟩
theorem ty164:TyIs Tryz.prog 164 false 1:=⟨by kernel_rfl,by kernel_rfl⟩
theorem ty166:TyIs Tryz.prog 166 true 2:=⟨by kernel_rfl,by kernel_rfl⟩
theorem ty179:TyIs Tryz.prog 179 true 3:=⟨by kernel_rfl,by kernel_rfl⟩
theorem ty186:TyIs Tryz.prog 186 false 1:=⟨by kernel_rfl,by kernel_rfl⟩
theorem ty198:TyIs Tryz.prog 198 false 1:=⟨by kernel_rfl,by kernel_rfl⟩
theorem ty209:TyIs Tryz.prog 209 true 4:=⟨by kernel_rfl,by kernel_rfl⟩
theorem ty231:TyIs Tryz.prog 231 false 1:=⟨by kernel_rfl,by kernel_rfl⟩
theorem ty238:TyIs Tryz.prog 238 true 32:=⟨by kernel_rfl,by kernel_rfl⟩
theorem tz2:TyZero Tryz.prog 2 [Leaf.val (.int .i64 0)]:=TyZero.of (.int .i64 0) (by kernel_rfl) rfl (by decide)
theorem tz3:TyZero Tryz.prog 3 [Leaf.val (.int .i64 0)]:=TyZero.of (.int .i64 0) (by kernel_rfl) rfl (by decide)
theorem tz4:TyZero Tryz.prog 4 [Leaf.val (.bool false)]:=TyZero.of (.bool false) (by kernel_rfl) rfl (by decide)
theorem tz5:TyZero Tryz.prog 5 [Leaf.val (.int .u8 0)]:=TyZero.of (.int .u8 0) (by kernel_rfl) rfl (by decide)
theorem tz9:TyZero Tryz.prog 9 [Leaf.val (.string ⟨#[]⟩)]:=TyZero.of (.string ⟨#[]⟩) (by kernel_rfl) rfl (by decide)
theorem tz12:TyZero Tryz.prog 12 [Leaf.val (.int .u64 0)]:=TyZero.of (.int .u64 0) (by kernel_rfl) rfl (by decide)
theorem tz21:TyZero Tryz.prog 21 [Leaf.val (.int .i32 0)]:=TyZero.of (.int .i32 0) (by kernel_rfl) rfl (by decide)
theorem tz22:TyZero Tryz.prog 22 [nilL]:=TyZero.of (.slice none 0 0) (by kernel_rfl) rfl (by decide)
theorem tz23:TyZero Tryz.prog 23 [nilL]:=TyZero.of (.slice none 0 0) (by kernel_rfl) rfl (by decide)
theorem tz24:TyZero Tryz.prog 24 [nilL]:=TyZero.of (.slice none 0 0) (by kernel_rfl) rfl (by decide)
theorem tz25:TyZero Tryz.prog 25 [nilL]:=TyZero.of (.slice none 0 0) (by kernel_rfl) rfl (by decide)
theorem tz27:TyZero Tryz.prog 27 [Leaf.val (.bool false),nilL,nilL]:=TyZero.of (.agg #[.bool false,.slice none 0 0,.slice none 0 0]) (by kernel_rfl) rfl (by decide)
theorem tz29:TyZero Tryz.prog 29 [nilL,Leaf.val (.bool false),nilL,nilL]:=TyZero.of (.agg #[.slice none 0 0,.bool false,.slice none 0 0,.slice none 0 0]) (by kernel_rfl) rfl (by decide)
theorem tz31:TyZero Tryz.prog 31 [nilL]:=TyZero.of (.slice none 0 0) (by kernel_rfl) rfl (by decide)
theorem tz33:TyZero Tryz.prog 33 [Leaf.val (.int .i64 0),nilL,nilL]:=TyZero.of (.agg #[.int .i64 0,.slice none 0 0,.slice none 0 0]) (by kernel_rfl) rfl (by decide)
theorem tz34:TyZero Tryz.prog 34 [nilL]:=TyZero.of (.slice none 0 0) (by kernel_rfl) rfl (by decide)
theorem tz36:TyZero Tryz.prog 36 [nilL,nilL,nilL]:=TyZero.of (.agg #[.slice none 0 0,.slice none 0 0,.slice none 0 0]) (by kernel_rfl) rfl (by decide)
theorem tz38:TyZero Tryz.prog 38 [Leaf.val (.int .i64 0),nilL,nilL,nilL,nilL,nilL,nilL,Leaf.val (.bool false),nilL,nilL]:=TyZero.of (.agg #[.int .i64 0,.slice none 0 0,.slice none 0 0,.slice none 0 0,.slice none 0 0,.slice none 0 0,.slice none 0 0,.bool false,.slice none 0 0,.slice none 0 0]) (by kernel_rfl) rfl (by decide)
theorem tz39:TyZero Tryz.prog 39 [nilL]:=TyZero.of (.slice none 0 0) (by kernel_rfl) rfl (by decide)
theorem tz40:TyZero Tryz.prog 40 [nilL]:=TyZero.of (.slice none 0 0) (by kernel_rfl) rfl (by decide)
theorem tz42:TyZero Tryz.prog 42 [Leaf.val (.int .i64 0),nilL,nilL,nilL,nilL,nilL,nilL,Leaf.val (.bool false),nilL,nilL,nilL,nilL]:=TyZero.of (.agg #[.int .i64 0,.slice none 0 0,.slice none 0 0,.slice none 0 0,.slice none 0 0,.slice none 0 0,.slice none 0 0,.bool false,.slice none 0 0,.slice none 0 0,.slice none 0 0,.slice none 0 0]) (by kernel_rfl) rfl (by decide)
theorem tz44:TyZero Tryz.prog 44 [nilL]:=TyZero.of (.slice none 0 0) (by kernel_rfl) rfl (by decide)
theorem tz47:TyZero Tryz.prog 47 []:=TyZero.of (.agg #[]) (by kernel_rfl) rfl (by decide)
theorem tz55:TyZero Tryz.prog 55 [Leaf.val (.int .i64 0)]:=TyZero.of (.int .i64 0) (by kernel_rfl) rfl (by decide)
theorem tz72:TyZero Tryz.prog 72 [Leaf.val (.bool false),nilL,nilL,Leaf.val (.bool false),nilL,nilL]:=TyZero.of (.agg #[.bool false,.slice none 0 0,.slice none 0 0,.bool false,.slice none 0 0,.slice none 0 0]) (by kernel_rfl) rfl (by decide)
theorem tz75:TyZero Tryz.prog 75 [nilL]:=TyZero.of (.slice none 0 0) (by kernel_rfl) rfl (by decide)
theorem tz78:TyZero Tryz.prog 78 [Leaf.val (.int .i64 0),Leaf.val (.int .i64 0),Leaf.val (.bool false),nilL,nilL]:=TyZero.of (.agg #[.int .i64 0,.int .i64 0,.bool false,.slice none 0 0,.slice none 0 0]) (by kernel_rfl) rfl (by decide)
theorem tz92:TyZero Tryz.prog 92 [Leaf.val (.int .i64 0),Leaf.val (.bool false),nilL,nilL]:=TyZero.of (.agg #[.int .i64 0,.bool false,.slice none 0 0,.slice none 0 0]) (by kernel_rfl) rfl (by decide)
theorem tz103:TyZero Tryz.prog 103 [Leaf.val (.int .i64 0),Leaf.val (.int .i64 0),Leaf.val (.int .i64 0),Leaf.val (.int .i64 0)]:=TyZero.of (.agg #[.int .i64 0,.int .i64 0,.int .i64 0,.int .i64 0]) (by kernel_rfl) rfl (by decide)
theorem tz105:TyZero Tryz.prog 105 [Leaf.val (.int .i64 0),Leaf.val (.int .i64 0),Leaf.val (.int .i64 0),Leaf.val (.int .i64 0),Leaf.val (.bool false),nilL,nilL]:=TyZero.of (.agg #[.int .i64 0,.int .i64 0,.int .i64 0,.int .i64 0,.bool false,.slice none 0 0,.slice none 0 0]) (by kernel_rfl) rfl (by decide)
theorem tz111:TyZero Tryz.prog 111 [Leaf.val (.bool false),nilL,nilL,nilL,Leaf.val (.bool false)]:=TyZero.of (.agg #[.bool false,.slice none 0 0,.slice none 0 0,.slice none 0 0,.bool false]) (by kernel_rfl) rfl (by decide)
theorem tz133:TyZero Tryz.prog 133 [Leaf.val (.int .i64 0),Leaf.val (.bool false),Leaf.val (.bool false),nilL,nilL,nilL]:=TyZero.of (.agg #[.int .i64 0,.bool false,.bool false,.slice none 0 0,.slice none 0 0,.slice none 0 0]) (by kernel_rfl) rfl (by decide)
theorem tz138:TyZero Tryz.prog 138 [Leaf.val (.bool false),nilL]:=TyZero.of (.agg #[.bool false,.slice none 0 0]) (by kernel_rfl) rfl (by decide)
theorem tz142:TyZero Tryz.prog 142 [nilL]:=TyZero.of (.slice none 0 0) (by kernel_rfl) rfl (by decide)
theorem tz144:TyZero Tryz.prog 144 [Leaf.val (.int .i64 0),nilL,nilL,nilL,nilL,nilL,nilL,Leaf.val (.bool false),nilL,nilL,nilL,nilL,nilL]:=TyZero.of (.agg #[.int .i64 0,.slice none 0 0,.slice none 0 0,.slice none 0 0,.slice none 0 0,.slice none 0 0,.slice none 0 0,.bool false,.slice none 0 0,.slice none 0 0,.slice none 0 0,.slice none 0 0,.slice none 0 0]) (by kernel_rfl) rfl (by decide)
theorem tz164:TyZero Tryz.prog 164 [Leaf.val (.int .u32 0)]:=TyZero.of (.int .u32 0) (by kernel_rfl) rfl (by decide)
theorem tz166:TyZero Tryz.prog 166 [nilL,Leaf.val (.int .i64 0)]:=TyZero.of (.agg #[.slice none 0 0,.int .i64 0]) (by kernel_rfl) rfl (by decide)
theorem tz179:TyZero Tryz.prog 179 [Leaf.val (.bool false),nilL,Leaf.val (.int .i64 0)]:=TyZero.of (.agg #[.bool false,.slice none 0 0,.int .i64 0]) (by kernel_rfl) rfl (by decide)
theorem tz186:TyZero Tryz.prog 186 [Leaf.val (.int .u64 0)]:=TyZero.of (.int .u64 0) (by kernel_rfl) rfl (by decide)
theorem tz198:TyZero Tryz.prog 198 [Leaf.val (.int .u64 0)]:=TyZero.of (.int .u64 0) (by kernel_rfl) rfl (by decide)
theorem tz209:TyZero Tryz.prog 209 [Leaf.val (.int .i64 0),Leaf.val (.int .i64 0),Leaf.val (.int .i64 0),Leaf.val (.int .i64 0)]:=TyZero.of (.agg #[.int .i64 0,.int .i64 0,.int .i64 0,.int .i64 0]) (by kernel_rfl) rfl (by decide)
theorem tz231:TyZero Tryz.prog 231 [nilL]:=TyZero.of (.slice none 0 0) (by kernel_rfl) rfl (by decide)
theorem tz238:TyZero Tryz.prog 238 [Leaf.val (.int .u8 0),Leaf.val (.int .u8 0),Leaf.val (.int .u8 0),Leaf.val (.int .u8 0),Leaf.val (.int .u8 0),Leaf.val (.int .u8 0),Leaf.val (.int .u8 0),Leaf.val (.int .u8 0),Leaf.val (.int .u8 0),Leaf.val (.int .u8 0),Leaf.val (.int .u8 0),Leaf.val (.int .u8 0),Leaf.val (.int .u8 0),Leaf.val (.int .u8 0),Leaf.val (.int .u8 0),Leaf.val (.int .u8 0),Leaf.val (.int .u8 0),Leaf.val (.int .u8 0),Leaf.val (.int .u8 0),Leaf.val (.int .u8 0),Leaf.val (.int .u8 0),Leaf.val (.int .u8 0),Leaf.val (.int .u8 0),Leaf.val (.int .u8 0),Leaf.val (.int .u8 0),Leaf.val (.int .u8 0),Leaf.val (.int .u8 0),Leaf.val (.int .u8 0),Leaf.val (.int .u8 0),Leaf.val (.int .u8 0),Leaf.val (.int .u8 0),Leaf.val (.int .u8 0)]:=TyZero.of (.agg #[.int .u8 0,.int .u8 0,.int .u8 0,.int .u8 0,.int .u8 0,.int .u8 0,.int .u8 0,.int .u8 0,.int .u8 0,.int .u8 0,.int .u8 0,.int .u8 0,.int .u8 0,.int .u8 0,.int .u8 0,.int .u8 0,.int .u8 0,.int .u8 0,.int .u8 0,.int .u8 0,.int .u8 0,.int .u8 0,.int .u8 0,.int .u8 0,.int .u8 0,.int .u8 0,.int .u8 0,.int .u8 0,.int .u8 0,.int .u8 0,.int .u8 0,.int .u8 0]) (by kernel_rfl) rfl (by decide)
theorem un2:Tryz.prog.underlying 2 = some (.int .i64):=by kernel_rfl
theorem un3:Tryz.prog.underlying 3 = some (.int .i64):=by kernel_rfl
theorem un4:Tryz.prog.underlying 4 = some (.bool):=by kernel_rfl
theorem un5:Tryz.prog.underlying 5 = some (.int .u8):=by kernel_rfl
theorem un9:Tryz.prog.underlying 9 = some (.string):=by kernel_rfl
theorem un12:Tryz.prog.underlying 12 = some (.int .u64):=by kernel_rfl
theorem un21:Tryz.prog.underlying 21 = some (.int .i32):=by kernel_rfl
theorem un22:Tryz.prog.underlying 22 = some (.slice 5):=by kernel_rfl
theorem un23:Tryz.prog.underlying 23 = some (.slice 92):=by kernel_rfl
theorem un24:Tryz.prog.underlying 24 = some (.slice 164):=by kernel_rfl
theorem un25:Tryz.prog.underlying 25 = some (.slice 164):=by kernel_rfl
theorem un31:Tryz.prog.underlying 31 = some (.slice 29):=by kernel_rfl
theorem un34:Tryz.prog.underlying 34 = some (.slice 27):=by kernel_rfl
theorem un39:Tryz.prog.underlying 39 = some (.slice 78):=by kernel_rfl
theorem un40:Tryz.prog.underlying 40 = some (.slice 133):=by kernel_rfl
theorem un44:Tryz.prog.underlying 44 = some (.slice 105):=by kernel_rfl
theorem un55:Tryz.prog.underlying 55 = some (.int .i64):=by kernel_rfl
theorem un75:Tryz.prog.underlying 75 = some (.slice 72):=by kernel_rfl
theorem un142:Tryz.prog.underlying 142 = some (.slice 4):=by kernel_rfl
theorem un164:Tryz.prog.underlying 164 = some (.int .u32):=by kernel_rfl
theorem un186:Tryz.prog.underlying 186 = some (.int .u64):=by kernel_rfl
theorem un198:Tryz.prog.underlying 198 = some (.int .u64):=by kernel_rfl
theorem un209:Tryz.prog.underlying 209 = some (.array 4 3):=by kernel_rfl
theorem un231:Tryz.prog.underlying 231 = some (.slice 3):=by kernel_rfl
theorem un238:Tryz.prog.underlying 238 = some (.array 32 5):=by kernel_rfl
theorem inf_of {P:Program} {n k b:Nat} {v:Value} (h:∃ i:TypeInfo,P.info? n = some i∧i.zero = some v∧i.size = k∧i.bytes = b) (hk:v.cells.size = k:=by rfl):∃ (i:TypeInfo) (z:Value),P.info? n = some i∧i.zero = some z∧i.size = k∧z.cells.size = k∧i.bytes = b:=let ⟨i,h1,h2,h3,h4⟩:=h;⟨i,v,h1,h2,h3,hk,h4⟩
def mtab:MTab:={ fo:=[((42,2),11,1),((138,1),1,1),((38,0),0,3),((92,0),0,1),((33,0),0,1),((29,0),0,1),((42,0),0,10),((33,1),1,1),((138,0),0,1),((92,1),1,3),((78,1),1,1),((103,1),1,1),((27,0),0,1),((27,1),1,1),((42,1),10,1),((27,2),2,1),((133,2),2,3),((36,0),0,1),((29,1),1,3),((36,1),1,1),((103,2),2,1),((78,2),2,3),((105,0),0,4),((103,3),3,1),((105,1),4,3),((36,2),2,1),((103,0),0,1),((78,0),0,1),((33,2),2,1),((133,1),1,1),((133,0),0,1),((133,3),5,1),((166,1),1,1),((38,1),3,3),((179,2),2,1),((179,0),0,1),((179,1),1,1),((166,0),0,1),((38,2),6,4),((72,0),0,3),((72,1),3,3),((144,1),12,1),((144,0),0,12),((111,0),0,3),((111,1),3,1),((111,2),4,1)],ty:=[(27,true,3),(29,true,4),(3,false,1),(164,false,1),(25,false,1),(138,true,2),(4,false,1),(42,true,12),(179,true,3),(31,false,1),(92,true,4),(40,false,1),(34,false,1),(23,false,1),(133,true,6),(38,true,10),(39,false,1),(78,true,5),(103,true,4),(105,true,7),(33,true,3),(36,true,3),(5,false,1),(129,false,1),(44,false,1),(22,false,1),(2,false,1),(9,false,1),(12,false,1),(21,false,1),(24,false,1),(55,false,1),(72,true,6),(75,false,1),(142,false,1),(166,true,2),(186,false,1),(198,false,1),(209,true,4),(231,false,1),(238,true,32),(111,true,5),(144,true,13)],tz:=[(27,[Leaf.val (.bool false),nilL,nilL]),(29,[nilL,Leaf.val (.bool false),nilL,nilL]),(138,[Leaf.val (.bool false),nilL]),(179,[Leaf.val (.bool false),nilL,Leaf.val (.int .i64 0)]),(105,[Leaf.val (.int .i64 0),Leaf.val (.int .i64 0),Leaf.val (.int .i64 0),Leaf.val (.int .i64 0),Leaf.val (.bool false),nilL,nilL]),(42,[Leaf.val (.int .i64 0),nilL,nilL,nilL,nilL,nilL,nilL,Leaf.val (.bool false),nilL,nilL,nilL,nilL]),(92,[Leaf.val (.int .i64 0),Leaf.val (.bool false),nilL,nilL]),(133,[Leaf.val (.int .i64 0),Leaf.val (.bool false),Leaf.val (.bool false),nilL,nilL,nilL]),(103,[Leaf.val (.int .i64 0),Leaf.val (.int .i64 0),Leaf.val (.int .i64 0),Leaf.val (.int .i64 0)]),(38,[Leaf.val (.int .i64 0),nilL,nilL,nilL,nilL,nilL,nilL,Leaf.val (.bool false),nilL,nilL]),(78,[Leaf.val (.int .i64 0),Leaf.val (.int .i64 0),Leaf.val (.bool false),nilL,nilL]),(33,[Leaf.val (.int .i64 0),nilL,nilL]),(36,[nilL,nilL,nilL]),(166,[nilL,Leaf.val (.int .i64 0)]),(3,[Leaf.val (.int .i64 0)]),(2,[Leaf.val (.int .i64 0)]),(4,[Leaf.val (.bool false)]),(5,[Leaf.val (.int .u8 0)]),(9,[Leaf.val (.string ⟨#[]⟩)]),(12,[Leaf.val (.int .u64 0)]),(21,[Leaf.val (.int .i32 0)]),(22,[nilL]),(23,[nilL]),(24,[nilL]),(25,[nilL]),(31,[nilL]),(34,[nilL]),(39,[nilL]),(40,[nilL]),(44,[nilL]),(55,[Leaf.val (.int .i64 0)]),(72,[Leaf.val (.bool false),nilL,nilL,Leaf.val (.bool false),nilL,nilL]),(75,[nilL]),(142,[nilL]),(164,[Leaf.val (.int .u32 0)]),(186,[Leaf.val (.int .u64 0)]),(198,[Leaf.val (.int .u64 0)]),(209,[Leaf.val (.int .i64 0),Leaf.val (.int .i64 0),Leaf.val (.int .i64 0),Leaf.val (.int .i64 0)]),(231,[nilL]),(238,[Leaf.val (.int .u8 0),Leaf.val (.int .u8 0),Leaf.val (.int .u8 0),Leaf.val (.int .u8 0),Leaf.val (.int .u8 0),Leaf.val (.int .u8 0),Leaf.val (.int .u8 0),Leaf.val (.int .u8 0),Leaf.val (.int .u8 0),Leaf.val (.int .u8 0),Leaf.val (.int .u8 0),Leaf.val (.int .u8 0),Leaf.val (.int .u8 0),Leaf.val (.int .u8 0),Leaf.val (.int .u8 0),Leaf.val (.int .u8 0),Leaf.val (.int .u8 0),Leaf.val (.int .u8 0),Leaf.val (.int .u8 0),Leaf.val (.int .u8 0),Leaf.val (.int .u8 0),Leaf.val (.int .u8 0),Leaf.val (.int .u8 0),Leaf.val (.int .u8 0),Leaf.val (.int .u8 0),Leaf.val (.int .u8 0),Leaf.val (.int .u8 0),Leaf.val (.int .u8 0),Leaf.val (.int .u8 0),Leaf.val (.int .u8 0),Leaf.val (.int .u8 0),Leaf.val (.int .u8 0)]),(111,[Leaf.val (.bool false),nilL,nilL,nilL,Leaf.val (.bool false)]),(144,[Leaf.val (.int .i64 0),nilL,nilL,nilL,nilL,nilL,nilL,Leaf.val (.bool false),nilL,nilL,nilL,nilL,nilL]),(47,[])],pl:=[(29,[(0,1),(1,3)]),(27,[(0,1),(1,1),(2,1)]),(105,[(0,4),(4,3)]),(138,[(0,1),(1,1)]),(103,[(0,1),(1,1),(2,1),(3,1)]),(179,[(0,1),(1,1),(2,1)]),(133,[(0,1),(1,1),(2,3),(5,1)]),(92,[(0,1),(1,3)]),(42,[(0,10),(10,1),(11,1)]),(166,[(0,1),(1,1)]),(38,[(0,3),(3,3),(6,4)]),(78,[(0,1),(1,1),(2,3)]),(33,[(0,1),(1,1),(2,1)]),(36,[(0,1),(1,1),(2,1)]),(72,[(0,3),(3,3)]),(111,[(0,3),(3,1),(4,1)]),(144,[(0,12),(12,1)]),(47,[])],ft:=[((29,1),1,27),((27,0),0,4),((27,1),1,25),((27,2),2,25),((29,0),0,23),((33,0),0,3),((33,1),1,31),((33,2),2,31),((36,0),0,34),((36,1),1,34),((36,2),2,31),((38,0),0,33),((38,1),3,36),((38,2),6,29),((42,0),0,38),((42,1),10,39),((42,2),11,40),((72,0),0,27),((72,1),3,27),((78,0),0,3),((78,1),1,3),((78,2),2,27),((92,0),0,3),((92,1),1,27),((103,0),0,3),((103,1),1,3),((103,2),2,3),((103,3),3,3),((105,0),0,103),((105,1),4,27),((133,0),0,3),((133,1),1,4),((133,2),2,27),((133,3),5,44),((138,0),0,4),((138,1),1,25),((166,0),0,22),((166,1),1,3),((179,0),0,4),((179,1),1,25),((179,2),2,3),((111,0),0,27),((111,1),3,44),((111,2),4,4),((144,0),0,42),((144,1),12,142)],un:=[(25,164),(34,27),(23,92),(44,105),(31,29),(40,133),(39,78),(22,5),(24,164),(231,3),(75,72),(142,4)],ik:=[(164,.u32),(186,.u64),(5,.u8),(3,.i64),(2,.i64),(12,.u64),(21,.i32),(55,.i64),(198,.u64)],inf:=[(105,7,88),(133,6,96),(27,3,56),(29,4,80),(78,5,72),(92,4,64),(2,1,8),(3,1,8),(4,1,1),(5,1,1),(9,1,16),(12,1,8),(21,1,4),(22,1,24),(23,1,24),(24,1,24),(25,1,24),(31,1,24),(33,3,56),(34,1,24),(36,3,72),(38,10,208),(39,1,24),(40,1,24),(42,12,256),(44,1,24),(55,1,8),(72,6,112),(75,1,24),(103,4,32),(138,2,32),(142,1,24),(164,1,4),(166,2,32),(179,3,40),(186,1,8),(198,1,8),(209,4,32),(231,1,24),(238,32,32),(111,5,88),(144,13,280)] }
theorem mtab_ok:mtab.Ok Tryz.prog:=⟨⟨⟨fo42_2,fo138_1,fo38_0,fo92_0,fo33_0,fo29_0,fo42_0,fo33_1,fo138_0,fo92_1,fo78_1,fo103_1,fo27_0,fo27_1,fo42_1,fo27_2,fo133_2,fo36_0,fo29_1,fo36_1,fo103_2,fo78_2,fo105_0,fo103_3,fo105_1,fo36_2,fo103_0,fo78_0,fo33_2,fo133_1,fo133_0,fo133_3,fo166_1,fo38_1,fo179_2,fo179_0,fo179_1,fo166_0,fo38_2,fo72_0,fo72_1,fo144_1,fo144_0,fo111_0,fo111_1,fo111_2,trivial⟩,⟨ty27,ty29,ty3,ty164,ty25,ty138,ty4,ty42,ty179,ty31,ty92,ty40,ty34,ty23,ty133,ty38,ty39,ty78,ty103,ty105,ty33,ty36,ty5,ty129,ty44,ty22,ty2,ty9,ty12,ty21,ty24,ty55,ty72,ty75,ty142,ty166,ty186,ty198,ty209,ty231,ty238,ty111,ty144,trivial⟩⟩,⟨tz27,tz29,tz138,tz179,tz105,tz42,tz92,tz133,tz103,tz38,tz78,tz33,tz36,tz166,tz3,tz2,tz4,tz5,tz9,tz12,tz21,tz22,tz23,tz24,tz25,tz31,tz34,tz39,tz40,tz44,tz55,tz72,tz75,tz142,tz164,tz186,tz198,tz209,tz231,tz238,tz111,tz144,tz47,trivial⟩,⟨pl29,pl27,pl105,pl138,pl103,pl179,pl133,pl92,pl42,pl166,pl38,pl78,pl33,pl36,pl72,pl111,pl144,pl47,trivial⟩,⟨ft29_1,ft27_0,ft27_1,ft27_2,ft29_0,ft33_0,ft33_1,ft33_2,ft36_0,ft36_1,ft36_2,ft38_0,ft38_1,ft38_2,ft42_0,ft42_1,ft42_2,ft72_0,ft72_1,ft78_0,ft78_1,ft78_2,ft92_0,ft92_1,ft103_0,ft103_1,ft103_2,ft103_3,ft105_0,ft105_1,ft133_0,ft133_1,ft133_2,ft133_3,ft138_0,ft138_1,ft166_0,ft166_1,ft179_0,ft179_1,ft179_2,ft111_0,ft111_1,ft111_2,ft144_0,ft144_1,trivial⟩,⟨un25,un34,un23,un44,un31,un40,un39,un22,un24,un231,un75,un142,trivial⟩,⟨un164,un186,un5,un3,un2,un12,un21,un55,un198,trivial⟩,⟨(inf_of in105),(inf_of in133),(inf_of in27),(inf_of in29),(inf_of in78),(inf_of in92),(inf_of in2),(inf_of in3),(inf_of in4),(inf_of in5),(inf_of in9),(inf_of in12),(inf_of in21),(inf_of in22),(inf_of in23),(inf_of in24),(inf_of in25),(inf_of in31),(inf_of in33),(inf_of in34),(inf_of in36),(inf_of in38),(inf_of in39),(inf_of in40),(inf_of in42),(inf_of in44),(inf_of in55),(inf_of in72),(inf_of in75),(inf_of in103),(inf_of in138),(inf_of in142),(inf_of in164),(inf_of in166),(inf_of in179),(inf_of in186),(inf_of in198),(inf_of in209),(inf_of in231),(inf_of in238),(inf_of in111),(inf_of in144),trivial⟩⟩
instance tab0:Tab Tryz.prog:=⟨mtab,mtab_ok,follows⟩
end Go.Proofs.YtmpkandbccallaaGreatDoor

