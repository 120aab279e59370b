/- Functions that hand out a row of their own, which the caller may write. -/
import Derived.Test.YtpabkdpijcbkgaaGreatDoorFwJ
namespace Rc
open Go Go.RowKit

section
variable {P : Program} {ops : Array Oper} {X : List Nat} {o : Oper} {Γ : Gam} {H : Hp}

theorem denL_vals {A A' : Nat → Prop} {w : World} : ∀ {ls : List Leaf} {cs : List Value}, (∀ l ∈ ls, ∃ v, l = Leaf.val v) → denL A ls cs w → denL A' ls cs w
  | [], [], _, _ => trivial
  | l :: ls, c :: cs, hv, h => by
    obtain ⟨v, rfl⟩ := hv l (by simp)
    exact ⟨h.1, denL_vals (fun l hl => hv l (by simp [hl])) h.2⟩
  | [], _ :: _, _, h => h.elim
  | _ :: _, [], _, h => h.elim

/-- A contract: the result is a row of the function's own. -/
def CtrF (P : Program) (f t n : Nat) (ls : List Leaf) (xs : List V) : Prop :=
  ∀ (w : World) (vs : List Value) (A : Nat → Prop), Glob w → (∀ k, A k → k < w.heap.size) → denVs A xs vs w →
    Calls P f vs.toArray w fun e w' => ∃ b cap cs rest, e = .returned (.slice (some ⟨b, 0, none⟩) n cap) ∧ w.heap.size ≤ b ∧ w'.heap[b]? = some (.cells (cs ++ rest).toArray t (0, 0)) ∧
      (cs ++ rest).length = cap ∧ cap ≤ maxLen ∧ denL A ls cs w' ∧ Below w.heap.size w w'

def PostF (P : Program) (fn : Func) (w0 : Frm) (A0 : Nat → Prop) (t n : Nat) (ls : List Leaf) : Exit → Act → World → Prop :=
  bodyPost P fn fun e w' => ∃ b cap cs rest, e = .returned (.slice (some ⟨b, 0, none⟩) n cap) ∧ w0.w.heap.size ≤ b ∧ w'.heap[b]? = some (.cells (cs ++ rest).toArray t (0, 0)) ∧
      (cs ++ rest).length = cap ∧ cap ≤ maxLen ∧ denL A0 ls cs w' ∧ w0.Bel w'

theorem CtrF.of_body {f N t n : Nat} {fn : Func} {c : Code} {ls : List Leaf} {xs : List V} (hf : P.funcs[f]? = some fn) (hb : fn.body = some c) (hN : fn.ntmps = N) (hl : xs.length ≤ N)
    (h : ∀ w0 A0, Tc P (PostF P fn w0 A0 t n ls) w0 A0 N (entryG 0 xs) [] c) : CtrF P f t n ls xs := by
  intro w vs A hg hA hd
  have hlen := hd.length
  refine Calls.mono (calls_of_wp hf hb (R := fun e w' => ∃ b cap cs rest, e = .returned (.slice (some ⟨b, 0, none⟩) n cap) ∧ w.heap.size ≤ b ∧ w'.heap[b]? = some (.cells (cs ++ rest).toArray t (0, 0)) ∧
      (cs ++ rest).length = cap ∧ cap ≤ maxLen ∧ denL A ls cs w' ∧ (Frm.of w).Bel w') ?_) (fun e w' ⟨b, cap, cs, rest, h1, h2, h3, h4, h5, h6, h7⟩ => ⟨b, cap, cs, rest, h1, h2, h3, h4, h5, h6, h7.to_below⟩)
  refine h (Frm.of w) A _ _ ⟨⟨fun _ => 0, fun _ => 0, fun _ => false, A⟩, Frm.Bel.refl (Frm.of w) hg (fun _ _ h => h), hA, fun k hk => .inl hk, rfl, ?_, ?_, fun i e he => by simp at he, fun i j e e' he => by simp at he⟩
  · simp; omega
  · intro s d hs
    obtain ⟨x, v, rfl, _, h2, h3⟩ := entry_slots xs vs 0 s d hd hs
    refine ⟨trivial, v, ?_, h3⟩
    simp only [Nat.sub_zero] at h2
    have hlt := (List.getElem?_eq_some_iff.1 h2).1
    rw [Array.getElem?_append_left (by simpa using hlt)]
    simpa using h2

theorem Tc_retF {Q : Exit → Act → World → Prop} {w0 : Frm} {A0 : Nat → Prop} {N t n s i : Nat} {fn : Func} {ls ls' : List Leaf} (hQ : ∀ a w, PostF P fn w0 A0 t n ls' .ret a w → Q .ret a w)
    (hr : fn.results = #[.tmp s]) (hs : look Γ s = some (D.own i n)) (hH : H[i]? = some (some ⟨t, ls, some 1, none⟩)) (h0 : 0 < ls.length) (hls : ls = ls') (hv : ∀ l ∈ ls, ∃ v, l = Leaf.val v) : Tc P Q w0 A0 N Γ H .ret := by
  intro a w hSt
  obtain ⟨E, hG⟩ := hSt
  subst hls
  obtain ⟨_, v, hv2, hd⟩ := hG.slots s _ hs
  have hd : v = if E.nil i then .slice none 0 0 else .slice (some ⟨E.b i, 0, none⟩) n (E.cap i) := hd
  obtain ⟨g1, g2⟩ := hG.boxes i _ hH
  obtain ⟨hn, hm, cs, rest, hc, hlen, hcd⟩ := HE.row1 g1 rfl h0
  simp only [hn] at hd
  refine wp_ret (hQ a w ⟨hG.defers, v, ?_, E.b i, E.cap i, cs, rest, by rw [hd]; rfl, (g2 hn).1, hc, hlen, hm, denL_vals hv hcd, hG.below⟩)
  rw [results_eq, hr]; simp [resSem, hv2]

/-- The row is known as a value. -/
theorem Ctr.of_fresh {f t n : Nat} {ls : List Leaf} {xs : List V} (h : CtrF P f t n ls xs) (hl : ls.length = n) : Ctr P f xs (R.one (V.one (Leaf.rep (sliceRep n ls)))) := by
  intro w vs A hg hA hd
  refine Calls.mono (h w vs A hg hA hd) ?_
  rintro e w' ⟨b, cap, cs, rest, rfl, hb, hc, hlen, hcap, hcd, hbel⟩
  have hdl := hcd.length
  have hle : n ≤ cap := by rw [← hlen, ← hl, ← hdl]; simp
  refine ⟨_, rfl, ⟨some ⟨b, 0, none⟩, cap, rfl, hle, hcap, fun h => by simp at h, fun ad had => ?_⟩, hbel⟩
  cases had
  refine ⟨fun _ => rfl, fun j l hj => ⟨.inr ⟨hb, (Array.getElem?_eq_some_iff.1 hc).1⟩, ?_⟩⟩
  obtain ⟨u, hu, hud⟩ := hcd.get hj
  have hju := (List.getElem?_eq_some_iff.1 hu).1
  refine ⟨u, ?_, Leaf.den_mono (fun k hk => .inl hk) hud⟩
  have := load_cell (o := j) hc (v := u) (by rw [List.getElem?_append_left hju]; exact hu)
  simpa using this

/-- A row that a callee made is taken over. -/
theorem Good.adopt {w0 : Frm} {A0 : Nat → Prop} {N : Nat} {E : Env} {a : Act} {w w' : World} (h : Good w0 A0 N Γ H E a w) (hb : Below w.heap.size w w') {t b cap : Nat} {ls : List Leaf} {cs rest : List Value} (hbs : w.heap.size ≤ b)
    (hnew : w'.heap[b]? = some (.cells (cs ++ rest).toArray t (0, 0))) (hlen : (cs ++ rest).length = cap) (hcap : cap ≤ maxLen) (hc : denL E.A ls cs w') :
    ∃ E', Good w0 A0 N Γ (H ++ [some ⟨t, ls, some 1, none⟩]) E' a w' ∧ E'.b H.length = b ∧ E'.cap H.length = cap ∧ E'.nil H.length = false ∧ E'.A = E.A := by
  let E' : Env := { b := fun i => if i = H.length then b else E.b i, cap := fun i => if i = H.length then cap else E.cap i,
                    nil := fun i => if i = H.length then false else E.nil i, A := E.A }
  have hk : ∀ k, E.A k → w'.heap[k]? = w.heap[k]? := fun k hk => hb.block k (h.foot k hk)
  have hs0 := h.below.size
  have hden : ∀ (d : D) v, d.okn H → d.den E v w → d.den E' v w' := by
    intro d v ho hd
    have hd := D.den_keep hk hd
    rcases d with x | xs | ⟨i, o⟩ | ⟨i, n⟩
    · exact hd
    · exact hd
    · have hi : i ≠ H.length := Nat.ne_of_lt (okn_lt ho)
      simp only [D.den, E', if_neg hi] at hd ⊢; exact hd
    · have hi : i ≠ H.length := Nat.ne_of_lt (okn_lt ho)
      simp only [D.den, E', if_neg hi] at hd ⊢; exact hd
  have hoks : ∀ (i : Nat) (e : HE), i ≠ H.length → e.ok E i w → e.ok E' i w' := by
    intro i e hi he
    have he' := HE.ok_keep (w' := w') hk (fun hn => hb.block _ (HE.ok_lt he hn)) he
    simp only [HE.ok, E', if_neg hi] at he' ⊢
    exact he'
  refine ⟨E', ⟨h.below.then (hb.mono h.below.size), ?_, h.foot0, h.defers, h.size, ?_, ?_, ?_⟩, by simp [E'], by simp [E'], by simp [E'], rfl⟩
  · intro k hk; exact Nat.lt_of_lt_of_le (h.foot k hk) hb.size
  · intro s d hs
    obtain ⟨ho, v, hv, hd⟩ := h.slots s d hs
    exact ⟨ho.mono_app, v, hv, hden d v ho hd⟩
  · intro i e he
    by_cases hi : i = H.length
    · subst hi
      simp at he
      subst he
      refine ⟨?_, fun _ => ⟨by simp only [E', if_true]; exact Nat.le_trans h.below.size hbs, by simp only [E', if_true]; intro hA; have := h.foot _ hA; omega⟩⟩
      simp only [HE.ok, E', if_true]
      exact ⟨hcap, cs, rest, hnew, by rw [Nat.mul_one]; exact hlen, hc⟩
    · have hlt : i < H.length := by
        have := (List.getElem?_eq_some_iff.1 he).1
        simp at this; omega
      rw [List.getElem?_append_left hlt] at he
      obtain ⟨h1, h2⟩ := h.boxes i e he
      refine ⟨hoks i e hi h1, fun hn => ?_⟩
      simp only [E', if_neg hi] at hn ⊢
      exact h2 hn
  · intro i j e e' he he' hn hn' hij
    have old : ∀ (i : Nat) (e : HE), (H ++ [some ⟨t, ls, some 1, none⟩])[i]? = some (some e) → i ≠ H.length → H[i]? = some (some e) := by
      intro i e he hi
      have hlt : i < H.length := by
        have := (List.getElem?_eq_some_iff.1 he).1
        simp at this; omega
      rwa [List.getElem?_append_left hlt] at he
    by_cases hi : i = H.length
    · have hj : j ≠ H.length := fun e => hij (hi.trans e.symm)
      simp only [E', if_neg hj] at hn' ⊢
      rw [if_pos hi]
      have := HE.ok_lt (h.boxes j e' (old j e' he' hj)).1 hn'
      omega
    · by_cases hj : j = H.length
      · simp only [E', if_neg hi] at hn ⊢
        rw [if_pos hj]
        have := HE.ok_lt (h.boxes i e (old i e he hi)).1 hn
        omega
      · simp only [E', if_neg hi, if_neg hj] at hn hn' ⊢
        exact h.apart i j e e' (old i e he hi) (old j e' he' hj) hn hn' hij

theorem Je_call_fresh {f : Nat} {args : Array Operand} {tys : Array TypeId} {xs : List V} {t n i : Nat} {ls : List Leaf} (ho : o.op = .call { callee := .value (.func f), args := args, argTypes := tys }) (hf : FnOk P f)
    (hx : argsD Γ args.toList = some xs) (hspec : CtrF P f t n ls xs) (hi : H.length = i) : Je P ops o Γ H (some (D.own i n)) (H ++ [some ⟨t, ls, some 1, none⟩]) := by
  intro w0 A0 N Γ2 a w Q K hs hN hSt hK
  obtain ⟨E, hG⟩ := hSt
  obtain ⟨fn, hfn, hb, hn⟩ := hf
  have hargs := argsD_spec (Γ := Γ) (E := E) (a := a) (w := w) args.toList xs (fun x hx d hd => (op_at hs hG (x := x) (by rw [ho]; simp [Op.operands, Call.operands]; exact .inr (by simpa using hx)) hd).2) hx
  have hrun : (execOp a.eval o).run P w = .ok (.enter f (args.map a.eval)) w := by
    have hn' : ¬ fn.name = "runtime.NumGoroutine" := by simpa using hn
    have hb' : ¬ fn.body = none := by intro e; rw [e] at hb; simp at hb
    simp [execOp, ho, resolve, Deferred.ofValue, invoke, callFunc, hfn, hn', hb', Act.eval]
  unfold Oper.wp
  rw [hrun, Oper.upon_enter]
  have hc := hspec w (args.map a.eval).toList E.A hG.below.now hG.foot (by simpa using hargs)
  rw [show (args.map a.eval).toList.toArray = args.map a.eval from Array.toArray_toList] at hc
  refine Calls.mono hc ?_
  rintro e w' ⟨b, cap, cs, rest, rfl, hbs, hnew, hlen, hcap, hcd, hbel⟩
  obtain ⟨E', hG', hb', hcap', hnil, hA⟩ := hG.adopt hbel hbs hnew hlen hcap hcd
  refine hK _ _ ⟨E', hG'.put (fun d hd => ?_) hN⟩
  cases hd
  subst hi
  refine ⟨okn_new, ?_⟩
  show _ = _
  rw [hnil, hb', hcap']
  rfl
end
end Rc
