/- Judgements of the operations that act on memory; calls; a function's beginning and end. -/
import Derived.Test.YtpabkdpijcbkgaaGreatDoorFwD
namespace Rc
open Go Go.RowKit

section
variable {P : Program} {ops : Array Oper} {X : List Nat} {o : Oper} {Γ : Gam} {H : Hp}

theorem wp_valueW {a : Act} {w w' : World} {v : Value} {K : Act → World → Prop} {Q : Exit → Act → World → Prop} (h : (execOp a.eval o).run P w = .ok (.value v) w') (hK : K (a.put o.dst v) w') :
    o.wp P a w K Q := by
  unfold Oper.wp; rw [h]; exact hK
theorem wp_skipW {a : Act} {w w' : World} {K : Act → World → Prop} {Q : Exit → Act → World → Prop} (h : (execOp a.eval o).run P w = .ok .skip w') (hK : K (a.put o.dst undef) w') :
    o.wp P a w K Q := by
  unfold Oper.wp; rw [h]; exact hK

/-- A variable is made of a value: a new own box. -/
theorem Je_box {t : Nat} {x : Operand} {y : V} {n : Nat} (ho : o.op = .box t x) (hx : opD Γ x = some (D.v y)) (hn : H.length = n) :
    Je P ops o Γ H (some (D.ptr n 0)) (H ++ [some ⟨t, y.leaves, none, none⟩]) := by
  intro w0 A0 N Γ2 a w Q K hs hN hSt hK
  obtain ⟨E, hG⟩ := hSt
  obtain ⟨_, h2⟩ := op_at hs hG (x := x) (by rw [ho]; simp [Op.operands]) hx
  have hc := V.den_cells (show y.den E.A (a.eval x) w from h2)
  obtain ⟨E', hG', hb, _, _, hA⟩ := hG.alloc (t := t) (row := none) (cap := 0) hc (fun sz h => by simp at h)
  rw [show (a.eval x).cells.toList.toArray = (a.eval x).cells from by simp] at hG'
  refine wp_valueW (v := .pointer (some ⟨w.heap.size, 0, none⟩)) (w' := w.alloc (.cells (a.eval x).cells t)) ?_ (hK _ _ ⟨E', hG'.put (fun d hd => ?_) hN⟩)
  · simp [execOp, ho, Instr.box, newVar, newRow]
  · cases hd
    subst hn
    exact ⟨okn_new, by show _ = _; rw [hb]⟩

/-- A variable of its type's zero value: a new own box. -/
theorem Je_alloc {t : Nat} {zs : List Leaf} {n : Nat} (ho : o.op = .alloc t) (hz : TyZero P t zs) (hn : H.length = n) :
    Je P ops o Γ H (some (D.ptr n 0)) (H ++ [some ⟨t, zs, none, none⟩]) := by
  intro w0 A0 N Γ2 a w Q K hs hN hSt hK
  obtain ⟨E, hG⟩ := hSt
  obtain ⟨z, hzr, hzd⟩ := hz.run w E.A
  obtain ⟨E', hG', hb, _, _, hA⟩ := hG.alloc (t := t) (row := none) (cap := 0) hzd (fun sz h => by simp at h)
  rw [show z.cells.toList.toArray = z.cells from by simp] at hG'
  refine wp_valueW (v := .pointer (some ⟨w.heap.size, 0, none⟩)) (w' := w.alloc (.cells z.cells t)) ?_ (hK _ _ ⟨E', hG'.put (fun d hd => ?_) hN⟩)
  · simp [execOp, ho, Instr.alloc, newVar, newRow, hzr]
  · cases hd
    subst hn
    exact ⟨okn_new, by show _ = _; rw [hb]⟩

/-- A store into an own block. -/
theorem Je_store {t : Nat} {x y : Operand} {i off n : Nat} {e : HE} {v : V} {b : Bool} (ho : o.op = .store t x y) (hx : opD Γ x = some (D.ptr i off)) (hy : opD Γ y = some (D.v v)) (hi : H[i]? = some (some e))
    (ht : TyIs P t b n) (hn : v.leaves.length = n) (hn0 : 0 < n) (hfit : off + n ≤ e.ls.length) {ls : List Leaf} (hls : splice e.ls off v.leaves = ls) :
    Je P ops o Γ H none (H.set i (some { e with ls := ls })) := by
  intro w0 A0 N Γ2 a w Q K hs hN hSt hK
  obtain ⟨E, hG⟩ := hSt
  obtain ⟨_, h1⟩ := op_at hs hG (x := x) (by rw [ho]; simp [Op.operands]) hx
  obtain ⟨_, h2⟩ := op_at hs hG (x := y) (by rw [ho]; simp [Op.operands]) hy
  have h1 : a.eval x = .pointer (some ⟨E.b i, off, none⟩) := h1
  have hc := V.den_cells (show v.den E.A (a.eval y) w from h2)
  obtain ⟨g1, _⟩ := hG.boxes i e hi
  have hni := HE.not_nil g1 (by omega)
  obtain ⟨cs, rest, hcs, hd, hr⟩ := HE.block g1 hni
  have l1 := hd.length
  have l2 := hc.length
  simp only [Array.length_toList] at l2
  have hst := run_storeCells_at P (E.b i) off e.t (a.eval y).cells.toList 0 (cs ++ rest).toArray w hcs (by simp; omega) hc.one
  have hrow : ((cs ++ rest).toArray.toList.take (off + 0) ++ (a.eval y).cells.toList ++ (cs ++ rest).toArray.toList.drop (off + 0 + (a.eval y).cells.toList.length)) = splice cs off (a.eval y).cells.toList ++ rest := by
    unfold splice
    simp only [Nat.add_zero, List.append_assoc]
    rw [List.take_append_of_le_length (by omega), List.drop_append_of_le_length (by simp; omega)]
  rw [hrow] at hst
  have hG' := hG.setRow hi hni (ls' := ls) (cs' := splice cs off (a.eval y).cells.toList) (rest' := rest) hcs (by simp [splice_length cs off (a.eval y).cells.toList (by simp; omega)]) hr (hls ▸ hd.splice off hc)
  refine wp_skipW (w' := w.setRow (E.b i) (splice cs off (a.eval y).cells.toList ++ rest).toArray) ?_ (hK _ _ ⟨E, hG'.put (fun d hd => by cases hd) hN⟩)
  have hsz : (a.eval y).cells.size = n := by omega
  simp [execOp, ho, h1, Instr.storeAt, Instr.sureAddr, storeVar, ht.sizeOf, hsz, hst]

/-- n cells of zero values. -/
def zcells (n : Nat) (zs : List Leaf) : List Leaf := (List.range n).map fun i => zs.getD (i % zs.length) nilL
theorem zcells_one (n : Nat) (l : Leaf) : zcells n [l] = List.replicate n l := by
  unfold zcells
  apply List.ext_getElem
  · simp
  · intro i h1 h2; simp [Nat.mod_one]
theorem denL_map {A : Nat → Prop} {w : World} {f : Nat → Leaf} {g : Nat → Value} : ∀ (l : List Nat), (∀ i ∈ l, (f i).den A (g i) w) → denL A (l.map f) (l.map g) w := by
  intro l
  induction l with
  | nil => intro _; trivial
  | cons x xs ih => intro h; exact ⟨h x (by simp), ih fun i hi => h i (by simp [hi])⟩
theorem zcells_den {A : Nat → Prop} {w : World} {zs : List Leaf} {z : Array Value} (h : denL A zs z.toList w) (h0 : 0 < zs.length) (n : Nat) :
    denL A (zcells n zs) ((Array.range n).map (z[· % z.size]!)).toList w := by
  have hl := h.length
  simp only [Array.length_toList] at hl
  rw [show ((Array.range n).map (z[· % z.size]!)).toList = (List.range n).map (z[· % z.size]!) from by simp]
  refine denL_map _ (fun i _ => ?_)
  have hlt : i % zs.length < zs.length := Nat.mod_lt _ h0
  obtain ⟨v, hv, hd⟩ := h.get (List.getElem?_eq_getElem hlt)
  rw [List.getD_eq_getElem?_getD, List.getElem?_eq_getElem hlt]
  simp only [Array.getElem?_toList] at hv
  simp only [Option.getD_some, hl]
  rw [getElem!_def, hv]
  exact hd

/-- Cells of a new block are represented once it counts as memory of what is represented. -/
theorem new_slice {E : Env} {w : World} {t len : Nat} {ls : List Leaf} {cs : List Value} (hf : ∀ k, E.A k → k < w.heap.size) (hd : denL E.A ls cs w) (hm : len ≤ maxLen) :
    (sliceRep len ls).P (grown E.A w (w.alloc (.cells cs.toArray t))) (.slice (some ⟨w.heap.size, 0, none⟩) len len) (w.alloc (.cells cs.toArray t)) := by
  refine ⟨some ⟨w.heap.size, 0, none⟩, len, rfl, Nat.le_refl _, hm, fun h => by simp at h, fun ad had => ?_⟩
  cases had
  refine ⟨fun _ => rfl, fun i l hi => ⟨.inr ⟨Nat.le_refl _, by simp⟩, ?_⟩⟩
  obtain ⟨v, hv, hvd⟩ := hd.get hi
  refine ⟨v, ?_, Leaf.den_mono (fun k hk => .inl hk) (Leaf.den_keep (fun k hk => Below.heap_alloc w _ k (hf k hk)) hvd)⟩
  have hc := heap_alloc_new w (.cells cs.toArray t)
  unfold World.cell?
  rw [hc]
  simpa using hv

/-- A new array, shared at once: a slice that is represented. -/
theorem Je_buildSlice {t elem len sz : Nat} {parts : Array (Nat × Operand)} {zs ls : List Leaf} {lp : List (Nat × List Leaf)} {b : Bool} (ho : o.op = .buildSlice t len parts) (ht : P.underlying t = some (.slice elem)) (hsz : TyIs P elem b sz)
    (hz : TyZero P elem zs) (hzl : zs.length = sz) (hsz0 : 0 < sz) (hlen : 0 < len) (hp : partsD Γ parts.toList = some lp) (hbig : len * sz ≤ 16777216)
    (hf : fillL (fun i => some (i * sz, sz)) (zcells (len * sz) zs) lp = some ls) : Je P ops o Γ H (some (D.rep (sliceRep len ls))) H := by
  intro w0 A0 N Γ2 a w Q K hs hN hSt hK
  obtain ⟨E, hG⟩ := hSt
  obtain ⟨z, hzr, hzd⟩ := hz.run w E.A
  obtain ⟨h1, h2⟩ := partsD_spec parts.toList lp (build_den (.inr ⟨len, ho⟩) hs hG) hp
  obtain ⟨cs, hc1, hc2⟩ := fill_den (A := E.A) (w := w) (places := fun i => some (i * sz, sz)) (parts.toList.map fun p => (p.1, a.eval p.2)) lp ((Array.range (len * sz)).map (z.cells[· % z.cells.size]!)) _ ls
    (zcells_den hzd (by omega) (len * sz)) h1 h2 hf
  have hb := below_alloc w (.cells cs elem)
  have hG' := hG.grow hb
  have hlm : len ≤ 16777216 := Nat.le_trans (Nat.le_mul_of_pos_right len hsz0) hbig
  refine wp_valueW (v := .slice (some ⟨w.heap.size, 0, none⟩) len len) (w' := w.alloc (.cells cs elem)) ?_ (hK _ _ ⟨_, hG'.put (fun d hd => ?_) hN⟩)
  · have n1 : ¬ 16777216 < len * sz := by omega
    have n2 : len * sz ≠ 0 := Nat.ne_of_gt (Nat.mul_pos hlen hsz0)
    have hps : (parts.map fun (p : Nat × Operand) => (p.1, a.eval p.2)).toList = parts.toList.map fun p => (p.1, a.eval p.2) := by simp
    simp only [execOp, ho, Instr.buildSlice]
    simp only [hps]
    simp [run_underlying ht, hsz.sizeOf, n1, hzr, hc1, newRow, n2]
  · cases hd
    refine ⟨trivial, ?_⟩
    have := new_slice (t := elem) (len := len) hG.foot hc2 (by simp only [maxLen]; omega)
    rw [show cs.toList.toArray = cs from by simp] at this
    exact this

/-! ## Calls -/
def argsD (Γ : Gam) : List Operand → Option (List V)
  | [] => some []
  | x :: xs =>
    match opD Γ x, argsD Γ xs with
    | some (.inl v), some vs => some (v :: vs)
    | _, _ => none
@[reducible] def R.toD : R → D
  | .inl x => .inl x
  | .inr xs => .inr (.inl xs)
theorem R.toD_den {E : Env} {y : R} {v : Value} {w : World} (h : y.den E.A v w) : y.toD.den E v w := by
  cases y with
  | inl x => exact h
  | inr xs => exact h
theorem R.toD_okn {y : R} {H : Hp} : y.toD.okn H := by cases y <;> trivial
theorem argsD_spec {E : Env} {a : Act} {w : World} : ∀ (xs : List Operand) (vs : List V), (∀ x ∈ xs, ∀ d, opD Γ x = some d → d.den E (a.eval x) w) → argsD Γ xs = some vs → denVs E.A vs (xs.map a.eval) w := by
  intro xs
  induction xs with
  | nil => intro vs _ h; simp only [argsD, Option.some.injEq] at h; subst h; trivial
  | cons x xs ih =>
    intro vs hd h
    unfold argsD at h
    cases hx : opD Γ x with
    | none => rw [hx] at h; simp at h
    | some d =>
      rw [hx] at h
      cases hr : argsD Γ xs with
      | none => rw [hr] at h; rcases d with v | d <;> simp at h
      | some us =>
        rw [hr] at h
        rcases d with v | d
        · simp only [Option.some.injEq] at h
          subst h
          exact ⟨hd x (by simp) _ hx, ih us (fun y hy d hd' => hd y (by simp [hy]) d hd') hr⟩
        · simp at h

/-- The function is there, and has a body. -/
def FnOk (P : Program) (f : Nat) : Prop := ∃ fn, P.funcs[f]? = some fn ∧ fn.body.isNone = false ∧ (fn.name == "runtime.NumGoroutine") = false

/-- A call of a Go function by its contract. -/
theorem Je_call {f : Nat} {args : Array Operand} {tys : Array TypeId} {xs : List V} {y : R} (ho : o.op = .call { callee := .value (.func f), args := args, argTypes := tys }) (hf : FnOk P f)
    (hx : argsD Γ args.toList = some xs) (hspec : Ctr P f xs y) : Je P ops o Γ H (some y.toD) H := by
  intro w0 A0 N Γ2 a w Q K hs hN hSt hK
  obtain ⟨E, hG⟩ := hSt
  obtain ⟨fn, hfn, hb, hn⟩ := hf
  have hargs := argsD_spec (Γ := Γ) (E := E) (a := a) (w := w) args.toList xs (fun x hx d hd => (op_at hs hG (x := x) (by rw [ho]; simp [Op.operands, Call.operands]; exact .inr (by simpa using hx)) hd).2) hx
  have hrun : (execOp a.eval o).run P w = .ok (.enter f (args.map a.eval)) w := by
    have hn' : ¬ fn.name = "runtime.NumGoroutine" := by simpa using hn
    have hb' : ¬ fn.body = none := by intro e; rw [e] at hb; simp at hb
    simp [execOp, ho, resolve, Deferred.ofValue, invoke, callFunc, hfn, hn', hb', Act.eval]
  unfold Oper.wp
  rw [hrun, Oper.upon_enter]
  have hc := hspec w (args.map a.eval).toList E.A hG.below.now hG.foot (by simpa using hargs)
  rw [show (args.map a.eval).toList.toArray = args.map a.eval from Array.toArray_toList] at hc
  refine Calls.mono hc ?_
  rintro e w' ⟨v, rfl, hy, hbel⟩
  exact hK _ _ ⟨_, (hG.grow hbel).put (fun d hd => by cases hd; exact ⟨R.toD_okn, R.toD_den hy⟩) hN⟩

/-! ## A function's beginning and end -/
def entryG : Nat → List V → Gam
  | _, [] => []
  | k, x :: xs => (k, some (D.v x)) :: entryG (k + 1) xs
/-- What is to be shown at a return. -/
def Post (P : Program) (fn : Func) (w0 : Frm) (A0 : Nat → Prop) (y : R) : Exit → Act → World → Prop :=
  bodyPost P fn fun e w' => ∃ v, e = .returned v ∧ y.den (grown A0 w0.w w') v w' ∧ w0.Bel w'

theorem entry_slots {A : Nat → Prop} {w : World} : ∀ (xs : List V) (vs : List Value) (k s : Nat) (d : D), denVs A xs vs w → look (entryG k xs) s = some d →
    ∃ x v, d = D.v x ∧ k ≤ s ∧ vs[s - k]? = some v ∧ x.den A v w := by
  intro xs
  induction xs with
  | nil => intro vs k s d _ h; simp [entryG, look] at h
  | cons x xs ih =>
    intro vs k s d hd h
    cases vs with
    | nil => exact hd.elim
    | cons v vs =>
      unfold entryG at h
      by_cases hk : k = s
      · subst hk
        rw [look_cons_self] at h
        cases h
        exact ⟨x, v, rfl, Nat.le_refl _, by simp, hd.1⟩
      · rw [look_cons_ne hk] at h
        obtain ⟨x', v', h1, h2, h3, h4⟩ := ih vs (k + 1) s d hd.2 h
        refine ⟨x', v', h1, by omega, ?_, h4⟩
        rw [show s - k = (s - (k + 1)) + 1 from by omega]
        simpa using h3

/-- A contract is shown by its body. -/
theorem Ctr.of_body {f N : Nat} {fn : Func} {c : Code} {xs : List V} {y : R} (hf : P.funcs[f]? = some fn) (hb : fn.body = some c) (hN : fn.ntmps = N) (hl : xs.length ≤ N)
    (h : ∀ w0 A0, Tc P (Post P fn w0 A0 y) w0 A0 N (entryG 0 xs) [] c) : Ctr P f xs y := by
  intro w vs A hg hA hd
  have hlen := hd.length
  refine Calls.mono (calls_of_wp hf hb (R := fun e w' => ∃ v, e = .returned v ∧ y.den (grown A w w') v w' ∧ (Frm.of w).Bel w') ?_) (fun e w' ⟨v, h1, h2, h3⟩ => ⟨v, h1, h2, h3.to_below⟩)
  refine h (Frm.of w) A _ _ ⟨⟨fun _ => 0, fun _ => 0, fun _ => false, A⟩, Frm.Bel.refl (Frm.of w) hg (fun _ _ h => h), hA, fun k hk => .inl hk, rfl, ?_, ?_, fun i e he => by simp at he, fun i j e e' he => by simp at he⟩
  · simp; omega
  · intro s d hs
    obtain ⟨x, v, rfl, _, h2, h3⟩ := entry_slots xs vs 0 s d hd hs
    refine ⟨trivial, v, ?_, h3⟩
    simp only [Nat.sub_zero] at h2
    have hlt := (List.getElem?_eq_some_iff.1 h2).1
    rw [Array.getElem?_append_left (by simpa using hlt)]
    simpa using h2

/-- One result variable. -/
def resOk (P : Program) (Γ : Gam) (H : Hp) (r : ResultVar) (x : V) : Prop :=
  match r with
  | .tmp t => look Γ t = some (D.v x)
  | .cell s t => ∃ i e, look Γ s = some (D.ptr i 0) ∧ H[i]? = some (some e) ∧
      ((TyIs P t true e.ls.length ∧ 0 < e.ls.length ∧ x = V.agg e.ls) ∨ (TyIs P t false 1 ∧ ∃ l rest, e.ls = l :: rest ∧ x = V.one l))
def resSem (tmps : Array Value) : ResultVar → Sem Value
  | .tmp t => pure (tmps.getD t undef)
  | .cell a t => do loadVar t (← asAddr (tmps.getD a undef))
theorem resSem_run {w0 : Frm} {A0 : Nat → Prop} {N : Nat} {E : Env} {a : Act} {w : World} (hG : Good w0 A0 N Γ H E a w) {r : ResultVar} {x : V} (h : resOk P Γ H r x) :
    ∃ v, (resSem a.tmps r).run P w = .ok v w ∧ x.den E.A v w := by
  cases r with
  | tmp t =>
    obtain ⟨_, v, hv, hd⟩ := hG.slots t _ h
    exact ⟨v, by simp [resSem, hv], hd⟩
  | cell s t =>
    obtain ⟨i, e, h1, h2, h3⟩ := h
    obtain ⟨_, v, hv, hd⟩ := hG.slots s _ h1
    have hd : v = .pointer (some ⟨E.b i, 0, none⟩) := hd
    subst hd
    obtain ⟨g1, _⟩ := hG.boxes i e h2
    rcases h3 with ⟨ht, h0, rfl⟩ | ⟨ht, l, rest', hl, rfl⟩
    · obtain ⟨cs, rest, hc, hcd, _⟩ := HE.block g1 (HE.not_nil g1 h0)
      have hlen := hcd.length
      have hl := load_cells (P := P) hc e.ls.length (by simp; omega) (o := 0)
      rw [List.drop_zero, List.take_append_of_le_length (by omega), List.take_of_length_le (by omega)] at hl
      exact ⟨.agg cs.toArray, by simp [resSem, hv, asAddr, loadVar, ht.isAgg, ht.sizeOf, hl], cs, rfl, hcd⟩
    · obtain ⟨cs, rest, hc, hcd, _⟩ := HE.block g1 (HE.not_nil g1 (by rw [hl]; simp))
      obtain ⟨v, hv2, hvd⟩ := hcd.get (i := 0) (l := l) (by rw [hl]; rfl)
      have hlt := (List.getElem?_eq_some_iff.1 hv2).1
      have hl' : w.cell? ⟨E.b i, 0, none⟩ = some v := load_cell hc (by rw [List.getElem?_append_left hlt]; exact hv2)
      exact ⟨v, by simp [resSem, hv, asAddr, loadVar, ht.isAgg, load, Sem.run, hl'], hvd⟩
theorem results_eq (fn : Func) (tmps : Array Value) : results fn tmps = (do let vs ← fn.results.mapM (resSem tmps); pure (if h : vs.size = 1 then vs[0] else .tuple vs)) := by
  unfold results
  have : (fun (x : ResultVar) => match x with | .tmp t => (pure (tmps.getD t undef) : Sem Value) | .cell a t => do loadVar t (← asAddr (tmps.getD a undef))) = resSem tmps := by
    funext r; cases r <;> rfl
  rw [← this]
  rfl
theorem Good.foot_grown {w0 : Frm} {A0 : Nat → Prop} {N : Nat} {E : Env} {a : Act} {w : World} (hG : Good w0 A0 N Γ H E a w) : ∀ k, E.A k → grown A0 w0.w w k := fun k hk => by
  rcases hG.foot0 k hk with h | h
  · exact .inl h
  · exact .inr ⟨h, hG.foot k hk⟩

theorem Tc_ret1 {Q : Exit → Act → World → Prop} {w0 : Frm} {A0 : Nat → Prop} {N : Nat} {fn : Func} {y : R} {r : ResultVar} {x : V} (hQ : ∀ a w, Post P fn w0 A0 y .ret a w → Q .ret a w)
    (hr : fn.results = #[r]) (h : resOk P Γ H r x) (hy : R.one x = y) : Tc P Q w0 A0 N Γ H .ret := by
  intro a w hSt
  obtain ⟨E, hG⟩ := hSt
  obtain ⟨v, hv, hd⟩ := resSem_run hG h
  refine wp_ret (hQ a w ⟨hG.defers, v, ?_, v, rfl, ?_, hG.below⟩)
  · rw [results_eq, hr]; simp [hv]
  · subst hy; exact V.den_mono hG.foot_grown hd
theorem Tc_ret2 {Q : Exit → Act → World → Prop} {w0 : Frm} {A0 : Nat → Prop} {N : Nat} {fn : Func} {y : R} {r r' : ResultVar} {x x' : V} (hQ : ∀ a w, Post P fn w0 A0 y .ret a w → Q .ret a w)
    (hr : fn.results = #[r, r']) (h : resOk P Γ H r x) (h' : resOk P Γ H r' x') (hy : R.tup [x, x'] = y) : Tc P Q w0 A0 N Γ H .ret := by
  intro a w hSt
  obtain ⟨E, hG⟩ := hSt
  obtain ⟨v, hv, hd⟩ := resSem_run hG h
  obtain ⟨v', hv', hd'⟩ := resSem_run hG h'
  refine wp_ret (hQ a w ⟨hG.defers, .tuple #[v, v'], ?_, _, rfl, ?_, hG.below⟩)
  · rw [results_eq, hr]; simp [hv, hv']
  · subst hy; exact ⟨[v, v'], rfl, V.den_mono hG.foot_grown hd, V.den_mono hG.foot_grown hd', trivial⟩
theorem Tc_ret3 {Q : Exit → Act → World → Prop} {w0 : Frm} {A0 : Nat → Prop} {N : Nat} {fn : Func} {y : R} {r r' r'' : ResultVar} {x x' x'' : V} (hQ : ∀ a w, Post P fn w0 A0 y .ret a w → Q .ret a w)
    (hr : fn.results = #[r, r', r'']) (h : resOk P Γ H r x) (h' : resOk P Γ H r' x') (h'' : resOk P Γ H r'' x'') (hy : R.tup [x, x', x''] = y) : Tc P Q w0 A0 N Γ H .ret := by
  intro a w hSt
  obtain ⟨E, hG⟩ := hSt
  obtain ⟨v, hv, hd⟩ := resSem_run hG h
  obtain ⟨v', hv', hd'⟩ := resSem_run hG h'
  obtain ⟨v'', hv'', hd''⟩ := resSem_run hG h''
  refine wp_ret (hQ a w ⟨hG.defers, .tuple #[v, v', v''], ?_, _, rfl, ?_, hG.below⟩)
  · rw [results_eq, hr]; simp [hv, hv', hv'']
  · subst hy; exact ⟨[v, v', v''], rfl, V.den_mono hG.foot_grown hd, V.den_mono hG.foot_grown hd', V.den_mono hG.foot_grown hd'', trivial⟩
end
end Rc
