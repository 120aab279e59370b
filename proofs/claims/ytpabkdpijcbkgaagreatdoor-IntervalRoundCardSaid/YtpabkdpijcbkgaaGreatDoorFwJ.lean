/- Rows that another function writes, and rows that a function hands out to be written. -/
import Derived.Test.YtpabkdpijcbkgaaGreatDoorFwH
namespace Rc
open Go Go.RowKit

section
variable {P : Program} {ops : Array Oper} {X : List Nat} {o : Oper} {Γ : Gam} {H : Hp}

theorem HE.row1 {E : Env} {i : Nat} {e : HE} {w : World} (h : e.ok E i w) (hr : e.row = some 1) (h0 : 0 < e.ls.length) :
    E.nil i = false ∧ E.cap i ≤ maxLen ∧ ∃ cs rest : List Value, w.heap[E.b i]? = some (.cells (cs ++ rest).toArray e.t (0, 0)) ∧ (cs ++ rest).length = E.cap i ∧ denL E.A e.ls cs w := by
  have hn := HE.not_nil h h0
  unfold HE.ok at h
  rw [hr] at h
  simp only [hn, Nat.mul_one] at h
  obtain ⟨h1, cs, rest, h2, h3, h4⟩ := h
  exact ⟨hn, h1, cs, rest, h2, h3, h4⟩

/-- x[lo:hi], x an own row. -/
theorem Jq_slice_own {x y z : Operand} {t u i n : Nat} {k k' : IntKind} {lo hi : Nat} {b : Bool} {e : HE} (ho : o.op = .slice t x (some y) (some z) none) (hx : opD Γ x = some (D.own i n)) (hy : opD Γ y = some (D.val (.int k lo)))
    (hz : opD Γ z = some (D.val (.int k' hi))) (hi' : H[i]? = some (some e)) (hXi : i ∉ X) (hr : e.row = some 1) (hl : e.ls.length = n) (ht : P.underlying t = some (.slice u)) (hu : TyIs P u b 1) (h1 : lo < hi) (h2 : hi ≤ n) {m : Nat} (hm : hi - lo = m) :
    Jq P ops X o Γ H (D.part i lo m) := by
  intro w0 A0 N Γ2 H2 E a w hs hX hG
  subst hm
  obtain ⟨hk, hv⟩ := op_at hs hG (x := x) (by rw [ho]; simp [Op.operands]) hx
  have hv : a.eval x = if E.nil i then .slice none 0 0 else .slice (some ⟨E.b i, 0, none⟩) n (E.cap i) := hv
  have e2 := op_val hs hG (x := y) (by rw [ho]; simp [Op.operands]) hy
  have e3 := op_val hs hG (x := z) (by rw [ho]; simp [Op.operands]) hz
  obtain ⟨g1, _⟩ := hG.boxes i e (hX i e hXi hi')
  obtain ⟨hn, hm, cs, rest, hc, hlen, hd⟩ := HE.row1 g1 hr (by omega)
  have hdl := hd.length
  have hcap : n ≤ E.cap i := by rw [← hlen, ← hl, ← hdl]; simp
  simp only [hn] at hv
  have c1 : hi ≤ E.cap i := by omega
  have c2 : lo ≤ hi := by omega
  have c3 : ¬ E.cap i = lo := by omega
  refine ⟨hk, .slice (some ⟨E.b i, lo, none⟩) (hi - lo) (E.cap i - lo), ?_, by show _ = _; rw [hn]; rfl⟩
  simp [execOp, ho, hv, e2, e3, Instr.sliceAt, Instr.slice, run_underlying ht, Instr.sliceBounds, Instr.sliceBound, asIntOf, hu.sizeOf, c1, c2, c3, cell_add]

theorem Jq_index_part {x y : Operand} {t u i o' n : Nat} {k : IntKind} {j : Int} {b : Bool} {e : HE} (ho : o.op = .indexAddr t x y) (hx : opD Γ x = some (D.part i o' n)) (hy : opD Γ y = some (D.val (.int k j))) (hi : H[i]? = some (some e)) (hXi : i ∉ X)
    (h00 : 0 < e.ls.length) (ht : P.underlying t = some (.slice u)) (hu : TyIs P u b 1) (h0 : 0 ≤ j) (hj : j < n) {off : Nat} (hoff : o' + j.toNat = off) : Jq P ops X o Γ H (D.ptr i off) := by
  intro w0 A0 N Γ2 H2 E a w hs hX hG
  obtain ⟨h1, h2⟩ := op_at hs hG (x := x) (by rw [ho]; simp [Op.operands]) hx
  have h2 : a.eval x = if E.nil i then .slice none 0 0 else .slice (some ⟨E.b i, o', none⟩) n (E.cap i - o') := h2
  have e2 := op_val hs hG (x := y) (by rw [ho]; simp [Op.operands]) hy
  obtain ⟨g1, _⟩ := hG.boxes i e (hX i e hXi hi)
  have hnn := HE.not_nil g1 h00
  simp only [hnn] at h2
  refine ⟨h1, .pointer (some ⟨E.b i, off, none⟩), ?_, rfl⟩
  subst hoff
  simp [execOp, ho, h2, e2, Instr.indexAt, asIntOf, run_underlying ht, h0, hj, hu.sizeOf, cell_add]

/-- A part of an own row, read. -/
theorem part_rep {w0 : Frm} {A0 : Nat → Prop} {N : Nat} {Γ2 : Gam} {H2 : Hp} {E : Env} {a : Act} {w : World} (hG : Good w0 A0 N Γ2 H2 E a w) {i off n : Nat} {e : HE} (hi : H2[i]? = some (some e)) (hr : e.row = some 1) (h0 : 0 < n) (hle : off + n ≤ e.ls.length)
    {v : Value} (hv : (D.part i off n).den E v w) : (sliceRep n ((e.ls.drop off).take n)).P (fun k => E.A k ∨ k = E.b i) v w := by
  obtain ⟨g1, _⟩ := hG.boxes i e hi
  obtain ⟨hn, hm, cs, rest, hc, hlen, hd⟩ := HE.row1 g1 hr (by omega)
  have hdl := hd.length
  have hcap : e.ls.length ≤ E.cap i := by rw [← hlen, ← hdl]; simp
  have hv : v = if E.nil i then .slice none 0 0 else .slice (some ⟨E.b i, off, none⟩) n (E.cap i - off) := hv
  simp only [hn] at hv
  refine ⟨some ⟨E.b i, off, none⟩, E.cap i - off, by simpa using hv, by omega, by omega, fun h => by simp at h, fun ad had => ?_⟩
  cases had
  refine ⟨fun _ => rfl, fun j l hj => ⟨.inr rfl, ?_⟩⟩
  rw [List.getElem?_take] at hj
  split at hj
  · rw [List.getElem?_drop] at hj
    obtain ⟨u, hu, hud⟩ := hd.get hj
    have hju := (List.getElem?_eq_some_iff.1 hu).1
    exact ⟨u, load_cell (o := off + j) hc (v := u) (by rw [List.getElem?_append_left hju]; exact hu), Leaf.den_mono (fun k hk => .inl hk) hud⟩
  · simp at hj

/-- A call that reads a part of an own row, and gives a plain value. -/
theorem Je_call_view {f : Nat} {x : Operand} {args : Array Operand} {ys : List Operand} {tys : Array TypeId} {xs : List V} {r : Value} {i off n : Nat} {e : HE} (ho : o.op = .call { callee := .value (.func f), args := args, argTypes := tys }) (hf : FnOk P f)
    (hargs : args.toList = x :: ys) (hx : opD Γ x = some (D.part i off n)) (hi : H[i]? = some (some e)) (hr : e.row = some 1) (h0 : 0 < n) (hle : off + n ≤ e.ls.length) {ls' : List Leaf} (hls : (e.ls.drop off).take n = ls')
    (hys : argsD Γ ys = some xs) (hspec : Ctr P f (V.one (Leaf.rep (sliceRep n ls')) :: xs) (R.one (V.one (Leaf.val r)))) : Je P ops o Γ H (some (D.val r)) H := by
  intro w0 A0 N Γ2 a w Q K hs hN hSt hK
  obtain ⟨E, hG⟩ := hSt
  obtain ⟨fn, hfn, hb, hn⟩ := hf
  have hmem : ∀ z ∈ args.toList, z ∈ o.op.operands := by
    intro z hz; rw [ho]; simp [Op.operands, Call.operands]; exact .inr (by simpa using hz)
  have hat := fun z (hz : z ∈ args.toList) d hd => (op_at hs hG (x := z) (hmem z hz) hd (d := d)).2
  have hxd := hat x (by rw [hargs]; simp) _ hx
  have hyd := argsD_spec (Γ := Γ) (E := E) (a := a) (w := w) ys xs (fun z hz d hd => hat z (by rw [hargs]; simp [hz]) d hd) hys
  have hrun : (execOp a.eval o).run P w = .ok (.enter f (args.map a.eval)) w := by
    have hn' : ¬ fn.name = "runtime.NumGoroutine" := by simpa using hn
    have hb' : ¬ fn.body = none := by intro e; rw [e] at hb; simp at hb
    simp [execOp, ho, resolve, Deferred.ofValue, invoke, callFunc, hfn, hn', hb', Act.eval]
  unfold Oper.wp
  rw [hrun, Oper.upon_enter]
  have hrep := part_rep hG hi hr h0 hle hxd
  rw [hls] at hrep
  have hfoot : ∀ k, (E.A k ∨ k = E.b i) → k < w.heap.size := by
    intro k hk
    rcases hk with hk | rfl
    · exact hG.foot k hk
    · obtain ⟨g1, _⟩ := hG.boxes i e hi
      exact HE.ok_lt g1 (HE.not_nil g1 (by omega))
  have hc := hspec w (a.eval x :: ys.map a.eval) (fun k => E.A k ∨ k = E.b i) hG.below.now hfoot ⟨hrep, hyd.mono (fun k hk => .inl hk)⟩
  rw [show (a.eval x :: ys.map a.eval).toArray = args.map a.eval from by
    apply Array.toList_inj.1; simp [hargs]] at hc
  refine Calls.mono hc ?_
  rintro e' w' ⟨v, rfl, hy, hbel⟩
  obtain ⟨rfl, hone⟩ := hy
  exact hK _ _ ⟨_, (hG.grow hbel).put (fun d hd => by cases hd; exact ⟨trivial, rfl, hone⟩) hN⟩

/-- A contract of a function that writes the row behind its first argument. -/
def CtrM (P : Program) (f t off n : Nat) (ls ls' : List Leaf) (xs : List V) (y : R) : Prop :=
  ∀ (w : World) (vs : List Value) (A : Nat → Prop) (b cap : Nat) (cs rest : List Value), Glob w → (∀ p ∈ tab, p.1 ≠ b) → (∀ k, A k → k < w.heap.size) → ¬ A b → w.heap[b]? = some (.cells (cs ++ rest).toArray t (0, 0)) → (cs ++ rest).length = cap → cap ≤ maxLen →
    denL A ls cs w → denVs A xs vs w →
    Calls P f (.slice (some ⟨b, off, none⟩) n (cap - off) :: vs).toArray w fun e w' => ∃ v, e = .returned v ∧ y.den (grown A w w') v w' ∧ Frm.Bel ⟨w, (· = b)⟩ w' ∧
      ∃ cs' rest', w'.heap[b]? = some (.cells (cs' ++ rest').toArray t (0, 0)) ∧ denL (grown A w w') ls' cs' w'

/-- What is to be shown at its return. -/
def PostM (P : Program) (fn : Func) (w0 : Frm) (A0 : Nat → Prop) (y : R) (t b : Nat) (ls' : List Leaf) : Exit → Act → World → Prop :=
  bodyPost P fn fun e w' => ∃ v, e = .returned v ∧ y.den (grown A0 w0.w w') v w' ∧ w0.Bel w' ∧ ∃ cs' rest', w'.heap[b]? = some (.cells (cs' ++ rest').toArray t (0, 0)) ∧ denL (grown A0 w0.w w') ls' cs' w'

theorem CtrM.of_body {f N t off n : Nat} {fn : Func} {c : Code} {ls ls' : List Leaf} {xs : List V} {y : R} (hf : P.funcs[f]? = some fn) (hb : fn.body = some c) (hN : fn.ntmps = N) (hl : xs.length + 1 ≤ N)
    (h : ∀ w0 A0 b, Tc P (PostM P fn w0 A0 y t b ls') w0 A0 N ((0, some (D.part 0 off n)) :: entryG 1 xs) [some ⟨t, ls, some 1, some b⟩] c) : CtrM P f t off n ls ls' xs y := by
  intro w vs A b cap cs rest hg hgb hA hAb hheap hlen hcap hd hvs
  have hlv := hvs.length
  have hdl := hd.length
  refine calls_of_wp hf hb ?_
  refine h ⟨w, (· = b)⟩ A b _ _ ⟨⟨fun _ => b, fun _ => cap, fun _ => false, A⟩, Frm.Bel.refl ⟨w, (· = b)⟩ hg hgb, hA, fun k hk => .inl hk, rfl, ?_, ?_, ?_, ?_⟩
  · simp; omega
  · intro s d hs
    by_cases hs0 : 0 = s
    · subst hs0
      rw [look_cons_self] at hs
      cases hs
      refine ⟨⟨_, rfl⟩, .slice (some ⟨b, off, none⟩) n (cap - off), ?_, rfl⟩
      rw [Array.getElem?_append_left (by simp)]
      simp
    · rw [look_cons_ne hs0] at hs
      obtain ⟨x, v, rfl, h1, h2, h3⟩ := entry_slots xs vs 1 s d hvs hs
      refine ⟨trivial, v, ?_, h3⟩
      have hlt := (List.getElem?_eq_some_iff.1 h2).1
      rw [Array.getElem?_append_left (by simp; omega)]
      obtain ⟨s', rfl⟩ : ∃ s', s = s' + 1 := ⟨s - 1, by omega⟩
      simpa using h2
  · intro i e he
    match i, he with
    | 0, he =>
      simp only [List.getElem?_cons_zero, Option.some.injEq] at he
      subst he
      refine ⟨?_, fun _ => ⟨⟨rfl, rfl⟩, hAb⟩⟩
      show HE.ok ⟨fun _ => b, fun _ => cap, fun _ => false, A⟩ 0 ⟨t, ls, some 1, some b⟩ w
      simp only [HE.ok, Bool.false_eq_true, if_false]
      exact ⟨hcap, cs, rest, hheap, by rw [Nat.mul_one]; exact hlen, hd⟩
    | i + 1, he => simp at he
  · intro i j e e' hi hj _ _ hij
    have h1 := (List.getElem?_eq_some_iff.1 hi).1
    have h2 := (List.getElem?_eq_some_iff.1 hj).1
    simp at h1 h2
    omega

/-- A call of a function that writes a part of an own row. -/
theorem Je_call_mut {f : Nat} {x : Operand} {args : Array Operand} {ys : List Operand} {tys : Array TypeId} {xs : List V} {y : R} {i off n t : Nat} {ls ls' : List Leaf} {p : Option Nat} (ho : o.op = .call { callee := .value (.func f), args := args, argTypes := tys }) (hf : FnOk P f)
    (hargs : args.toList = x :: ys) (hx : opD Γ x = some (D.part i off n)) (hi : H[i]? = some (some ⟨t, ls, some 1, p⟩)) (h0 : 0 < ls.length) (hys : argsD Γ ys = some xs) (hspec : CtrM P f t off n ls ls' xs y) :
    Je P ops o Γ H (some y.toD) (H.set i (some ⟨t, ls', some 1, p⟩)) := by
  intro w0 A0 N Γ2 a w Q K hs hN hSt hK
  obtain ⟨E, hG⟩ := hSt
  obtain ⟨fn, hfn, hb, hn⟩ := hf
  have hmem : ∀ z ∈ args.toList, z ∈ o.op.operands := by
    intro z hz; rw [ho]; simp [Op.operands, Call.operands]; exact .inr (by simpa using hz)
  have hat := fun z (hz : z ∈ args.toList) d hd => (op_at hs hG (x := z) (hmem z hz) hd (d := d)).2
  have hxd := hat x (by rw [hargs]; simp) _ hx
  have hyd := argsD_spec (Γ := Γ) (E := E) (a := a) (w := w) ys xs (fun z hz d hd => hat z (by rw [hargs]; simp [hz]) d hd) hys
  have hrun : (execOp a.eval o).run P w = .ok (.enter f (args.map a.eval)) w := by
    have hn' : ¬ fn.name = "runtime.NumGoroutine" := by simpa using hn
    have hb' : ¬ fn.body = none := by intro e; rw [e] at hb; simp at hb
    simp [execOp, ho, resolve, Deferred.ofValue, invoke, callFunc, hfn, hn', hb', Act.eval]
  unfold Oper.wp
  rw [hrun, Oper.upon_enter]
  obtain ⟨g1, g2⟩ := hG.boxes i _ hi
  obtain ⟨hnl, hm, cs, rest, hc, hlen, hd⟩ := HE.row1 g1 rfl h0
  obtain ⟨b1, b2⟩ := g2 hnl
  have hxd : a.eval x = if E.nil i then .slice none 0 0 else .slice (some ⟨E.b i, off, none⟩) n (E.cap i - off) := hxd
  simp only [hnl] at hxd
  have hne : ∀ p ∈ tab, p.1 ≠ E.b i := by
    intro q hq e''
    have h1 := (hG.below.glob q hq).1
    have h2 := hG.below.apart q hq
    rw [e''] at h1 h2
    cases hp : p with
    | none => rw [hp] at b1; have : w0.w.heap.size ≤ E.b i := b1; omega
    | some q' => rw [hp] at b1; obtain ⟨h5, h6⟩ := b1; rw [h5] at h2; exact h2 h6
  have hcall := hspec w (ys.map a.eval) E.A (E.b i) (E.cap i) cs rest hG.below.now hne hG.foot b2 hc hlen hm hd hyd
  rw [show (Value.slice (some ⟨E.b i, off, none⟩) n (E.cap i - off) :: ys.map a.eval).toArray = args.map a.eval from by
    apply Array.toList_inj.1; simp [hargs, hxd]] at hcall
  refine Calls.mono hcall ?_
  rintro e' w' ⟨v, rfl, hy, hbel, cs', rest', hc', hd'⟩
  have hsz : (cs' ++ rest').length = E.cap i := by
    obtain ⟨cs2, k1, k2⟩ := hbel.sizes (E.b i) _ _ _ rfl hc
    rw [hc'] at k1
    cases k1
    rw [← hlen]
    simpa using k2
  have hil : i < H.length := (List.getElem?_eq_some_iff.1 hi).1
  have hwlt : E.b i < w.heap.size := (Array.getElem?_eq_some_iff.1 hc).1
  have hk : ∀ k, k < w.heap.size → k ≠ E.b i → w'.heap[k]? = w.heap[k]? := fun k hk hne => hbel.block k hk hne
  have hkA : ∀ k, E.A k → w'.heap[k]? = w.heap[k]? := fun k hA => hk k (hG.foot k hA) (fun e => b2 (e ▸ hA))
  have hmA : ∀ k, E.A k → grown E.A w w' k := fun k hk => .inl hk
  have hgb : ∀ b, b < w.heap.size → ¬ E.A b → ¬ grown E.A w w' b := fun b h1 h2 h3 => by
    rcases h3 with h3 | h3
    · exact h2 h3
    · omega
  have hnoX : ∀ k, k < w0.w.heap.size → ¬ w0.X k → k ≠ E.b i := by
    intro k hk hx e''
    subst e''
    cases hp : p with
    | none => rw [hp] at b1; have : w0.w.heap.size ≤ E.b i := b1; omega
    | some q => rw [hp] at b1; obtain ⟨h5, h6⟩ := b1; rw [h5] at hx; exact hx h6
  refine hK _ _ ⟨{ E with A := grown E.A w w' }, Good.put (H := H.set i (some ⟨t, ls', some 1, p⟩)) ?_ (fun d hd => by cases hd; exact ⟨R.toD_okn, R.toD_den hy⟩) hN⟩
  have hs0 := hG.below.size
  refine ⟨⟨hbel.os.trans hG.below.os, hbel.tape.trans hG.below.tape, hbel.output.trans hG.below.output, Nat.le_trans hs0 hbel.size, fun k h1 h2 => ?_, fun k cs1 t1 m1 h1 h2 => ?_, hG.below.glob, hG.below.apart⟩, ?_, ?_, hG.defers, hG.size, ?_, ?_, ?_⟩
  · rw [hk k (Nat.lt_of_lt_of_le h1 hs0) (hnoX k h1 h2)]; exact hG.below.block k h1 h2
  · obtain ⟨cs2, k1, k2⟩ := hG.below.sizes k cs1 t1 m1 h1 h2
    by_cases hkb : k = E.b i
    · subst hkb
      rw [hc] at k1
      cases k1
      exact ⟨_, hc', by rw [← k2]; simp only [List.size_toArray]; rw [hsz, hlen]⟩
    · exact ⟨cs2, by rw [hk k (Array.getElem?_eq_some_iff.1 k1).1 hkb]; exact k1, k2⟩
  · intro k hk
    rcases hk with hk | hk
    · exact Nat.lt_of_lt_of_le (hG.foot k hk) hbel.size
    · exact hk.2
  · intro k hk
    rcases hk with hk | hk
    · exact hG.foot0 k hk
    · exact .inr (Nat.le_trans hs0 hk.1)
  · intro s d hs
    obtain ⟨ho', v, hv, hd⟩ := hG.slots s d hs
    exact ⟨ho'.mono_set, v, hv, D.den_grow hmA (D.den_keep hkA hd)⟩
  · intro j e he
    by_cases hj : i = j
    · subst hj
      rw [List.getElem?_set_self hil] at he
      simp only [Option.some.injEq] at he
      subst he
      refine ⟨?_, fun _ => ⟨b1, hgb _ hwlt b2⟩⟩
      simp only [HE.ok, hnl, Bool.false_eq_true, if_false]
      exact ⟨hm, cs', rest', hc', by rw [Nat.mul_one]; exact hsz, hd'⟩
    · rw [List.getElem?_set_ne hj] at he
      obtain ⟨k1, k2⟩ := hG.boxes j e he
      have hlt : E.nil j = false → E.b j < w.heap.size := fun hnj => HE.ok_lt k1 hnj
      have hsame : E.nil j = false → w'.heap[E.b j]? = w.heap[E.b j]? := fun hnj => hk _ (hlt hnj) (fun hb => hG.apart i j _ e hi he hnl hnj hj hb.symm)
      exact ⟨HE.ok_grow hmA (HE.ok_keep hkA hsame k1), fun hnj => ⟨(k2 hnj).1, hgb _ (hlt hnj) (k2 hnj).2⟩⟩
  · intro j1 j2 e1 e2 he1 he2 hn1 hn2 h12
    have back : ∀ (j : Nat) (e1 : HE), (H.set i (some ⟨t, ls', some 1, p⟩))[j]? = some (some e1) → ∃ e2, H[j]? = some (some e2) := by
      intro j e1 h1
      by_cases hj : i = j
      · subst hj; exact ⟨_, hi⟩
      · rw [List.getElem?_set_ne hj] at h1; exact ⟨e1, h1⟩
    obtain ⟨e1', g1⟩ := back j1 e1 he1
    obtain ⟨e2', g2⟩ := back j2 e2 he2
    exact hG.apart j1 j2 e1' e2' g1 g2 hn1 hn2 h12

theorem Tc_retM {Q : Exit → Act → World → Prop} {w0 : Frm} {A0 : Nat → Prop} {N t b : Nat} {fn : Func} {y : R} {r : ResultVar} {x : V} {ls' : List Leaf} (hQ : ∀ a w, PostM P fn w0 A0 y t b ls' .ret a w → Q .ret a w)
    (hr : fn.results = #[r]) (h : resOk P Γ H r x) (hy : R.one x = y) {ls : List Leaf} (hH : H[0]? = some (some ⟨t, ls, some 1, some b⟩)) (h0 : 0 < ls.length) (hls : ls = ls') : Tc P Q w0 A0 N Γ H .ret := by
  intro a w hSt
  obtain ⟨E, hG⟩ := hSt
  obtain ⟨v, hv, hd⟩ := resSem_run hG h
  subst hls
  obtain ⟨g1, g2⟩ := hG.boxes 0 _ hH
  obtain ⟨hn, hm, cs, rest, hc, hlen, hcd⟩ := HE.row1 g1 rfl h0
  obtain ⟨⟨hb, _⟩, _⟩ := g2 hn
  refine wp_ret (hQ a w ⟨hG.defers, v, ?_, v, rfl, ?_, hG.below, cs, rest, ?_, hcd.mono hG.foot_grown⟩)
  · rw [results_eq, hr]; simp [hv]
  · subst hy; exact V.den_mono hG.foot_grown hd
  · rw [← hb]; exact hc
end
end Rc
