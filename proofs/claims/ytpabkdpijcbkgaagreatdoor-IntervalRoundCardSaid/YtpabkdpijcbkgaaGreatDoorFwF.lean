/- Own rows: made, appended to, handed on; slices. -/
import Derived.Test.YtpabkdpijcbkgaaGreatDoorFwE
namespace Rc
open Go Go.RowKit

def keepD (i : Nat) : Option D → Option D
  | none => none
  | some d => match d.nm with
    | none => some d
    | some j => bif Nat.beq j i then none else some d
/-- What names own block i is forgotten. -/
def dropName (i : Nat) : Gam → Gam
  | [] => []
  | (s, d) :: g => (s, keepD i d) :: dropName i g
theorem look_drop (i : Nat) (g : Gam) (s : Nat) : look (dropName i g) s = keepD i (look g s) := by
  induction g with
  | nil => rfl
  | cons p g ih =>
    obtain ⟨k, d⟩ := p
    simp only [dropName, look_cons]
    cases Nat.beq k s
    · simpa using ih
    · rfl
theorem keepD_some {i : Nat} {x : Option D} {d : D} (h : keepD i x = some d) : x = some d ∧ d.nm ≠ some i := by
  unfold keepD at h
  cases x with
  | none => simp at h
  | some d' =>
    simp only at h
    cases hn : d'.nm with
    | none => rw [hn] at h; simp at h; subst h; exact ⟨rfl, by rw [hn]; simp⟩
    | some j =>
      rw [hn] at h
      simp only at h
      cases hb : Nat.beq j i with
      | true => rw [hb] at h; simp at h
      | false =>
        rw [hb] at h; simp at h; subst h
        refine ⟨rfl, ?_⟩
        rw [hn]
        intro e
        cases e
        simp at hb
theorem D.den_other {E E' : Env} {d : D} {v : Value} {w : World} (hA : E'.A = E.A) (h : ∀ i, d.nm = some i → E'.b i = E.b i ∧ E'.cap i = E.cap i ∧ E'.nil i = E.nil i) (hd : d.den E v w) : d.den E' v w := by
  rcases d with x | xs | ⟨i, o⟩ | ⟨i, n⟩
  · simp only [D.den, hA] at hd ⊢; exact hd
  · simp only [D.den, hA] at hd ⊢; exact hd
  · obtain ⟨h1, _, _⟩ := h i rfl
    simp only [D.den, h1] at hd ⊢; exact hd
  · obtain ⟨h1, h2, h3⟩ := h i rfl
    simp only [D.den, h1, h2, h3] at hd ⊢; exact hd

section
variable {w0 : Frm} {A0 : Nat → Prop} {N : Nat} {Γ : Gam} {H : Hp} {E : Env} {a : Act} {w : World}

theorem getElem?_set' {α : Type} (l : List α) (i j : Nat) (x : α) : (l.set i x)[j]? = if i = j then (if i < l.length then some x else none) else l[j]? := by
  by_cases h : i = j
  · subst h; simp [List.getElem?_set]
  · simp [h]

/-- Own block i is given up. -/
theorem Good.free (h : Good w0 A0 N Γ H E a w) (i : Nat) : Good w0 A0 N (dropName i Γ) (H.set i none) E a w := by
  have hlen : (H.set i none).length = H.length := by simp
  have back : ∀ (j : Nat) (e : HE), (H.set i none)[j]? = some (some e) → H[j]? = some (some e) := by
    intro j e hj
    rw [getElem?_set'] at hj
    split at hj
    · split at hj <;> simp at hj
    · exact hj
  refine ⟨h.below, h.foot, h.foot0, h.defers, h.size, ?_, fun j e hj => h.boxes j e (back j e hj), fun j1 j2 e1 e2 h1 h2 => h.apart j1 j2 e1 e2 (back _ _ h1) (back _ _ h2)⟩
  intro s d hs
  rw [look_drop] at hs
  obtain ⟨h1, h2⟩ := keepD_some hs
  obtain ⟨ho, v, hv, hd⟩ := h.slots s d h1
  refine ⟨D.okn_mono ho (fun j e hj he => ⟨e, ?_⟩), v, hv, hd⟩
  rw [List.getElem?_set_ne (fun hij => h2 (by rw [hij]; exact hj))]; exact he

/-- A free name is given to a block. -/
theorem Good.bind (h : Good w0 A0 N Γ H E a w) {i : Nat} (hi : H[i]? = some none) (hno : ∀ s d, look Γ s = some d → d.nm ≠ some i) {b cap : Nat} {nl : Bool} {e : HE} {E' : Env}
    (hE : E' = ⟨fun j => if j = i then b else E.b j, fun j => if j = i then cap else E.cap j, fun j => if j = i then nl else E.nil j, E.A⟩)
    (hok : e.ok E' i w) (hb : nl = false → w0.mine e.pin b ∧ ¬ E.A b ∧ ∀ j e', H[j]? = some (some e') → E.nil j = false → E.b j ≠ b) :
    Good w0 A0 N Γ (H.set i (some e)) E' a w := by
  subst hE
  have hil : i < H.length := (List.getElem?_eq_some_iff.1 hi).1
  have hlen : (H.set i (some e)).length = H.length := by simp
  have back : ∀ (j : Nat) (e1 : HE), j ≠ i → (H.set i (some e))[j]? = some (some e1) → H[j]? = some (some e1) := by
    intro j e1 hj h1
    rw [getElem?_set', if_neg (fun h => hj h.symm)] at h1
    exact h1
  have same : ∀ (j : Nat) (e1 : HE), j ≠ i → e1.ok E j w → e1.ok ⟨fun j => if j = i then b else E.b j, fun j => if j = i then cap else E.cap j, fun j => if j = i then nl else E.nil j, E.A⟩ j w := by
    intro j e1 hj h1
    unfold HE.ok at h1 ⊢
    simp only [if_neg hj]
    exact h1
  refine ⟨h.below, h.foot, h.foot0, h.defers, h.size, ?_, ?_, ?_⟩
  · intro s d hs
    obtain ⟨ho, v, hv, hd⟩ := h.slots s d hs
    refine ⟨ho.mono_set, v, hv, D.den_other (E := E) rfl (fun j hj => ?_) hd⟩
    have : j ≠ i := fun e => hno s d hs (by rw [hj, e])
    simp [this]
  · intro j e1 h1
    by_cases hj : j = i
    · subst hj
      rw [List.getElem?_set_self hil] at h1
      simp only [Option.some.injEq] at h1
      subst h1
      refine ⟨hok, fun hn => ?_⟩
      simp only [if_true] at hn ⊢
      exact ⟨(hb hn).1, (hb hn).2.1⟩
    · obtain ⟨g1, g2⟩ := h.boxes j e1 (back j e1 hj h1)
      refine ⟨same j e1 hj g1, fun hn => ?_⟩
      simp only [if_neg hj] at hn ⊢
      exact g2 hn
  · intro j1 j2 e1 e2 h1 h2 hn1 hn2 hne
    by_cases hj1 : j1 = i
    · have hj2 : j2 ≠ i := fun e => hne (hj1.trans e.symm)
      simp only [if_neg hj2] at hn2 ⊢
      simp only [if_pos hj1] at hn1 ⊢
      exact fun e => (hb hn1).2.2 j2 e2 (back j2 e2 hj2 h2) hn2 e.symm
    · by_cases hj2 : j2 = i
      · simp only [if_neg hj1] at hn1 ⊢
        simp only [if_pos hj2] at hn2 ⊢
        exact (hb hn2).2.2 j1 e1 (back j1 e1 hj1 h1) hn1
      · simp only [if_neg hj1, if_neg hj2] at hn1 hn2 ⊢
        exact h.apart j1 j2 e1 e2 (back j1 e1 hj1 h1) (back j2 e2 hj2 h2) hn1 hn2 hne

/-- A new own block under a free name. -/
theorem Good.allocR (h : Good w0 A0 N Γ H E a w) {i t : Nat} {ls : List Leaf} {cs : List Value} (hi : H[i]? = some none) (hc : denL E.A ls cs w) :
    ∃ E', Good w0 A0 N Γ (H.set i (some ⟨t, ls, none, none⟩)) E' a (w.alloc (.cells cs.toArray t)) ∧ E'.b i = w.heap.size ∧ E'.A = E.A := by
  have hb := below_alloc w (.cells cs.toArray t)
  have hk : ∀ k, E.A k → (w.alloc (.cells cs.toArray t)).heap[k]? = w.heap[k]? := fun k hk => hb.block k (h.foot k hk)
  have hsz : (w.alloc (.cells cs.toArray t)).heap.size = w.heap.size + 1 := by simp
  have hnew : (w.alloc (.cells cs.toArray t)).heap[w.heap.size]? = some (.cells cs.toArray t (0, 0)) := heap_alloc_new w _
  have hgw : Good w0 A0 N Γ H E a (w.alloc (.cells cs.toArray t)) :=
    ⟨h.below.then (hb.mono h.below.size), fun k hk => by have := h.foot k hk; omega, h.foot0, h.defers, h.size,
      fun s d hs => let ⟨ho', v, hv, hd⟩ := h.slots s d hs; ⟨ho', v, hv, D.den_keep hk hd⟩,
      fun j e' hj => ⟨HE.ok_keep hk (fun hn => hb.block _ (HE.ok_lt (h.boxes j e' hj).1 hn)) (h.boxes j e' hj).1, (h.boxes j e' hj).2⟩, h.apart⟩
  have hbind := hgw.bind (i := i) (b := w.heap.size) (cap := 0) (nl := false) (e := ⟨t, ls, none, none⟩) hi
    (fun s d hs hn => by
      obtain ⟨ho, _⟩ := hgw.slots s d hs
      obtain ⟨e, he⟩ := D.okn_iff.1 ho i hn
      rw [hi] at he; simp at he) rfl
    (by simp only [HE.ok, if_true]; exact ⟨trivial, cs, hnew, hc.keep hk⟩)
    (fun _ => ⟨h.below.size, fun hA => by have := h.foot _ hA; omega, fun j e' hj hn' hbj => by
      have := HE.ok_lt (h.boxes j e' hj).1 hn'
      omega⟩)
  exact ⟨_, hbind, by simp, rfl⟩

/-- More memory counts as memory of what is represented. -/
theorem Good.widen (h : Good w0 A0 N Γ H E a w) (A' : Nat → Prop) (hA : ∀ k, E.A k → A' k) (h1 : ∀ k, A' k → k < w.heap.size) (h2 : ∀ k, A' k → A0 k ∨ w0.w.heap.size ≤ k)
    (h3 : ∀ i e, H[i]? = some (some e) → E.nil i = false → ¬ A' (E.b i)) : Good w0 A0 N Γ H { E with A := A' } a w :=
  ⟨h.below, h1, h2, h.defers, h.size, fun s d hs => let ⟨ho, v, hv, hd⟩ := h.slots s d hs; ⟨ho, v, hv, D.den_grow hA hd⟩,
    fun i e he => ⟨HE.ok_grow hA (h.boxes i e he).1, fun hn => ⟨((h.boxes i e he).2 hn).1, h3 i e he hn⟩⟩, h.apart⟩

/-- An own row is handed on: it is a slice that is represented, and no more written. -/
theorem Good.share (h : Good w0 A0 N Γ H E a w) {s i n sz : Nat} {e : HE} (hs : look Γ s = some (D.own i n)) (hi : H[i]? = some (some e)) (hr : e.row = some sz) (hl : e.ls.length = n * sz) (hsz : 0 < sz) (hp : e.pin = none) :
    St w0 A0 N ((s, some (D.rep (sliceRep n e.ls))) :: dropName i Γ) (H.set i none) a w := by
  obtain ⟨_, v, hv, hd⟩ := h.slots s _ hs
  have hd : v = if E.nil i then .slice none 0 0 else .slice (some ⟨E.b i, 0, none⟩) n (E.cap i) := hd
  obtain ⟨g1, g2⟩ := h.boxes i e hi
  have hf := h.free i
  unfold HE.ok at g1
  rw [hr] at g1
  have fin : ∀ (E' : Env) (hg : Good w0 A0 N (dropName i Γ) (H.set i none) E' a w), (sliceRep n e.ls).P E'.A v w → St w0 A0 N ((s, some (D.rep (sliceRep n e.ls))) :: dropName i Γ) (H.set i none) a w := by
    intro E' hg hP
    refine ⟨E', hg.below, hg.foot, hg.foot0, hg.defers, hg.size, ?_, hg.boxes, hg.apart⟩
    intro s' d hs'
    by_cases e' : s = s'
    · subst e'
      rw [look_cons_self] at hs'
      cases hs'
      exact ⟨trivial, v, hv, hP⟩
    · rw [look_cons_ne e'] at hs'
      exact hg.slots s' d hs'
  cases hn : E.nil i
  · simp only [hn] at g1 hd
    obtain ⟨hm, cs, rest, hc, hlen, hcd⟩ := g1
    obtain ⟨b1, b2⟩ := g2 hn
    rw [hp] at b1
    have hlt : E.b i < w.heap.size := (Array.getElem?_eq_some_iff.1 hc).1
    have hlc := hcd.length
    have hw := hf.widen (fun k => E.A k ∨ k = E.b i) (fun k hk => .inl hk) (fun k hk => by rcases hk with hk | rfl; exact h.foot k hk; exact hlt)
      (fun k hk => by rcases hk with hk | rfl; exact h.foot0 k hk; exact .inr b1)
      (fun j e' hj hnj hA => by
        rw [getElem?_set'] at hj
        split at hj
        · split at hj <;> simp at hj
        · rename_i hij
          rcases hA with hA | hA
          · exact ((h.boxes j e' hj).2 hnj).2 hA
          · exact h.apart i j e e' hi hj hn hnj hij hA.symm)
    refine fin _ hw ⟨some ⟨E.b i, 0, none⟩, E.cap i, by simpa using hd, ?_, hm, fun h => by simp at h, fun ad had => ?_⟩
    · have : n * sz ≤ E.cap i * sz := by rw [← hl, ← hlen, ← hlc]; simp
      exact Nat.le_of_mul_le_mul_right this hsz
    · cases had
      refine ⟨fun _ => rfl, fun j l hj => ⟨.inr rfl, ?_⟩⟩
      obtain ⟨u, hu, hud⟩ := hcd.get hj
      have hju := (List.getElem?_eq_some_iff.1 hu).1
      refine ⟨u, ?_, Leaf.den_mono (fun k hk => .inl hk) hud⟩
      have := load_cell (o := j) hc (v := u) (by rw [List.getElem?_append_left hju]; exact hu)
      simpa using this
  · simp only [hn, if_true] at g1
    obtain ⟨g3, _⟩ := g1
    have hn0 : n = 0 := by
      rw [g3] at hl
      rcases Nat.mul_eq_zero.1 hl.symm with h | h
      · exact h
      · omega
    subst hn0
    refine fin E hf ?_
    rw [g3, if_pos hn] at *
    subst hd
    exact nil_slice E.A w
end

section
variable {P : Program} {ops : Array Oper} {Q : Exit → Act → World → Prop} {w0 : Frm} {A0 : Nat → Prop} {N : Nat} {Γ : Gam} {H : Hp}
theorem Tc_share {c : Code} (s : Nat) {i n sz : Nat} {e : HE} (hs : look Γ s = some (D.own i n)) (hi : H[i]? = some (some e)) (hr : e.row = some sz) (hl : e.ls.length = n * sz) (hsz : 0 < sz)
    (h : Tc P Q w0 A0 N ((s, some (D.rep (sliceRep n e.ls))) :: dropName i Γ) (H.set i none) c) (hp : e.pin = none := by rfl) : Tc P Q w0 A0 N Γ H c :=
  fun a w hSt => let ⟨_, g⟩ := hSt; h a w (g.share hs hi hr hl hsz hp)
theorem Tl_share {l : List Oper} (s : Nat) {i n sz : Nat} {e : HE} (hs : look Γ s = some (D.own i n)) (hi : H[i]? = some (some e)) (hr : e.row = some sz) (hl : e.ls.length = n * sz) (hsz : 0 < sz)
    (h : Tl P ops Q w0 A0 N ((s, some (D.rep (sliceRep n e.ls))) :: dropName i Γ) (H.set i none) l) (hp : e.pin = none := by rfl) : Tl P ops Q w0 A0 N Γ H l :=
  fun a w hSt => let ⟨_, g⟩ := hSt; h a w (g.share hs hi hr hl hsz hp)
end

section
variable {P : Program} {ops : Array Oper} {o : Oper} {Γ : Gam} {H : Hp}
theorem Je_allocR {t i : Nat} {zs : List Leaf} (ho : o.op = .alloc t) (hz : TyZero P t zs) (hi : H[i]? = some none) : Je P ops o Γ H (some (D.ptr i 0)) (H.set i (some ⟨t, zs, none, none⟩)) := by
  intro w0 A0 N Γ2 a w Q K hs hN hSt hK
  obtain ⟨E, hG⟩ := hSt
  obtain ⟨z, hzr, hzd⟩ := hz.run w E.A
  obtain ⟨E', hG', hb, hA⟩ := hG.allocR (t := t) hi hzd
  rw [show z.cells.toList.toArray = z.cells from by simp] at hG'
  refine wp_valueW (v := .pointer (some ⟨w.heap.size, 0, none⟩)) (w' := w.alloc (.cells z.cells t)) ?_ (hK _ _ ⟨E', hG'.put (fun d hd => ?_) hN⟩)
  · simp [execOp, ho, Instr.alloc, newVar, newRow, hzr]
  · cases hd
    exact ⟨⟨_, List.getElem?_set_self (List.getElem?_eq_some_iff.1 hi).1⟩, by show _ = _; rw [hb]⟩
theorem Je_boxR {t i : Nat} {x : Operand} {y : V} (ho : o.op = .box t x) (hx : opD Γ x = some (D.v y)) (hi : H[i]? = some none) : Je P ops o Γ H (some (D.ptr i 0)) (H.set i (some ⟨t, y.leaves, none, none⟩)) := by
  intro w0 A0 N Γ2 a w Q K hs hN hSt hK
  obtain ⟨E, hG⟩ := hSt
  obtain ⟨_, h2⟩ := op_at hs hG (x := x) (by rw [ho]; simp [Op.operands]) hx
  have hc := V.den_cells (show y.den E.A (a.eval x) w from h2)
  obtain ⟨E', hG', hb, hA⟩ := hG.allocR (t := t) hi hc
  rw [show (a.eval x).cells.toList.toArray = (a.eval x).cells from by simp] at hG'
  refine wp_valueW (v := .pointer (some ⟨w.heap.size, 0, none⟩)) (w' := w.alloc (.cells (a.eval x).cells t)) ?_ (hK _ _ ⟨E', hG'.put (fun d hd => ?_) hN⟩)
  · simp [execOp, ho, Instr.box, newVar, newRow]
  · cases hd
    exact ⟨⟨_, List.getElem?_set_self (List.getElem?_eq_some_iff.1 hi).1⟩, by show _ = _; rw [hb]⟩
end
end Rc
