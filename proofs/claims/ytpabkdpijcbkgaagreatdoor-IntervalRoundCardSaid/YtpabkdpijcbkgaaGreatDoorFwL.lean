/- What is known of a bool is put in; loops unrolled; arrays; min, max. -/
import Derived.Test.YtpabkdpijcbkgaaGreatDoorFwK
import Derived.LoopN
set_option linter.unusedSimpArgs false
namespace Rc
open Go Go.RowKit

section
variable {P : Program} {ops : Array Oper} {X : List Nat} {Q : Exit → Act → World → Prop} {w0 : Frm} {A0 : Nat → Prop} {N : Nat} {Γ : Gam} {H : Hp}

theorem Tl_is {dst : Option Nat} {b : Bool} {l : List Oper} (b' : Bool) (h : b = b') (hr : Tl P ops Q w0 A0 N (putG Γ dst (some (D.bool b'))) H l) : Tl P ops Q w0 A0 N (putG Γ dst (some (D.bool b))) H l := h ▸ hr
theorem DK_is {dst : Option Nat} {tl : List (Option Nat)} {n : Nat} {b : Bool} {l : List Oper} {K : Gam → Hp → Prop} (b' : Bool) (h : b = b') (hr : DKn P ops tl X n l (putG Γ dst (some (D.bool b'))) H K) : DKn P ops tl X n l (putG Γ dst (some (D.bool b))) H K := h ▸ hr
theorem Tl_two {dst : Option Nat} {b : Bool} {l : List Oper} (hf : b = false → Tl P ops Q w0 A0 N (putG Γ dst (some (D.bool false))) H l) (ht : b = true → Tl P ops Q w0 A0 N (putG Γ dst (some (D.bool true))) H l) :
    Tl P ops Q w0 A0 N (putG Γ dst (some (D.bool b))) H l := by
  cases b
  · exact hf rfl
  · exact ht rfl
theorem DK_two {dst : Option Nat} {tl : List (Option Nat)} {n : Nat} {b : Bool} {l : List Oper} {K : Gam → Hp → Prop} (hf : b = false → DKn P ops tl X n l (putG Γ dst (some (D.bool false))) H K) (ht : b = true → DKn P ops tl X n l (putG Γ dst (some (D.bool true))) H K) :
    DKn P ops tl X n l (putG Γ dst (some (D.bool b))) H K := by
  cases b
  · exact hf rfl
  · exact ht rfl
/-- The same, the number being known by another term. -/
theorem Tl_eq {dst : Option Nat} {d : D} {l : List Oper} (d' : D) (h : d = d') (hr : Tl P ops Q w0 A0 N (putG Γ dst (some d')) H l) : Tl P ops Q w0 A0 N (putG Γ dst (some d)) H l := h ▸ hr
theorem DK_eq {dst : Option Nat} {tl : List (Option Nat)} {n : Nat} {d : D} {l : List Oper} {K : Gam → Hp → Prop} (d' : D) (h : d = d') (hr : DKn P ops tl X n l (putG Γ dst (some d')) H K) : DKn P ops tl X n l (putG Γ dst (some d)) H K := h ▸ hr

/-- The state said anew, in plain terms. -/
theorem Tc_norm {c : Code} (Γ' : Gam) (H' : Hp) (hk : known Γ Γ') (hH : H = H') (h : Tc P Q w0 A0 N Γ' H' c) : Tc P Q w0 A0 N Γ H c :=
  fun a w hs => h a w (by subst hH; exact hs.weaken (sub_of_known hk))
/-- An own block that is no more needed. -/
theorem Tc_free {c : Code} (i : Nat) (h : Tc P Q w0 A0 N (dropName i Γ) (H.set i none) c) : Tc P Q w0 A0 N Γ H c :=
  fun a w hs => let ⟨E, g⟩ := hs; h a w ⟨E, g.free i⟩
/-- A loop of so many rounds, unrolled. -/
def Rn (P : Program) (Q : Exit → Act → World → Prop) (w0 : Frm) (A0 : Nat → Prop) (N : Nat) (Γ : Gam) (H : Hp) (n : Nat) (c : Code) : Prop := ∀ a w, St w0 A0 N Γ H a w → Code.rounds P c Q n a w
theorem Tc_unroll {c : Code} (n : Nat) (h : Rn P Q w0 A0 N Γ H n c) : Tc P Q w0 A0 N Γ H (.loop c) := fun a w hs => wp_loop_rounds n (h a w hs)
theorem Rn_succ {c : Code} {n : Nat} (h : Tc P (Exit.then (Code.rounds P c Q n) Q) w0 A0 N Γ H c) : Rn P Q w0 A0 N Γ H (n + 1) c := h
theorem At_rn {c : Code} {n : Nat} (h : Rn P Q w0 A0 N Γ H n c) : At (Exit.then (Code.rounds P c Q n) Q) w0 A0 N Γ H .normal := h

/-- An own box is handed on: a pointer to memory that is represented, and no more written. -/
theorem Good.shareBox {E : Env} {a : Act} {w : World} (h : Good w0 A0 N Γ H E a w) {s i : Nat} {e : HE} (hs : look Γ s = some (D.ptr i 0)) (hi : H[i]? = some (some e)) (hr : e.row = none) (hp : e.pin = none) :
    St w0 A0 N ((s, some (D.rep (ptrRep e.ls))) :: dropName i Γ) (H.set i none) a w := by
  obtain ⟨_, v, hv, hd⟩ := h.slots s _ hs
  have hd : v = .pointer (some ⟨E.b i, 0, none⟩) := hd
  obtain ⟨g1, g2⟩ := h.boxes i e hi
  obtain ⟨hn, cs, hc, hcd⟩ := HE.box g1 hr
  obtain ⟨b1, b2⟩ := g2 hn
  rw [hp] at b1
  have hf := h.free i
  have hlt : E.b i < w.heap.size := (Array.getElem?_eq_some_iff.1 hc).1
  have hw := hf.widen (fun k => E.A k ∨ k = E.b i) (fun k hk => .inl hk) (fun k hk => by rcases hk with hk | rfl; exact h.foot k hk; exact hlt)
    (fun k hk => by rcases hk with hk | rfl; exact h.foot0 k hk; exact .inr b1)
    (fun j e' hj hnj hA => by
      rw [getElem?_set'] at hj
      split at hj
      · split at hj <;> simp at hj
      · rename_i hij
        rcases hA with hA | hA
        · exact ((h.boxes j e' hj).2 hnj).2 hA
        · exact h.apart i j e e' hi hj hn hnj hij hA.symm)
  refine ⟨_, hw.below, hw.foot, hw.foot0, hw.defers, hw.size, ?_, hw.boxes, hw.apart⟩
  intro s' d hs'
  by_cases e' : s = s'
  · subst e'
    rw [look_cons_self] at hs'
    cases hs'
    refine ⟨trivial, v, hv, ⟨E.b i, 0, none⟩, hd, rfl, fun j l hj => ⟨.inr rfl, ?_⟩⟩
    obtain ⟨u, hu, hud⟩ := hcd.get hj
    refine ⟨u, ?_, Leaf.den_mono (fun k hk => .inl hk) hud⟩
    have := load_cell (o := j) hc (v := u) hu
    simpa using this
  · rw [look_cons_ne e'] at hs'
    exact hw.slots s' d hs'
theorem Tl_freeze {l : List Oper} (s : Nat) {i : Nat} {e : HE} (hs : look Γ s = some (D.ptr i 0)) (hi : H[i]? = some (some e)) (hr : e.row = none)
    (h : Tl P ops Q w0 A0 N ((s, some (D.rep (ptrRep e.ls))) :: dropName i Γ) (H.set i none) l) (hp : e.pin = none := by rfl) : Tl P ops Q w0 A0 N Γ H l :=
  fun a w hSt => let ⟨_, g⟩ := hSt; h a w (g.shareBox hs hi hr hp)
end

section
variable {P : Program} {ops : Array Oper} {X : List Nat} {o : Oper} {Γ : Gam} {H : Hp}
theorem Jq_index_arr {x y : Operand} {t u i off n sz : Nat} {k : IntKind} {j : Nat} {b : Bool} (ho : o.op = .indexAddr t x y) (hx : opD Γ x = some (D.ptr i off)) (hy : opD Γ y = some (D.val (.int k j)))
    (ht : P.underlying t = some (.array n u)) (hu : TyIs P u b sz) (hj : j < n) {off' : Nat} (hoff : off + j * sz = off') : Jq P ops X o Γ H (D.ptr i off') := by
  intro w0 A0 N Γ2 H2 E a w hs hX hG
  obtain ⟨h1, h2⟩ := op_at hs hG (x := x) (by rw [ho]; simp [Op.operands]) hx
  have h2 : a.eval x = .pointer (some ⟨E.b i, off, none⟩) := h2
  have e2 := op_val hs hG (x := y) (by rw [ho]; simp [Op.operands]) hy
  subst hoff
  refine ⟨h1, .pointer (some ⟨E.b i, off + j * sz, none⟩), ?_, rfl⟩
  simp [execOp, ho, h2, e2, Instr.indexAt, Instr.sureAddr, asIntOf, run_underlying ht, hj, hu.sizeOf, cell_add]
theorem Jq_index_arr_ref {x y : Operand} {t u n sz : Nat} {k : IntKind} {j : Nat} {b : Bool} {ls ls' : List Leaf} (ho : o.op = .indexAddr t x y) (hx : opD Γ x = some (D.rep (ptrRep ls))) (hy : opD Γ y = some (D.val (.int k j)))
    (ht : P.underlying t = some (.array n u)) (hu : TyIs P u b sz) (hj : j < n) (hls : (ls.drop (j * sz)).take sz = ls') : Jq P ops X o Γ H (D.rep (ptrRep ls')) := by
  intro w0 A0 N Γ2 H2 E a w hs hX hG
  obtain ⟨h1, ad, h2, h3, h4⟩ := op_at hs hG (x := x) (by rw [ho]; simp [Op.operands]) hx
  obtain ⟨bl, off, sp⟩ := ad
  simp only at h3 h4
  subst h3
  have e2 := op_val hs hG (x := y) (by rw [ho]; simp [Op.operands]) hy
  refine ⟨trivial, .pointer (some ⟨bl, off + j * sz, none⟩), ?_, ⟨bl, off + j * sz, none⟩, rfl, rfl, fun i l hil => ?_⟩
  · simp [execOp, ho, h2, e2, Instr.indexAt, Instr.sureAddr, asIntOf, run_underlying ht, hj, hu.sizeOf, cell_add]
  · rw [← hls, List.getElem?_take] at hil
    split at hil
    · rw [List.getElem?_drop] at hil
      have := h4 _ l hil
      simpa [Nat.add_assoc] using this
    · simp at hil
/-- x[lo:], x an array. -/
theorem Jq_slice_arr_lo {x y : Operand} {t u n sz lo : Nat} {k : IntKind} {b : Bool} {ls ls' : List Leaf} (ho : o.op = .slice t x (some y) none none) (hx : opD Γ x = some (D.rep (ptrRep ls))) (hy : opD Γ y = some (D.val (.int k lo)))
    (ht : P.underlying t = some (.array n u)) (hu : TyIs P u b sz) (h2 : lo < n) (hm : n ≤ maxLen) {m : Nat} (hmn : n - lo = m) (hls : ls.drop (lo * sz) = ls') : Jq P ops X o Γ H (D.rep (sliceRep m ls')) := by
  intro w0 A0 N Γ2 H2 E a w hs hX hG
  obtain ⟨h1, ad, h2', h3, h4⟩ := op_at hs hG (x := x) (by rw [ho]; simp [Op.operands]) hx
  obtain ⟨bl, off, sp⟩ := ad
  simp only at h3 h4
  subst h3
  have e2 := op_val hs hG (x := y) (by rw [ho]; simp [Op.operands]) hy
  subst hmn
  have c1 : ¬ n = lo := by omega
  have c2 : lo ≤ n := by omega
  refine ⟨trivial, .slice (some ⟨bl, off + lo * sz, none⟩) (n - lo) (n - lo), ?_, some ⟨bl, off + lo * sz, none⟩, n - lo, rfl, Nat.le_refl _, by omega, fun h => by simp at h, fun ad had => ?_⟩
  · simp [execOp, ho, h2', e2, Instr.sliceAt, Instr.sureAddr, run_underlying ht, Instr.sliceBounds, Instr.sliceBound, asIntOf, hu.sizeOf, c1, c2, cell_add]
  · cases had
    refine ⟨fun _ => rfl, fun i l hil => ?_⟩
    rw [← hls, List.getElem?_drop] at hil
    have := h4 _ l hil
    simpa [Nat.add_assoc] using this
theorem Jq_slice_arr_all {x : Operand} {t u n sz : Nat} {b : Bool} {ls : List Leaf} (ho : o.op = .slice t x none none none) (hx : opD Γ x = some (D.rep (ptrRep ls)))
    (ht : P.underlying t = some (.array n u)) (hu : TyIs P u b sz) (h2 : 0 < n) (hm : n ≤ maxLen) : Jq P ops X o Γ H (D.rep (sliceRep n ls)) := by
  intro w0 A0 N Γ2 H2 E a w hs hX hG
  obtain ⟨h1, ad, h2', h3, h4⟩ := op_at hs hG (x := x) (by rw [ho]; simp [Op.operands]) hx
  obtain ⟨bl, off, sp⟩ := ad
  simp only at h3 h4
  subst h3
  have c1 : ¬ n = 0 := by omega
  refine ⟨trivial, .slice (some ⟨bl, off, none⟩) n n, ?_, some ⟨bl, off, none⟩, n, rfl, Nat.le_refl _, hm, fun h => by simp at h, fun ad had => ?_⟩
  · simp [execOp, ho, h2', Instr.sliceAt, Instr.sureAddr, run_underlying ht, Instr.sliceBounds, hu.sizeOf, c1, cell_add]
  · cases had
    exact ⟨fun _ => rfl, fun i l hil => h4 _ l hil⟩
theorem Jq_max {x y : Operand} {k : IntKind} {m n r : Int} {tys : Array TypeId} (ho : o.op = .call { callee := .builtin .max, args := #[x, y], argTypes := tys }) (hx : opD Γ x = some (D.val (.int k m))) (hy : opD Γ y = some (D.val (.int k n)))
    (hr : (if m < n then n else m) = r) : Jq P ops X o Γ H (D.val (.int k r)) := by
  intro w0 A0 N Γ2 H2 E a w hs hX hG
  have e1 := op_val hs hG (x := x) (by rw [ho]; simp [Op.operands, Call.operands]) hx
  have e2 := op_val hs hG (x := y) (by rw [ho]; simp [Op.operands, Call.operands]) hy
  subst hr
  refine ⟨trivial, .int k (if m < n then n else m), ?_, rfl, rfl⟩
  simp [execOp, ho, resolve, invoke, builtin, Builtin.max_, Builtin.max2, e1, e2]
theorem Jq_min {x y : Operand} {k : IntKind} {m n r : Int} {tys : Array TypeId} (ho : o.op = .call { callee := .builtin .min, args := #[x, y], argTypes := tys }) (hx : opD Γ x = some (D.val (.int k m))) (hy : opD Γ y = some (D.val (.int k n)))
    (hr : (if n < m then n else m) = r) : Jq P ops X o Γ H (D.val (.int k r)) := by
  intro w0 A0 N Γ2 H2 E a w hs hX hG
  have e1 := op_val hs hG (x := x) (by rw [ho]; simp [Op.operands, Call.operands]) hx
  have e2 := op_val hs hG (x := y) (by rw [ho]; simp [Op.operands, Call.operands]) hy
  subst hr
  refine ⟨trivial, .int k (if n < m then n else m), ?_, rfl, rfl⟩
  simp [execOp, ho, resolve, invoke, builtin, Builtin.min_, Builtin.min2, e1, e2]
/-- An array literal. -/
theorem Jq_buildArr {t u n sz : Nat} {b : Bool} {parts : Array (Nat × Operand)} {zs ls : List Leaf} {lp : List (Nat × List Leaf)} (ho : o.op = .build t parts) (hz : TyZero P t zs) (hp : partsD Γ parts.toList = some lp)
    (ht : P.underlying t = some (.array n u)) (hu : TyIs P u b sz) (hf : fillL (fun i => some (i * sz, sz)) zs lp = some ls) : Jq P ops X o Γ H (D.agg ls) := by
  intro w0 A0 N Γ2 H2 E a w hs hX hG
  obtain ⟨z, hzr, hzd⟩ := hz.run w E.A
  obtain ⟨h1, h2⟩ := partsD_spec parts.toList lp (build_den (.inl ho) hs hG) hp
  obtain ⟨cs, hc1, hc2⟩ := fill_den (A := E.A) (w := w) (places := fun i => some (i * sz, sz)) (parts.toList.map fun p => (p.1, a.eval p.2)) lp z.cells zs ls hzd h1 h2 hf
  refine ⟨trivial, .agg cs, ?_, cs.toList, by simp, hc2⟩
  simp only [execOp, ho, Instr.build]
  simp [hzr, run_underlying ht, hu.sizeOf, hc1]
end
end Rc
