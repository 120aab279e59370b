/- Judgements of the quiet operations. -/
import Derived.Test.YtpabkdpijcbkgaaGreatDoorFwB
namespace Rc
open Go Go.RowKit
/-! ## Representations -/

theorem cell_of_keep {A : Nat → Prop} {w w' : World} (hk : ∀ k, A k → w'.heap[k]? = w.heap[k]?) {b : Nat} (hb : A b) (o : Nat) : w'.cell? ⟨b, o, none⟩ = w.cell? ⟨b, o, none⟩ :=
  World.cell?_of_block (hk b hb)

/-- A slice of n elements whose cells hold ls. -/
def sliceRep (n : Nat) (ls : List Leaf) : Rep where
  P A v w := ∃ a cap, v = .slice a n cap ∧ n ≤ cap ∧ cap ≤ maxLen ∧ (a = none → n = 0 ∧ ls = [] ∧ cap = 0) ∧
    ∀ ad, a = some ad → (0 < cap → ad.spot = none) ∧ ∀ i l, ls[i]? = some l → A ad.block ∧ ∃ x, w.cell? ⟨ad.block, ad.off + i, none⟩ = some x ∧ l.den A x w
  mono := by
    rintro A A' v w hA ⟨a, cap, rfl, h1, h2, h3, h4⟩
    refine ⟨a, cap, rfl, h1, h2, h3, fun ad had => ⟨(h4 ad had).1, fun i l hi => ?_⟩⟩
    obtain ⟨g1, x, g2, g3⟩ := (h4 ad had).2 i l hi
    exact ⟨hA _ g1, x, g2, Leaf.den_mono hA g3⟩
  keep := by
    rintro A v w w' hk ⟨a, cap, rfl, h1, h2, h3, h4⟩
    refine ⟨a, cap, rfl, h1, h2, h3, fun ad had => ⟨(h4 ad had).1, fun i l hi => ?_⟩⟩
    obtain ⟨g1, x, g2, g3⟩ := (h4 ad had).2 i l hi
    exact ⟨g1, x, by rw [cell_of_keep hk g1]; exact g2, Leaf.den_keep hk g3⟩
  one := by rintro A v w ⟨a, cap, rfl, _⟩; rfl

/-- A pointer to cells that hold ls. -/
def ptrRep (ls : List Leaf) : Rep where
  P A v w := ∃ ad : Addr, v = .pointer (some ad) ∧ ad.spot = none ∧ ∀ i l, ls[i]? = some l → A ad.block ∧ ∃ x, w.cell? ⟨ad.block, ad.off + i, none⟩ = some x ∧ l.den A x w
  mono := by
    rintro A A' v w hA ⟨ad, rfl, h1, h4⟩
    refine ⟨ad, rfl, h1, fun i l hi => ?_⟩
    obtain ⟨g1, x, g2, g3⟩ := h4 i l hi
    exact ⟨hA _ g1, x, g2, Leaf.den_mono hA g3⟩
  keep := by
    rintro A v w w' hk ⟨ad, rfl, h1, h4⟩
    refine ⟨ad, rfl, h1, fun i l hi => ?_⟩
    obtain ⟨g1, x, g2, g3⟩ := h4 i l hi
    exact ⟨g1, x, by rw [cell_of_keep hk g1]; exact g2, Leaf.den_keep hk g3⟩
  one := by rintro A v w ⟨ad, rfl, _⟩; rfl

@[reducible] def u32L (x : Nat) : Leaf := Leaf.val (.int .u32 (x : Int))
/-- A slice of limbs. -/
@[reducible] def natL (l : List Nat) : Leaf := Leaf.rep (sliceRep l.length (l.map u32L))
@[reducible] def nilL : Leaf := Leaf.rep (sliceRep 0 [])
theorem nil_slice (A : Nat → Prop) (w : World) : nilL.den A (.slice none 0 0) w :=
  ⟨none, 0, rfl, Nat.le_refl _, Nat.zero_le _, fun _ => ⟨rfl, rfl, rfl⟩, fun ad h => by simp at h⟩

/-! ## Facts on types -/
def aggD : TypeDesc → Bool
  | .struct _ | .array _ _ => true
  | _ => false
/-- Type t has n cells; it is a struct or an array, or not. -/
def TyIs (P : Program) (t : Nat) (agg : Bool) (n : Nat) : Prop := (P.underlying t).map aggD = some agg ∧ (P.info? t).map (·.size) = some n
def zleaf : Value → Leaf
  | .slice none 0 0 => nilL
  | v => Leaf.val v
/-- The zero value's cells. -/
def TyZero (P : Program) (t : Nat) (ls : List Leaf) : Prop :=
  ∃ z, (P.info? t).bind (·.zero) = some z ∧ z.cells.toList.map zleaf = ls ∧ z.cells.toList.all Value.oneCell' = true
def fieldAtOff (P : Program) (s f : Nat) : Option (Nat × Nat) :=
  match P.underlying s with
  | some (.struct fields) => (fields[f]?).bind fun fl => (P.info? fl.type).map fun i => (fl.offset, i.size)
  | _ => none

section
variable {P : Program} {t n : Nat} {b : Bool}
theorem TyIs.isAgg (h : TyIs P t b n) (w : World) : (isAgg t).run P w = .ok b w := by
  obtain ⟨h1, _⟩ := h
  cases hu : P.underlying t with
  | none => rw [hu] at h1; simp at h1
  | some d =>
    rw [hu] at h1
    simp only [Option.map_some, Option.some.injEq] at h1
    subst h1
    cases d <;> simp [isAgg, run_underlying hu, aggD]
theorem TyIs.sizeOf (h : TyIs P t b n) (w : World) : (Go.sizeOf t).run P w = .ok n w := by
  obtain ⟨_, h2⟩ := h
  cases hi : P.info? t with
  | none => rw [hi] at h2; simp at h2
  | some i => rw [hi] at h2; simp at h2; simp [Go.sizeOf, typeInfo, hi, h2]
theorem zleaf_den {A : Nat → Prop} {w : World} {v : Value} (h : v.oneCell' = true) : (zleaf v).den A v w := by
  unfold zleaf
  split
  · exact nil_slice A w
  · exact ⟨rfl, h⟩
theorem zleaves_den {A : Nat → Prop} {w : World} {l : List Value} (h : l.all Value.oneCell' = true) : denL A (l.map zleaf) l w := by
  induction l with
  | nil => trivial
  | cons v vs ih => simp at h; exact ⟨zleaf_den h.1, ih (by simpa using h.2)⟩
theorem TyZero.run {ls : List Leaf} (h : TyZero P t ls) (w : World) (A : Nat → Prop) : ∃ z, (zeroValue t).run P w = .ok z w ∧ denL A ls z.cells.toList w := by
  obtain ⟨z, h1, h2, h3⟩ := h
  refine ⟨z, ?_, h2 ▸ zleaves_den h3⟩
  cases hi : P.info? t with
  | none => rw [hi] at h1; simp at h1
  | some i => rw [hi] at h1; simp at h1; simp [zeroValue, typeInfo, hi, h1]
end

/-! ## Operands -/
def opD (Γ : Gam) : Operand → Option D
  | .tmp t => look Γ t
  | .const v => bif v.oneCell' then some (D.val v) else none
  | .func f => some (D.val (.func (.func f) #[] #[]))
  | .global g => some (D.val (.pointer (some ⟨g, 0, none⟩)))

section
variable {P : Program} {ops : Array Oper} {X : List Nat} {o : Oper} {Γ : Gam} {H : Hp}

theorem look_op {Γ2 : Gam} (hs : ∀ s ∈ o.looksAt ops, look Γ2 s = look Γ s) {x : Operand} (hx : x ∈ o.op.operands) : opD Γ2 x = opD Γ x := by
  cases x with
  | tmp t => exact hs t (by unfold Oper.looksAt; simp only [List.mem_append, List.mem_filterMap]; exact .inl ⟨.tmp t, by simpa using hx, rfl⟩)
  | const v => rfl
  | func f => rfl
  | global g => rfl
theorem op_den {w0 : Frm} {A0 : Nat → Prop} {N : Nat} {H2 : Hp} {E : Env} {a : Act} {w : World} {Γ2 : Gam} (hG : Good w0 A0 N Γ2 H2 E a w) {x : Operand} {d : D} (hd : opD Γ2 x = some d) :
    d.okn H2 ∧ d.den E (a.eval x) w := by
  cases x with
  | tmp t =>
    obtain ⟨ho, v, hv, hd⟩ := hG.slots t d hd
    exact ⟨ho, by simpa [Act.eval, hv] using hd⟩
  | const v =>
    cases hv : v.oneCell' with
    | false => simp [opD, hv] at hd
    | true => simp only [opD, hv, cond_true, Option.some.injEq] at hd; subst hd; exact ⟨trivial, rfl, hv⟩
  | func f => simp only [opD, Option.some.injEq] at hd; subst hd; exact ⟨trivial, rfl, rfl⟩
  | global g => simp only [opD, Option.some.injEq] at hd; subst hd; exact ⟨trivial, rfl, rfl⟩

/-- The shape of most quiet operations' proofs: what an operand holds. -/
theorem op_at {w0 : Frm} {A0 : Nat → Prop} {N : Nat} {H2 : Hp} {E : Env} {a : Act} {w : World} {Γ2 : Gam} (hs : ∀ s ∈ o.looksAt ops, look Γ2 s = look Γ s)
    (hG : Good w0 A0 N Γ2 H2 E a w) {x : Operand} (hx : x ∈ o.op.operands) {d : D} (hd : opD Γ x = some d) : d.okn H2 ∧ d.den E (a.eval x) w :=
  op_den hG (by rw [look_op hs hx]; exact hd)
theorem op_val {w0 : Frm} {A0 : Nat → Prop} {N : Nat} {H2 : Hp} {E : Env} {a : Act} {w : World} {Γ2 : Gam} (hs : ∀ s ∈ o.looksAt ops, look Γ2 s = look Γ s)
    (hG : Good w0 A0 N Γ2 H2 E a w) {x : Operand} (hx : x ∈ o.op.operands) {v : Value} (hd : opD Γ x = some (D.val v)) : a.eval x = v :=
  (op_at hs hG hx hd).2.1

theorem Jq_move {x : Operand} {d : D} (ho : o.op = .move x) (hx : opD Γ x = some d) : Jq P ops X o Γ H d := by
  intro w0 A0 N Γ2 H2 E a w hs hX hG
  obtain ⟨h1, h2⟩ := op_at hs hG (x := x) (by rw [ho]; simp [Op.operands]) hx
  exact ⟨h1, _, by simp [execOp, ho], h2⟩
theorem Jq_assign {x : Operand} {d : D} (ho : o.op = .assign x) (hx : opD Γ x = some d) : Jq P ops X o Γ H d := by
  intro w0 A0 N Γ2 H2 E a w hs hX hG
  obtain ⟨h1, h2⟩ := op_at hs hG (x := x) (by rw [ho]; simp [Op.operands]) hx
  exact ⟨h1, _, by simp [execOp, ho], h2⟩
/-- The constant nil of a slice type. -/
theorem Jq_assign_nil (ho : o.op = .assign (.const (.slice none 0 0))) : Jq P ops X o Γ H (D.v (V.one nilL)) := by
  intro w0 A0 N Γ2 H2 E a w hs hX hG
  exact ⟨trivial, .slice none 0 0, by simp [execOp, ho, Act.eval], nil_slice E.A w⟩
theorem Jq_move_nil (ho : o.op = .move (.const (.slice none 0 0))) : Jq P ops X o Γ H (D.v (V.one nilL)) := by
  intro w0 A0 N Γ2 H2 E a w hs hX hG
  exact ⟨trivial, .slice none 0 0, by simp [execOp, ho, Act.eval], nil_slice E.A w⟩
theorem Jq_pick_t {c x y : Operand} {d : D} (ho : o.op = .pick c x y) (hc : opD Γ c = some (D.bool true)) (hx : opD Γ x = some d) : Jq P ops X o Γ H d := by
  intro w0 A0 N Γ2 H2 E a w hs hX hG
  have h0 := op_val hs hG (x := c) (by rw [ho]; simp [Op.operands]) hc
  obtain ⟨h1, h2⟩ := op_at hs hG (x := x) (by rw [ho]; simp [Op.operands]) hx
  exact ⟨h1, _, by simp [execOp, ho, h0, asBool], h2⟩
theorem Jq_pick_f {c x y : Operand} {d : D} (ho : o.op = .pick c x y) (hc : opD Γ c = some (D.bool false)) (hx : opD Γ y = some d) : Jq P ops X o Γ H d := by
  intro w0 A0 N Γ2 H2 E a w hs hX hG
  have h0 := op_val hs hG (x := c) (by rw [ho]; simp [Op.operands]) hc
  obtain ⟨h1, h2⟩ := op_at hs hG (x := y) (by rw [ho]; simp [Op.operands]) hx
  exact ⟨h1, _, by simp [execOp, ho, h0, asBool], h2⟩

/-- An own box as it lies in memory. -/
theorem HE.box {E : Env} {i : Nat} {e : HE} {w : World} (h : e.ok E i w) (hr : e.row = none) : E.nil i = false ∧ ∃ cs : List Value, w.heap[E.b i]? = some (.cells cs.toArray e.t (0, 0)) ∧ denL E.A e.ls cs w := by
  unfold HE.ok at h; rw [hr] at h; exact h
/-- An own block that is there. -/
theorem HE.block {E : Env} {i : Nat} {e : HE} {w : World} (h : e.ok E i w) (hn : E.nil i = false) :
    ∃ cs rest : List Value, w.heap[E.b i]? = some (.cells (cs ++ rest).toArray e.t (0, 0)) ∧ denL E.A e.ls cs w ∧ (e.row = none → rest = []) := by
  unfold HE.ok at h
  cases hr : e.row with
  | none => rw [hr] at h; obtain ⟨_, cs, h1, h2⟩ := h; exact ⟨cs, [], by simpa using h1, h2, fun _ => rfl⟩
  | some sz => rw [hr] at h; simp only [hn] at h; obtain ⟨_, cs, rest, h1, _, h2⟩ := h; exact ⟨cs, rest, h1, h2, fun h => by simp at h⟩

theorem load_cells {w : World} {b o t : Nat} {cs : List Value} (hc : w.heap[b]? = some (.cells cs.toArray t (0, 0))) (n : Nat) (hn : o + n ≤ cs.length) :
    (loadCells ⟨b, o, none⟩ n).run P w = .ok ((cs.drop o).take n).toArray w := by
  have := run_loadCells_list (P := P) w ⟨b, o, none⟩ ((cs.drop o).take n) (fun j v hv => by
    rw [Addr.add_lit]
    rw [List.getElem?_take] at hv
    split at hv
    · rw [List.getElem?_drop] at hv
      simp [World.cell?, hc, hv]
    · simp at hv)
  rwa [List.length_take, List.length_drop, Nat.min_eq_left (by omega)] at this
theorem load_cell {w : World} {b o t : Nat} {cs : List Value} {v : Value} (hc : w.heap[b]? = some (.cells cs.toArray t (0, 0))) (hv : cs[o]? = some v) : w.cell? ⟨b, o, none⟩ = some v := by
  simp [World.cell?, hc, hv]

/-- A row of which a cell is known is not nil. -/
theorem HE.not_nil {E : Env} {i : Nat} {e : HE} {w : World} (h : e.ok E i w) (hl : 0 < e.ls.length) : E.nil i = false := by
  unfold HE.ok at h
  cases hr : e.row with
  | none => rw [hr] at h; exact h.1
  | some sz =>
    rw [hr] at h
    cases hn : E.nil i
    · rfl
    · simp only [hn, if_true] at h; rw [h.1] at hl; simp at hl

theorem Jq_load_agg {x : Operand} {t i off n : Nat} {e : HE} (ho : o.op = .load t x) (hx : opD Γ x = some (D.ptr i off)) (hi : H[i]? = some (some e)) (hXi : i ∉ X) (ht : TyIs P t true n)
    (hn0 : 0 < n) (hn : off + n ≤ e.ls.length) {ls : List Leaf} (hls : (e.ls.drop off).take n = ls) : Jq P ops X o Γ H (D.agg ls) := by
  intro w0 A0 N Γ2 H2 E a w hs hX hG
  obtain ⟨h1, h2⟩ := op_at hs hG (x := x) (by rw [ho]; simp [Op.operands]) hx
  have h2 : a.eval x = .pointer (some ⟨E.b i, off, none⟩) := h2
  obtain ⟨g1, g2⟩ := hG.boxes i e (hX i e hXi hi)
  refine ⟨trivial, ?_⟩
  obtain ⟨cs, rest, hc, hd, _⟩ := HE.block g1 (HE.not_nil g1 (by omega))
  have hlen := hd.length
  refine ⟨.agg ((cs.drop off).take n).toArray, ?_, _, rfl, hls ▸ (hd.drop off).take n⟩
  have hl := load_cells (P := P) hc n (by simp; omega) (o := off)
  have hcs : (((cs ++ rest).drop off).take n) = ((cs.drop off).take n) := by
    rw [List.drop_append_of_le_length (by omega), List.take_append_of_le_length (by simp; omega)]
  rw [hcs] at hl
  simp [execOp, ho, h2, Instr.loadAt, Instr.sureAddr, loadVar, ht.isAgg, ht.sizeOf, hl]
theorem Jq_load {x : Operand} {t i off : Nat} {e : HE} (ho : o.op = .load t x) (hx : opD Γ x = some (D.ptr i off)) (hi : H[i]? = some (some e)) (hXi : i ∉ X) (ht : TyIs P t false 1)
    {l : Leaf} (hls : e.ls[off]? = some l) : Jq P ops X o Γ H (D.v (V.one l)) := by
  intro w0 A0 N Γ2 H2 E a w hs hX hG
  obtain ⟨h1, h2⟩ := op_at hs hG (x := x) (by rw [ho]; simp [Op.operands]) hx
  have h2 : a.eval x = .pointer (some ⟨E.b i, off, none⟩) := h2
  obtain ⟨g1, g2⟩ := hG.boxes i e (hX i e hXi hi)
  refine ⟨trivial, ?_⟩
  have hlt := (List.getElem?_eq_some_iff.1 hls).1
  obtain ⟨cs, rest, hc, hd, _⟩ := HE.block g1 (HE.not_nil g1 (by omega))
  obtain ⟨v, hv, hvd⟩ := hd.get hls
  have hl : w.cell? ⟨E.b i, off, none⟩ = some v := load_cell hc (by rw [List.getElem?_append_left (by have := hd.length; omega)]; exact hv)
  exact ⟨v, by simp [execOp, ho, h2, Instr.loadAt, Instr.sureAddr, loadVar, ht.isAgg, load, Sem.run, hl], hvd⟩

/-- A load through a pointer to memory that is represented. -/
theorem Jq_load_ref_agg {x : Operand} {t n : Nat} {ls : List Leaf} (ho : o.op = .load t x) (hx : opD Γ x = some (D.rep (ptrRep ls))) (ht : TyIs P t true n) (hn : n = ls.length) :
    Jq P ops X o Γ H (D.agg ls) := by
  intro w0 A0 N Γ2 H2 E a w hs hX hG
  obtain ⟨h1, ad, h2, h3, h4⟩ := op_at hs hG (x := x) (by rw [ho]; simp [Op.operands]) hx
  refine ⟨trivial, ?_⟩
  obtain ⟨b, off, sp⟩ := ad
  simp only at h3 h4
  subst h3
  have hex : ∀ (ls : List Leaf) (off : Nat), (∀ (i : Nat) (l : Leaf), ls[i]? = some l → E.A b ∧ ∃ x, w.cell? ⟨b, off + i, none⟩ = some x ∧ l.den E.A x w) →
      ∃ cs : List Value, denL E.A ls cs w ∧ ∀ j v, cs[j]? = some v → w.cell? ⟨b, off + j, none⟩ = some v := by
    intro ls
    induction ls with
    | nil => intro off _; exact ⟨[], trivial, fun j v h => by simp at h⟩
    | cons l ls ih =>
      intro off h
      obtain ⟨_, x, hx, hd⟩ := h 0 l rfl
      obtain ⟨cs, hcs, hcc⟩ := ih (off + 1) (fun i l hi => by
        have := h (i + 1) l (by simpa using hi)
        rwa [show off + (i + 1) = off + 1 + i from by omega] at this)
      refine ⟨x :: cs, ⟨hd, hcs⟩, fun j v hj => ?_⟩
      cases j with
      | zero => simp at hj; subst hj; exact hx
      | succ j => have := hcc j v (by simpa using hj); rwa [show off + (j + 1) = off + 1 + j from by omega]
  obtain ⟨cs, hd, hcc⟩ := hex ls off h4
  have hl := run_loadCells_list (P := P) w ⟨b, off, none⟩ cs (fun j v hj => by rw [Addr.add_lit]; exact hcc j v hj)
  rw [hd.length] at hl
  subst hn
  exact ⟨.agg cs.toArray, by simp [execOp, ho, h2, Instr.loadAt, Instr.sureAddr, loadVar, ht.isAgg, ht.sizeOf, hl], cs, rfl, hd⟩
theorem Jq_load_ref {x : Operand} {t : Nat} {l : Leaf} {ls : List Leaf} (ho : o.op = .load t x) (hx : opD Γ x = some (D.rep (ptrRep (l :: ls)))) (ht : TyIs P t false 1) :
    Jq P ops X o Γ H (D.v (V.one l)) := by
  intro w0 A0 N Γ2 H2 E a w hs hX hG
  obtain ⟨h1, ad, h2, h3, h4⟩ := op_at hs hG (x := x) (by rw [ho]; simp [Op.operands]) hx
  obtain ⟨b, off, sp⟩ := ad
  simp only at h3 h4
  subst h3
  obtain ⟨_, v, hv, hd⟩ := h4 0 l rfl
  rw [Nat.add_zero] at hv
  exact ⟨trivial, v, by simp [execOp, ho, h2, Instr.loadAt, Instr.sureAddr, loadVar, ht.isAgg, load, Sem.run, hv], hd⟩

theorem fieldAtOff_spec {s f fo sz : Nat} (hf : fieldAtOff P s f = some (fo, sz)) : ∃ fields fl, P.underlying s = some (.struct fields) ∧ fields[f]? = some fl ∧ fl.offset = fo ∧ ∃ i, P.info? fl.type = some i ∧ i.size = sz := by
  unfold fieldAtOff at hf
  cases hu : P.underlying s with
  | none => rw [hu] at hf; simp at hf
  | some d =>
    rw [hu] at hf
    cases d <;> simp only [reduceCtorEq] at hf
    rename_i fields
    cases hfl : fields[f]? with
    | none => rw [hfl] at hf; simp at hf
    | some fl =>
      rw [hfl] at hf
      cases hi : P.info? fl.type with
      | none => simp [hi] at hf
      | some i => simp [hi] at hf; exact ⟨fields, fl, rfl, hfl, hf.1, i, hi, hf.2⟩

theorem Jq_fieldAddr {x : Operand} {s f i off fo sz : Nat} (ho : o.op = .fieldAddr s x f) (hx : opD Γ x = some (D.ptr i off)) (hf : fieldAtOff P s f = some (fo, sz)) (hsz : Nat.beq sz 0 = false) :
    Jq P ops X o Γ H (D.ptr i (off + fo)) := by
  intro w0 A0 N Γ2 H2 E a w hs hX hG
  obtain ⟨h1, h2⟩ := op_at hs hG (x := x) (by rw [ho]; simp [Op.operands]) hx
  have h2 : a.eval x = .pointer (some ⟨E.b i, off, none⟩) := h2
  obtain ⟨fields, fl, hu, hfl, rfl, inf, hi, rfl⟩ := fieldAtOff_spec hf
  have hsz' : inf.size ≠ 0 := fun e => by rw [e] at hsz; simp at hsz
  refine ⟨h1, _, ?_, rfl⟩
  simp [execOp, ho, h2, Instr.fieldAt, Instr.sureAddr, run_underlying hu, hfl, fieldPlace, Go.sizeOf, typeInfo, hi, hsz', Addr.add_lit]
theorem Jq_fieldAddr_ref {x : Operand} {s f fo sz : Nat} {ls : List Leaf} (ho : o.op = .fieldAddr s x f) (hx : opD Γ x = some (D.rep (ptrRep ls))) (hf : fieldAtOff P s f = some (fo, sz)) (hsz : Nat.beq sz 0 = false) :
    Jq P ops X o Γ H (D.rep (ptrRep (ls.drop fo))) := by
  intro w0 A0 N Γ2 H2 E a w hs hX hG
  obtain ⟨h1, ad, h2, h3, h4⟩ := op_at hs hG (x := x) (by rw [ho]; simp [Op.operands]) hx
  obtain ⟨b, off, sp⟩ := ad
  simp only at h3 h4
  subst h3
  obtain ⟨fields, fl, hu, hfl, rfl, inf, hi, rfl⟩ := fieldAtOff_spec hf
  have hsz' : inf.size ≠ 0 := fun e => by rw [e] at hsz; simp at hsz
  refine ⟨trivial, .pointer (some ⟨b, off + fl.offset, none⟩), ?_, ⟨b, off + fl.offset, none⟩, rfl, rfl, fun i l hil => ?_⟩
  · simp [execOp, ho, h2, Instr.fieldAt, Instr.sureAddr, run_underlying hu, hfl, fieldPlace, Go.sizeOf, typeInfo, hi, hsz', Addr.add_lit]
  · rw [List.getElem?_drop] at hil
    have := h4 _ l hil
    rwa [show off + (fl.offset + i) = off + fl.offset + i from by omega] at this

/-- A field of a struct by value. -/
theorem Jq_field_agg {x : Operand} {s f fo sz : Nat} {ls ls' : List Leaf} (ho : o.op = .field s x f) (hx : opD Γ x = some (D.agg ls)) {fields : Array Field} {fl : Field} (hu : P.underlying s = some (.struct fields))
    (hfl : fields[f]? = some fl) (hfo : fl.offset = fo) (ht : TyIs P fl.type true sz) (hls : (ls.drop fo).take sz = ls') : Jq P ops X o Γ H (D.agg ls') := by
  intro w0 A0 N Γ2 H2 E a w hs hX hG
  obtain ⟨h1, cs, h2, h3⟩ := op_at hs hG (x := x) (by rw [ho]; simp [Op.operands]) hx
  refine ⟨trivial, .agg ((cs.drop fo).take sz).toArray, ?_, _, rfl, hls ▸ (h3.drop fo).take sz⟩
  simp [execOp, ho, h2, Instr.field, run_underlying hu, hfl, asAgg, part, ht.isAgg, ht.sizeOf, hfo]
theorem Jq_field {x : Operand} {s f fo : Nat} {ls : List Leaf} {l : Leaf} (ho : o.op = .field s x f) (hx : opD Γ x = some (D.agg ls)) {fields : Array Field} {fl : Field} (hu : P.underlying s = some (.struct fields))
    (hfl : fields[f]? = some fl) (hfo : fl.offset = fo) (ht : TyIs P fl.type false 1) (hls : ls[fo]? = some l) : Jq P ops X o Γ H (D.v (V.one l)) := by
  intro w0 A0 N Γ2 H2 E a w hs hX hG
  obtain ⟨h1, cs, h2, h3⟩ := op_at hs hG (x := x) (by rw [ho]; simp [Op.operands]) hx
  obtain ⟨v, hv, hd⟩ := h3.get hls
  refine ⟨trivial, v, ?_, hd⟩
  simp [execOp, ho, h2, Instr.field, run_underlying hu, hfl, asAgg, part, ht.isAgg, hfo, hv]

theorem Jq_extract {x : Operand} {i : Nat} {xs : List V} {y : V} (ho : o.op = .extract x i) (hx : opD Γ x = some (D.tup xs)) (hy : xs[i]? = some y) : Jq P ops X o Γ H (D.v y) := by
  intro w0 A0 N Γ2 H2 E a w hs hX hG
  obtain ⟨h1, vs, h2, h3⟩ := op_at hs hG (x := x) (by rw [ho]; simp [Op.operands]) hx
  obtain ⟨v, hv, hd⟩ := h3.get hy
  exact ⟨trivial, v, by simp [execOp, ho, h2, Instr.extract, hv], hd⟩

/-! ## Numbers -/
theorem Jq_bin {op : BinOp} {t u : Nat} {x y : Operand} {p q r : Value} (ho : o.op = .binOp op t x y u) (hx : opD Γ x = some (D.val p)) (hy : opD Γ y = some (D.val q))
    (hg : ∀ w, (eqGuard op t x y p q).run P w = .ok () w) (hr : ∀ w, (binOp op t p q).run P w = .ok r w) (h1 : r.oneCell' = true) : Jq P ops X o Γ H (D.val r) := by
  intro w0 A0 N Γ2 H2 E a w hs hX hG
  have e1 := op_val hs hG (x := x) (by rw [ho]; simp [Op.operands]) hx
  have e2 := op_val hs hG (x := y) (by rw [ho]; simp [Op.operands]) hy
  exact ⟨trivial, r, by simp [execOp, ho, e1, e2, hg, hr], rfl, h1⟩
section
variable {t u : Nat} {x y : Operand} {k : IntKind} {m n r : Int}
theorem guard_int {op : BinOp} (w : World) : (eqGuard op t x y (.int k m) (.int k n)).run P w = .ok () w := by
  cases op <;> simp [eqGuard]
theorem Jq_add (ho : o.op = .binOp .add t x y u) (hx : opD Γ x = some (D.val (.int k m))) (hy : opD Γ y = some (D.val (.int k n))) (hr : k.wrap (m + n) = r) : Jq P ops X o Γ H (D.val (.int k r)) :=
  Jq_bin ho hx hy guard_int (fun w => by simp [binOp, Op.intArith, hr]) rfl
theorem Jq_sub (ho : o.op = .binOp .sub t x y u) (hx : opD Γ x = some (D.val (.int k m))) (hy : opD Γ y = some (D.val (.int k n))) (hr : k.wrap (m - n) = r) : Jq P ops X o Γ H (D.val (.int k r)) :=
  Jq_bin ho hx hy guard_int (fun w => by simp [binOp, Op.intArith, hr]) rfl
theorem Jq_mul (ho : o.op = .binOp .mul t x y u) (hx : opD Γ x = some (D.val (.int k m))) (hy : opD Γ y = some (D.val (.int k n))) (hr : k.wrap (m * n) = r) : Jq P ops X o Γ H (D.val (.int k r)) :=
  Jq_bin ho hx hy guard_int (fun w => by simp [binOp, Op.intArith, hr]) rfl
theorem Jq_quo (ho : o.op = .binOp .quo t x y u) (hx : opD Γ x = some (D.val (.int k m))) (hy : opD Γ y = some (D.val (.int k n))) (hn : n ≠ 0) (hr : k.wrap (m.tdiv n) = r) : Jq P ops X o Γ H (D.val (.int k r)) :=
  Jq_bin ho hx hy guard_int (fun w => by simp [binOp, Op.intDiv, hn, hr]) rfl
theorem Jq_rem (ho : o.op = .binOp .rem t x y u) (hx : opD Γ x = some (D.val (.int k m))) (hy : opD Γ y = some (D.val (.int k n))) (hn : n ≠ 0) (hr : m.tmod n = r) : Jq P ops X o Γ H (D.val (.int k r)) :=
  Jq_bin ho hx hy guard_int (fun w => by simp [binOp, Op.intDiv, hn, hr]) rfl
theorem Jq_lss (ho : o.op = .binOp .lss t x y u) (hx : opD Γ x = some (D.val (.int k m))) (hy : opD Γ y = some (D.val (.int k n))) {b : Bool} (hr : decide (m < n) = b) : Jq P ops X o Γ H (D.bool b) :=
  Jq_bin ho hx hy guard_int (fun w => by simp [binOp, Op.intCmp, hr]) rfl
theorem Jq_leq (ho : o.op = .binOp .leq t x y u) (hx : opD Γ x = some (D.val (.int k m))) (hy : opD Γ y = some (D.val (.int k n))) {b : Bool} (hr : decide (m ≤ n) = b) : Jq P ops X o Γ H (D.bool b) :=
  Jq_bin ho hx hy guard_int (fun w => by simp [binOp, Op.intCmp, hr]) rfl
theorem Jq_gtr (ho : o.op = .binOp .gtr t x y u) (hx : opD Γ x = some (D.val (.int k m))) (hy : opD Γ y = some (D.val (.int k n))) {b : Bool} (hr : decide (n < m) = b) : Jq P ops X o Γ H (D.bool b) :=
  Jq_bin ho hx hy guard_int (fun w => by simp [binOp, Op.intCmp, hr]) rfl
theorem Jq_geq (ho : o.op = .binOp .geq t x y u) (hx : opD Γ x = some (D.val (.int k m))) (hy : opD Γ y = some (D.val (.int k n))) {b : Bool} (hr : decide (n ≤ m) = b) : Jq P ops X o Γ H (D.bool b) :=
  Jq_bin ho hx hy guard_int (fun w => by simp [binOp, Op.intCmp, hr]) rfl
theorem Jq_eql (ho : o.op = .binOp .eql t x y u) (hx : opD Γ x = some (D.val (.int k m))) (hy : opD Γ y = some (D.val (.int k n))) {b : Bool} (hr : (m == n) = b) : Jq P ops X o Γ H (D.bool b) :=
  Jq_bin ho hx hy guard_int (fun w => by simp [binOp, Op.intCmp, hr]) rfl
theorem Jq_neq (ho : o.op = .binOp .neq t x y u) (hx : opD Γ x = some (D.val (.int k m))) (hy : opD Γ y = some (D.val (.int k n))) {b : Bool} (hr : (m != n) = b) : Jq P ops X o Γ H (D.bool b) :=
  Jq_bin ho hx hy guard_int (fun w => by simp [binOp, Op.intCmp, hr]) rfl
theorem Jq_shl {k' : IntKind} (ho : o.op = .binOp .shl t x y u) (hx : opD Γ x = some (D.val (.int k m))) (hy : opD Γ y = some (D.val (.int k' n))) (hn : 0 ≤ n) (hr : k.wrap (m * 2 ^ (min n.toNat k.bits)) = r) :
    Jq P ops X o Γ H (D.val (.int k r)) :=
  Jq_bin ho hx hy (fun w => by simp [eqGuard]) (fun w => by simp [binOp, Op.shift, Int.not_lt.2 hn, hr]) rfl
theorem Jq_shr {k' : IntKind} (ho : o.op = .binOp .shr t x y u) (hx : opD Γ x = some (D.val (.int k m))) (hy : opD Γ y = some (D.val (.int k' n))) (hn : 0 ≤ n) (hr : m.fdiv (2 ^ (min n.toNat k.bits)) = r) :
    Jq P ops X o Γ H (D.val (.int k r)) :=
  Jq_bin ho hx hy (fun w => by simp [eqGuard]) (fun w => by simp [binOp, Op.shift, Int.not_lt.2 hn, hr]) rfl
theorem Jq_or (ho : o.op = .binOp .or t x y u) (hx : opD Γ x = some (D.val (.int k m))) (hy : opD Γ y = some (D.val (.int k n))) (hr : k.wrap ((BitVec.ofInt k.bits m ||| BitVec.ofInt k.bits n).toNat) = r) :
    Jq P ops X o Γ H (D.val (.int k r)) :=
  Jq_bin ho hx hy guard_int (fun w => by simp [binOp, Op.intBits, ← hr]) rfl
theorem Jq_and (ho : o.op = .binOp .and t x y u) (hx : opD Γ x = some (D.val (.int k m))) (hy : opD Γ y = some (D.val (.int k n))) (hr : k.wrap ((BitVec.ofInt k.bits m &&& BitVec.ofInt k.bits n).toNat) = r) :
    Jq P ops X o Γ H (D.val (.int k r)) :=
  Jq_bin ho hx hy guard_int (fun w => by simp [binOp, Op.intBits, ← hr]) rfl
theorem Jq_neg (ho : o.op = .unOp .neg t x) (hx : opD Γ x = some (D.val (.int k m))) (hr : k.wrap (0 - m) = r) : Jq P ops X o Γ H (D.val (.int k r)) := by
  intro w0 A0 N Γ2 H2 E a w hs hX hG
  have e1 := op_val hs hG (x := x) (by rw [ho]; simp [Op.operands]) hx
  exact ⟨trivial, _, by simp only [execOp, ho, e1, Op.unary, Op.intArith, hr]; rfl, rfl, rfl⟩
theorem Jq_convert {src dst : Nat} {k' : IntKind} (ho : o.op = .convert src dst x) (hx : opD Γ x = some (D.val (.int k m))) (hd : P.underlying dst = some (.int k')) (hs' : (P.underlying src).isSome = true) (hr : k'.wrap m = r) :
    Jq P ops X o Γ H (D.val (.int k' r)) := by
  intro w0 A0 N Γ2 H2 E a w hs hX hG
  have e1 := op_val hs hG (x := x) (by rw [ho]; simp [Op.operands]) hx
  obtain ⟨ds, hds⟩ := Option.isSome_iff_exists.1 hs'
  refine ⟨trivial, .int k' r, ?_, rfl, rfl⟩
  simp [execOp, ho, e1, convert, run_underlying hd, run_underlying hds, Conv.intToInt, hr]
end
theorem Jq_not {t : Nat} {x : Operand} {b c : Bool} (ho : o.op = .unOp .not t x) (hx : opD Γ x = some (D.bool b)) (hr : (!b) = c) : Jq P ops X o Γ H (D.bool c) := by
  intro w0 A0 N Γ2 H2 E a w hs hX hG
  have e1 := op_val hs hG (x := x) (by rw [ho]; simp [Op.operands]) hx
  exact ⟨trivial, .bool c, by simp [execOp, ho, e1, Op.unary, hr], rfl, rfl⟩
theorem run_equalIn_bool (w : World) (d : Nat) {t : TypeId} (b c : Bool) (ht : P.underlying t = some .bool) : (Op.equalIn (d + 1) t (.bool b) (.bool c)).run P w = .ok (b == c) w := by
  simp [Op.equalIn, run_underlying ht]
theorem Jq_eql_bool {t u : Nat} {x y : Operand} {b c d : Bool} (ho : o.op = .binOp .eql t x y u) (hx : opD Γ x = some (D.bool b)) (hy : opD Γ y = some (D.bool c)) (ht : P.underlying t = some .bool) (hr : (b == c) = d) :
    Jq P ops X o Γ H (D.bool d) :=
  Jq_bin ho hx hy (fun w => by simp [eqGuard]) (fun w => by
    simp only [binOp]; simp [Op.equal, Op.maxDepth, run_equalIn_bool w 9999 b c ht, hr]) rfl
theorem Jq_neq_bool {t u : Nat} {x y : Operand} {b c d : Bool} (ho : o.op = .binOp .neq t x y u) (hx : opD Γ x = some (D.bool b)) (hy : opD Γ y = some (D.bool c)) (ht : P.underlying t = some .bool) (hr : (b != c) = d) :
    Jq P ops X o Γ H (D.bool d) :=
  Jq_bin ho hx hy (fun w => by simp [eqGuard]) (fun w => by
    simp only [binOp]; subst hr; simp [Op.equal, Op.maxDepth, run_equalIn_bool w 9999 b c ht, bne]) rfl
end
end Rc
