/- Judgements of the operations that act on memory, of calls; a function's beginning and end. -/
import Derived.Test.YtpabkdpijcbkgaaGreatDoorFwC
namespace Rc
open Go Go.RowKit

/-- xs in the place of what stood from off on. -/
def splice {α : Type} (l : List α) (off : Nat) (xs : List α) : List α := l.take off ++ xs ++ l.drop (off + xs.length)
theorem splice_length {α : Type} (l : List α) (off : Nat) (xs : List α) (h : off + xs.length ≤ l.length) : (splice l off xs).length = l.length := by
  simp [splice]; omega
theorem denL.splice {A : Nat → Prop} {ls xs : List Leaf} {vs us : List Value} {w : World} (h : denL A ls vs w) (off : Nat) (hx : denL A xs us w) : denL A (splice ls off xs) (splice vs off us) w := by
  unfold Rc.splice
  rw [hx.length]
  exact ((h.take off).append hx).append (h.drop _)

theorem foldl_splice (off : Nat) (xs : List Value) : ∀ (k : Nat) (cells : Array Value), off + k + xs.length ≤ cells.size →
    (xs.zipIdx k).foldl (fun cs (p : Value × Nat) => cs.setIfInBounds (off + p.2) p.1) cells = (splice cells.toList (off + k) xs).toArray := by
  induction xs with
  | nil => intro k cells h; simp [splice]
  | cons x xs ih =>
    intro k cells h
    simp only [List.length_cons] at h
    rw [List.zipIdx_cons, List.foldl_cons, ih (k + 1) _ (by simp; omega)]
    congr 1
    have hlt : off + k < cells.toList.length := by simp; omega
    rw [Array.toList_setIfInBounds]
    unfold splice
    rw [show off + (k + 1) = off + k + 1 from by omega]
    rw [List.take_succ_eq_append_getElem (by simpa using hlt), List.take_set_of_le (Nat.le_refl _), List.getElem_set_self, List.drop_set_of_lt (by omega)]
    simp only [List.append_assoc, List.cons_append, List.nil_append, List.length_cons]
    rw [show off + k + 1 + xs.length = off + k + (xs.length + 1) from by omega]

/-! ## Building values -/
/-- The cells of a composite, part by part: place, size. -/
def fillL (places : Nat → Option (Nat × Nat)) (ls : List Leaf) : List (Nat × List Leaf) → Option (List Leaf)
  | [] => some ls
  | (i, xs) :: rest =>
    match places i with
    | none => none
    | some (off, size) => bif Nat.beq xs.length size && Nat.ble (off + xs.length) ls.length then fillL places (splice ls off xs) rest else none

theorem fill_den {A : Nat → Prop} {w : World} {places : Nat → Option (Nat × Nat)} : ∀ (parts : List (Nat × Value)) (lparts : List (Nat × List Leaf)) (cells : Array Value) (ls out : List Leaf),
    denL A ls cells.toList w → parts.length = lparts.length → (∀ (j : Nat) (p : Nat × Value) (q : Nat × List Leaf), parts[j]? = some p → lparts[j]? = some q → p.1 = q.1 ∧ denL A q.2 p.2.cells.toList w) →
    fillL places ls lparts = some out → ∃ cs, Instr.fill places cells parts = some cs ∧ denL A out cs.toList w := by
  intro parts
  induction parts with
  | nil =>
    intro lparts cells ls out hd hl _ hf
    cases lparts with
    | nil => simp only [fillL, Option.some.injEq] at hf; subst hf; exact ⟨cells, rfl, hd⟩
    | cons q qs => simp at hl
  | cons p ps ih =>
    intro lparts cells ls out hd hl hp hf
    cases lparts with
    | nil => simp at hl
    | cons q qs =>
      obtain ⟨i, v⟩ := p
      obtain ⟨i', xs⟩ := q
      obtain ⟨rfl, hx⟩ := hp 0 _ _ rfl rfl
      simp only at hx
      unfold fillL at hf
      cases hpl : places i with
      | none => rw [hpl] at hf; simp at hf
      | some os =>
        obtain ⟨off, size⟩ := os
        rw [hpl] at hf
        simp only at hf
        cases hc : (Nat.beq xs.length size && Nat.ble (off + xs.length) ls.length) with
        | false => rw [hc] at hf; simp at hf
        | true =>
          rw [hc] at hf
          simp only [cond_true] at hf
          simp only [Bool.and_eq_true, Nat.beq_eq, Nat.ble_eq] at hc
          have hlx := hx.length
          have hll := hd.length
          simp only [Array.length_toList] at hlx hll
          have hsz : v.cells.size = size := by omega
          have hfit : ¬ off + v.cells.size > cells.size := by omega
          have hfold : (v.cells.zipIdx.foldl (fun cs (p : Value × Nat) => cs.setIfInBounds (off + p.2) p.1) cells) = (splice cells.toList off v.cells.toList).toArray := by
            rw [← Array.foldl_toList, Array.toList_zipIdx]
            exact foldl_splice off v.cells.toList 0 cells (by simp; omega)
          obtain ⟨cs, h1, h2⟩ := ih qs (splice cells.toList off v.cells.toList).toArray (splice ls off xs) out (by simpa using hd.splice off hx) (by simpa using hl)
            (fun j p q h1 h2 => hp (j + 1) p q (by simpa using h1) (by simpa using h2)) hf
          refine ⟨cs, ?_, h2⟩
          unfold Instr.fill
          rw [hpl]
          simp only [hsz, ne_eq, not_true_eq_false, hsz ▸ hfit, Bool.false_or, decide_false, Bool.false_eq_true, if_false]
          rw [← h1, ← hfold]

/-- Parts of a composite as operands say them. -/
def partsD (Γ : Gam) : List (Nat × Operand) → Option (List (Nat × List Leaf))
  | [] => some []
  | (i, x) :: rest =>
    match opD Γ x, partsD Γ rest with
    | some (.inl v), some ps => some ((i, v.leaves) :: ps)
    | _, _ => none
def structPlaces (P : Program) (t : Nat) : Option (List (Nat × Nat)) :=
  match P.underlying t with
  | some (.struct fields) => fields.toList.mapM fun f => (P.info? f.type).map fun i => (f.offset, i.size)
  | _ => none

section
variable {P : Program} {ops : Array Oper} {X : List Nat} {o : Oper} {Γ : Gam} {H : Hp}

theorem partsD_spec {E : Env} {a : Act} {w : World} : ∀ (ps : List (Nat × Operand)) (lp : List (Nat × List Leaf)), (∀ p ∈ ps, ∀ d, opD Γ p.2 = some d → d.den E (a.eval p.2) w) → partsD Γ ps = some lp →
    (ps.map fun p => (p.1, a.eval p.2)).length = lp.length ∧
    ∀ (j : Nat) (p : Nat × Value) (q : Nat × List Leaf), (ps.map fun p => (p.1, a.eval p.2))[j]? = some p → lp[j]? = some q → p.1 = q.1 ∧ denL E.A q.2 p.2.cells.toList w := by
  intro ps
  induction ps with
  | nil => intro lp _ h; simp only [partsD, Option.some.injEq] at h; subst h; exact ⟨rfl, fun j p q h => by simp at h⟩
  | cons p ps ih =>
    intro lp hd h
    obtain ⟨i, x⟩ := p
    unfold partsD at h
    cases hx : opD Γ x with
    | none => rw [hx] at h; simp at h
    | some d =>
      rw [hx] at h
      cases hr : partsD Γ ps with
      | none => rw [hr] at h; rcases d with v | d <;> simp at h
      | some lps =>
        rw [hr] at h
        rcases d with v | d
        · simp only [Option.some.injEq] at h
          subst h
          obtain ⟨h1, h2⟩ := ih lps (fun p hp d hd' => hd p (by simp [hp]) d hd') hr
          refine ⟨by simpa using h1, fun j p q hp hq => ?_⟩
          cases j with
          | zero =>
            simp at hp hq
            subst hp; subst hq
            exact ⟨rfl, V.den_cells (hd (i, x) (by simp) _ hx)⟩
          | succ j => exact h2 j p q (by simpa using hp) (by simpa using hq)
        · simp at h

theorem build_den {t : Nat} {parts : Array (Nat × Operand)} (ho : o.op = .build t parts ∨ ∃ n, o.op = .buildSlice t n parts) {Γ2 : Gam} {w0 : Frm} {A0 : Nat → Prop} {N : Nat} {H2 : Hp} {E : Env} {a : Act} {w : World}
    (hs : ∀ s ∈ o.looksAt ops, look Γ2 s = look Γ s) (hG : Good w0 A0 N Γ2 H2 E a w) :
    ∀ p ∈ parts.toList, ∀ d, opD Γ p.2 = some d → d.den E (a.eval p.2) w := by
  intro p hp d hd
  refine (op_at hs hG (x := p.2) ?_ hd).2
  rcases ho with ho | ⟨n, ho⟩ <;> (rw [ho]; simp only [Op.operands, List.mem_toArray, List.mem_map]; exact ⟨p, hp, rfl⟩)

theorem mapM_places {fields : List Field} {ps : List (Nat × Nat)} (h : (fields.mapM fun f => (P.info? f.type).map fun i => (f.offset, i.size)) = some ps) (w : World) :
    (fields.mapM fun f => Prod.mk f.offset <$> Go.sizeOf f.type).run P w = .ok ps w := by
  induction fields generalizing ps with
  | nil => simp at h; subst h; simp
  | cons f fs ih =>
    rw [List.mapM_cons] at h
    cases hi : P.info? f.type with
    | none => simp [hi] at h
    | some i =>
      cases hr : (fs.mapM fun f => (P.info? f.type).map fun i => (f.offset, i.size)) with
      | none => simp [hi, hr] at h
      | some qs =>
        simp [hi, hr] at h
        subst h
        have := ih hr
        simp only [List.mapM_cons]
        simp [Go.sizeOf, typeInfo, hi] at this ⊢
        simp [this]

/-- A struct literal. -/
theorem Jq_build {t : Nat} {parts : Array (Nat × Operand)} {zs ls : List Leaf} {lp : List (Nat × List Leaf)} {places : List (Nat × Nat)} (ho : o.op = .build t parts) (hz : TyZero P t zs) (hp : partsD Γ parts.toList = some lp)
    (hpl : structPlaces P t = some places) (hf : fillL (fun i => places[i]?) zs lp = some ls) : Jq P ops X o Γ H (D.agg ls) := by
  intro w0 A0 N Γ2 H2 E a w hs hX hG
  obtain ⟨z, hzr, hzd⟩ := hz.run w E.A
  unfold structPlaces at hpl
  cases hu : P.underlying t with
  | none => rw [hu] at hpl; simp at hpl
  | some d =>
    rw [hu] at hpl
    cases d <;> simp only [reduceCtorEq] at hpl
    rename_i fields
    have hm := mapM_places hpl w
    obtain ⟨h1, h2⟩ := partsD_spec parts.toList lp (build_den (.inl ho) hs hG) hp
    obtain ⟨cs, hc1, hc2⟩ := fill_den (A := E.A) (w := w) (places := fun i => places[i]?) (parts.toList.map fun p => (p.1, a.eval p.2)) lp z.cells zs ls hzd h1 h2 hf
    refine ⟨trivial, .agg cs, ?_, cs.toList, by simp, hc2⟩
    have hmA : ∀ (g : Field → Sem (Nat × Nat)), fields.mapM g = (do pure (List.toArray (← fields.toList.mapM g)) : Sem _) := by
      intro g; rw [Array.mapM_eq_mapM_toList]; simp
    simp only [execOp, ho, Instr.build]
    simp [hzr, run_underlying hu, hmA, hm, hc1]
end
end Rc
