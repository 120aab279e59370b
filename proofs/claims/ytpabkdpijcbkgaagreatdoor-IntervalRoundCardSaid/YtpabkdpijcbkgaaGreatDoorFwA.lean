/- A frame for walks: what slots and memory hold is said by plain data; every operation has one judgement. -/
import Derived.WalkKit
import Derived.Laws.CopyOwn
namespace Rc
open Go Go.RowKit

/-- A representation: which values in which world, with what memory (blocks that satisfy A). -/
structure Rep where
  P : (Nat → Prop) → Value → World → Prop
  mono : ∀ {A A' : Nat → Prop} {v : Value} {w : World}, (∀ k, A k → A' k) → P A v w → P A' v w
  keep : ∀ {A : Nat → Prop} {v : Value} {w w' : World}, (∀ k, A k → w'.heap[k]? = w.heap[k]?) → P A v w → P A v w'
  one : ∀ {A : Nat → Prop} {v : Value} {w : World}, P A v w → v.oneCell' = true

/-- What one cell holds: a known value, or something that is represented. -/
abbrev Leaf : Type := Sum Value Rep
@[reducible] def Leaf.val (v : Value) : Leaf := .inl v
@[reducible] def Leaf.rep (r : Rep) : Leaf := .inr r

def Leaf.den (A : Nat → Prop) : Leaf → Value → World → Prop
  | .inl v, x, _ => x = v ∧ v.oneCell' = true
  | .inr r, x, w => r.P A x w

theorem Leaf.den_mono {A A' : Nat → Prop} {l : Leaf} {v : Value} {w : World} (h : ∀ k, A k → A' k) (hd : l.den A v w) : l.den A' v w := by
  cases l with
  | inl x => exact hd
  | inr r => exact r.mono h hd
theorem Leaf.den_keep {A : Nat → Prop} {l : Leaf} {v : Value} {w w' : World} (h : ∀ k, A k → w'.heap[k]? = w.heap[k]?) (hd : l.den A v w) : l.den A v w' := by
  cases l with
  | inl x => exact hd
  | inr r => exact r.keep h hd
theorem Leaf.den_one {A : Nat → Prop} {l : Leaf} {v : Value} {w : World} (hd : l.den A v w) : v.oneCell' = true := by
  cases l with
  | inl x => obtain ⟨rfl, h⟩ := hd; exact h
  | inr r => exact r.one hd

/-- A list of cells. -/
def denL (A : Nat → Prop) : List Leaf → List Value → World → Prop
  | [], [], _ => True
  | l :: ls, v :: vs, w => l.den A v w ∧ denL A ls vs w
  | [], _ :: _, _ => False
  | _ :: _, [], _ => False

theorem denL.length {A : Nat → Prop} {ls : List Leaf} {vs : List Value} {w : World} (h : denL A ls vs w) : vs.length = ls.length := by
  induction ls generalizing vs with
  | nil => cases vs with
    | nil => rfl
    | cons v vs => exact h.elim
  | cons l ls ih => cases vs with
    | nil => exact h.elim
    | cons v vs => simp [ih h.2]
theorem denL.mono {A A' : Nat → Prop} {ls : List Leaf} {vs : List Value} {w : World} (hA : ∀ k, A k → A' k) (h : denL A ls vs w) : denL A' ls vs w := by
  induction ls generalizing vs with
  | nil => cases vs with
    | nil => trivial
    | cons v vs => exact h.elim
  | cons l ls ih => cases vs with
    | nil => exact h.elim
    | cons v vs => exact ⟨Leaf.den_mono hA h.1, ih h.2⟩
theorem denL.keep {A : Nat → Prop} {ls : List Leaf} {vs : List Value} {w w' : World} (hw : ∀ k, A k → w'.heap[k]? = w.heap[k]?) (h : denL A ls vs w) : denL A ls vs w' := by
  induction ls generalizing vs with
  | nil => cases vs with
    | nil => trivial
    | cons v vs => exact h.elim
  | cons l ls ih => cases vs with
    | nil => exact h.elim
    | cons v vs => exact ⟨Leaf.den_keep hw h.1, ih h.2⟩
theorem denL.get {A : Nat → Prop} {ls : List Leaf} {vs : List Value} {w : World} (h : denL A ls vs w) {i : Nat} {l : Leaf} (hi : ls[i]? = some l) :
    ∃ v, vs[i]? = some v ∧ l.den A v w := by
  induction ls generalizing vs i with
  | nil => simp at hi
  | cons l0 ls ih => cases vs with
    | nil => exact h.elim
    | cons v vs => cases i with
      | zero => simp at hi; subst hi; exact ⟨v, rfl, h.1⟩
      | succ i => simpa using ih h.2 (by simpa using hi)
theorem denL.getV {A : Nat → Prop} {ls : List Leaf} {vs : List Value} {w : World} (h : denL A ls vs w) {i : Nat} {v : Value} (hi : vs[i]? = some v) :
    ∃ l, ls[i]? = some l ∧ l.den A v w := by
  have hl : i < ls.length := by
    have := h.length
    have := (List.getElem?_eq_some_iff.1 hi).1
    omega
  obtain ⟨v', h1, h2⟩ := h.get (List.getElem?_eq_getElem hl)
  rw [hi] at h1
  cases h1
  exact ⟨_, List.getElem?_eq_getElem hl, h2⟩
theorem denL.append {A : Nat → Prop} {ls ls' : List Leaf} {vs vs' : List Value} {w : World} (h : denL A ls vs w) (h' : denL A ls' vs' w) : denL A (ls ++ ls') (vs ++ vs') w := by
  induction ls generalizing vs with
  | nil => cases vs with
    | nil => exact h'
    | cons v vs => exact h.elim
  | cons l ls ih => cases vs with
    | nil => exact h.elim
    | cons v vs => exact ⟨h.1, ih h.2⟩
theorem denL.take {A : Nat → Prop} {ls : List Leaf} {vs : List Value} {w : World} (h : denL A ls vs w) (n : Nat) : denL A (ls.take n) (vs.take n) w := by
  induction ls generalizing vs n with
  | nil => cases vs with
    | nil => simp [denL]
    | cons v vs => exact h.elim
  | cons l ls ih => cases vs with
    | nil => exact h.elim
    | cons v vs => cases n with
      | zero => simp [denL]
      | succ n => exact ⟨h.1, ih h.2 n⟩
theorem denL.drop {A : Nat → Prop} {ls : List Leaf} {vs : List Value} {w : World} (h : denL A ls vs w) (n : Nat) : denL A (ls.drop n) (vs.drop n) w := by
  induction ls generalizing vs n with
  | nil => cases vs with
    | nil => simp [denL]
    | cons v vs => exact h.elim
  | cons l ls ih => cases vs with
    | nil => exact h.elim
    | cons v vs => cases n with
      | zero => exact h
      | succ n => exact ih h.2 n
theorem denL.set {A : Nat → Prop} {ls : List Leaf} {vs : List Value} {w : World} (h : denL A ls vs w) (i : Nat) {l : Leaf} {v : Value} (hl : l.den A v w) : denL A (ls.set i l) (vs.set i v) w := by
  induction ls generalizing vs i with
  | nil => cases vs with
    | nil => simp [denL]
    | cons v vs => exact h.elim
  | cons l ls ih => cases vs with
    | nil => exact h.elim
    | cons v vs => cases i with
      | zero => exact ⟨hl, h.2⟩
      | succ i => exact ⟨h.1, ih h.2 i⟩
theorem denL.one {A : Nat → Prop} {ls : List Leaf} {vs : List Value} {w : World} (h : denL A ls vs w) : ∀ u ∈ vs, u.oneCell' = true := by
  induction ls generalizing vs with
  | nil => cases vs with
    | nil => simp
    | cons v vs => exact h.elim
  | cons l ls ih => cases vs with
    | nil => exact h.elim
    | cons v vs =>
      intro u hu
      rcases List.mem_cons.1 hu with rfl | hu
      · exact Leaf.den_one h.1
      · exact ih h.2 u hu

/-- A value: of one cell, or a struct or an array by value (its cells). -/
abbrev V : Type := Sum Leaf (List Leaf)
@[reducible] def V.one (l : Leaf) : V := .inl l
@[reducible] def V.agg (ls : List Leaf) : V := .inr ls
def V.den (A : Nat → Prop) : V → Value → World → Prop
  | .inl l, v, w => l.den A v w
  | .inr ls, v, w => ∃ cs : List Value, v = .agg cs.toArray ∧ denL A ls cs w
/-- The cells of a value. -/
def V.leaves : V → List Leaf
  | .inl l => [l]
  | .inr ls => ls
theorem V.den_mono {A A' : Nat → Prop} {x : V} {v : Value} {w : World} (h : ∀ k, A k → A' k) (hd : x.den A v w) : x.den A' v w := by
  cases x with
  | inl l => exact Leaf.den_mono h hd
  | inr ls => obtain ⟨cs, rfl, hc⟩ := hd; exact ⟨cs, rfl, hc.mono h⟩
theorem V.den_keep {A : Nat → Prop} {x : V} {v : Value} {w w' : World} (h : ∀ k, A k → w'.heap[k]? = w.heap[k]?) (hd : x.den A v w) : x.den A v w' := by
  cases x with
  | inl l => exact Leaf.den_keep h hd
  | inr ls => obtain ⟨cs, rfl, hc⟩ := hd; exact ⟨cs, rfl, hc.keep h⟩
theorem oneCell_cells {v : Value} (h : v.oneCell' = true) : v.cells = #[v] := by
  cases v <;> first | rfl | simp [Value.oneCell'] at h
theorem V.den_cells {A : Nat → Prop} {x : V} {v : Value} {w : World} (hd : x.den A v w) : denL A x.leaves v.cells.toList w := by
  cases x with
  | inl l => rw [oneCell_cells (Leaf.den_one hd)]; exact ⟨hd, trivial⟩
  | inr ls => obtain ⟨cs, rfl, hc⟩ := hd; simpa [Value.cells, V.leaves] using hc

/-- Several values. -/
def denVs (A : Nat → Prop) : List V → List Value → World → Prop
  | [], [], _ => True
  | x :: xs, v :: vs, w => x.den A v w ∧ denVs A xs vs w
  | [], _ :: _, _ => False
  | _ :: _, [], _ => False
theorem denVs.length {A : Nat → Prop} {xs : List V} {vs : List Value} {w : World} (h : denVs A xs vs w) : vs.length = xs.length := by
  induction xs generalizing vs with
  | nil => cases vs with
    | nil => rfl
    | cons v vs => exact h.elim
  | cons l ls ih => cases vs with
    | nil => exact h.elim
    | cons v vs => simp [ih h.2]
theorem denVs.mono {A A' : Nat → Prop} {xs : List V} {vs : List Value} {w : World} (hA : ∀ k, A k → A' k) (h : denVs A xs vs w) : denVs A' xs vs w := by
  induction xs generalizing vs with
  | nil => cases vs with
    | nil => trivial
    | cons v vs => exact h.elim
  | cons l ls ih => cases vs with
    | nil => exact h.elim
    | cons v vs => exact ⟨V.den_mono hA h.1, ih h.2⟩
theorem denVs.keep {A : Nat → Prop} {xs : List V} {vs : List Value} {w w' : World} (hw : ∀ k, A k → w'.heap[k]? = w.heap[k]?) (h : denVs A xs vs w) : denVs A xs vs w' := by
  induction xs generalizing vs with
  | nil => cases vs with
    | nil => trivial
    | cons v vs => exact h.elim
  | cons l ls ih => cases vs with
    | nil => exact h.elim
    | cons v vs => exact ⟨V.den_keep hw h.1, ih h.2⟩
theorem denVs.get {A : Nat → Prop} {xs : List V} {vs : List Value} {w : World} (h : denVs A xs vs w) {i : Nat} {x : V} (hi : xs[i]? = some x) :
    ∃ v, vs[i]? = some v ∧ x.den A v w := by
  induction xs generalizing vs i with
  | nil => simp at hi
  | cons l0 ls ih => cases vs with
    | nil => exact h.elim
    | cons v vs => cases i with
      | zero => simp at hi; subst hi; exact ⟨v, rfl, h.1⟩
      | succ i => simpa using ih h.2 (by simpa using hi)

/-- A result: one value, or several. -/
abbrev R : Type := Sum V (List V)
@[reducible] def R.one (x : V) : R := .inl x
@[reducible] def R.tup (xs : List V) : R := .inr xs
def R.den (A : Nat → Prop) : R → Value → World → Prop
  | .inl x, v, w => x.den A v w
  | .inr xs, v, w => ∃ vs : List Value, v = .tuple vs.toArray ∧ denVs A xs vs w

/-- What the callee may have made, and what was there. -/
def grown (A : Nat → Prop) (w w' : World) (k : Nat) : Prop := A k ∨ (w.heap.size ≤ k ∧ k < w'.heap.size)

/-- Package-level tables: the block, its cells. -/
def tab : List (Nat × List Value) := [(0, [.int .u8 0, .int .u8 1, .int .u8 28, .int .u8 2, .int .u8 29, .int .u8 14, .int .u8 24, .int .u8 3, .int .u8 30, .int .u8 22, .int .u8 20, .int .u8 15, .int .u8 25, .int .u8 17, .int .u8 4, .int .u8 8, .int .u8 31, .int .u8 27, .int .u8 13, .int .u8 23, .int .u8 21, .int .u8 19, .int .u8 16, .int .u8 7, .int .u8 26, .int .u8 12, .int .u8 18, .int .u8 6, .int .u8 11, .int .u8 5, .int .u8 10, .int .u8 9])]
/-- The tables hold what the program's text says. -/
def Glob (w : World) : Prop := ∀ p ∈ tab, p.1 < w.heap.size ∧ ∀ i v, p.2[i]? = some v → w.cell? ⟨p.1, i, none⟩ = some v
/-- A FRAME: the world at the start; borrowed blocks, which may be written. -/
structure Frm where
  w : World
  X : Nat → Prop
/-- What was there is as it was, but for the borrowed blocks. -/
structure Frm.Bel (F : Frm) (w' : World) : Prop where
  os : w'.os = F.w.os
  tape : w'.tape = F.w.tape
  output : w'.output = F.w.output
  size : F.w.heap.size ≤ w'.heap.size
  block : ∀ k, k < F.w.heap.size → ¬ F.X k → w'.heap[k]? = F.w.heap[k]?
  sizes : ∀ k cs t m, F.X k → F.w.heap[k]? = some (.cells cs t m) → ∃ cs' : Array Value, w'.heap[k]? = some (.cells cs' t m) ∧ cs'.size = cs.size
  glob : Glob F.w
  apart : ∀ p ∈ tab, ¬ F.X p.1
@[reducible] def Frm.of (w : World) : Frm := ⟨w, fun _ => False⟩
theorem Frm.Bel.refl (F : Frm) (hg : Glob F.w) (ha : ∀ p ∈ tab, ¬ F.X p.1) : F.Bel F.w := ⟨rfl, rfl, rfl, Nat.le_refl _, fun _ _ _ => rfl, fun _ cs _ _ _ h => ⟨cs, h, rfl⟩, hg, ha⟩
theorem Frm.Bel.now {F : Frm} {w' : World} (h : F.Bel w') : Glob w' := by
  intro p hp
  obtain ⟨h1, h2⟩ := h.glob p hp
  refine ⟨Nat.lt_of_lt_of_le h1 h.size, fun i v hv => ?_⟩
  rw [← h2 i v hv]
  exact World.cell?_of_block (h.block p.1 h1 (h.apart p hp))
theorem Frm.Bel.then {F : Frm} {w w' : World} (h : F.Bel w) (k : Below F.w.heap.size w w') : F.Bel w' :=
  ⟨k.os.trans h.os, k.tape.trans h.tape, k.output.trans h.output, Nat.le_trans h.size k.size, fun i hi hx => (k.block i hi).trans (h.block i hi hx),
    fun i cs t m hx hi => by
      obtain ⟨cs', h1, h2⟩ := h.sizes i cs t m hx hi
      exact ⟨cs', by rw [k.block i (Array.getElem?_eq_some_iff.1 hi).1]; exact h1, h2⟩, h.glob, h.apart⟩
theorem Frm.Bel.to_below {w w' : World} (h : (Frm.of w).Bel w') : Below w.heap.size w w' := ⟨h.os, h.tape, h.output, h.size, fun k hk => h.block k hk (fun h => h)⟩

/-- A CONTRACT: at arguments that represent xs the function returns what represents y; memory that was there is as it was; the result lies in the arguments' memory or in new memory. -/
def Ctr (P : Program) (f : Nat) (xs : List V) (y : R) : Prop :=
  ∀ (w : World) (vs : List Value) (A : Nat → Prop), Glob w → (∀ k, A k → k < w.heap.size) → denVs A xs vs w →
    Calls P f vs.toArray w fun e w' => ∃ v, e = .returned v ∧ y.den (grown A w w') v w' ∧ Below w.heap.size w w'

/-! ## The state within a function -/

/-- Where the function's own blocks lie, their capacities, whether a row is nil; the memory of all that is represented. -/
structure Env where
  b : Nat → Nat
  cap : Nat → Nat
  nil : Nat → Bool
  A : Nat → Prop

/-- What a slot holds: a value; several values; a pointer into own block i; the slice that is own row i. -/
abbrev D : Type := Sum V (Sum (List V) (Sum (Nat × Nat) (Nat × Nat × Nat)))
@[reducible] def D.v (x : V) : D := .inl x
@[reducible] def D.tup (xs : List V) : D := .inr (.inl xs)
@[reducible] def D.ptr (i off : Nat) : D := .inr (.inr (.inl (i, off)))
@[reducible] def D.part (i off n : Nat) : D := .inr (.inr (.inr (i, off, n)))
@[reducible] def D.own (i n : Nat) : D := .inr (.inr (.inr (i, 0, n)))
@[reducible] def D.val (v : Value) : D := .inl (.inl (.inl v))
@[reducible] def D.rep (r : Rep) : D := .inl (.inl (.inr r))
@[reducible] def D.agg (ls : List Leaf) : D := .inl (.inr ls)
@[reducible] def D.int (n : Int) : D := .inl (.inl (.inl (.int .i64 n)))
@[reducible] def D.bool (b : Bool) : D := .inl (.inl (.inl (.bool b)))

def D.den (E : Env) : D → Value → World → Prop
  | .inl x, v, w => x.den E.A v w
  | .inr (.inl xs), v, w => ∃ vs : List Value, v = .tuple vs.toArray ∧ denVs E.A xs vs w
  | .inr (.inr (.inl (i, off))), v, _ => v = .pointer (some ⟨E.b i, off, none⟩)
  | .inr (.inr (.inr (i, off, n))), v, _ => v = if E.nil i then .slice none 0 0 else .slice (some ⟨E.b i, off, none⟩) n (E.cap i - off)

/-- An own block: its type, what its cells hold; a box, or a row of elements of so many cells. -/
structure HE where
  t : Nat
  ls : List Leaf
  row : Option Nat
  pin : Option Nat
/-- A block of one's own: made since, or borrowed. -/
def Frm.mine (F : Frm) (p : Option Nat) (b : Nat) : Prop :=
  match p with
  | none => F.w.heap.size ≤ b
  | some q => b = q ∧ F.X q

def HE.ok (E : Env) (i : Nat) (e : HE) (w : World) : Prop :=
  match e.row with
  | none => E.nil i = false ∧ ∃ cs : List Value, w.heap[E.b i]? = some (.cells cs.toArray e.t (0, 0)) ∧ denL E.A e.ls cs w
  | some sz => if E.nil i then e.ls = [] ∧ E.cap i = 0 else
      E.cap i ≤ maxLen ∧ ∃ cs rest : List Value, w.heap[E.b i]? = some (.cells (cs ++ rest).toArray e.t (0, 0)) ∧ (cs ++ rest).length = E.cap i * sz ∧ denL E.A e.ls cs w

/-- What is known of the slots: the newest first. -/
abbrev Gam := List (Nat × Option D)
def look : Gam → Nat → Option D
  | [], _ => none
  | (k, d) :: g, s => bif Nat.beq k s then d else look g s
def putG (g : Gam) (dst : Option Nat) (d : Option D) : Gam :=
  match dst with
  | some s => (s, d) :: g
  | none => g
abbrev Hp := List (Option HE)
/-- The own block that a slot's value names. -/
def D.nm : D → Option Nat
  | .inl _ => none
  | .inr (.inl _) => none
  | .inr (.inr (.inl (i, _))) => some i
  | .inr (.inr (.inr (i, _))) => some i
/-- The name of an own block is in use. -/
def D.okn (H : Hp) : D → Prop
  | .inl _ => True
  | .inr (.inl _) => True
  | .inr (.inr (.inl (i, _))) => ∃ e, H[i]? = some (some e)
  | .inr (.inr (.inr (i, _))) => ∃ e, H[i]? = some (some e)
theorem D.okn_iff {H : Hp} {d : D} : d.okn H ↔ ∀ i, d.nm = some i → ∃ e, H[i]? = some (some e) := by
  rcases d with x | xs | ⟨i, o⟩ | ⟨i, n⟩
  · exact ⟨fun _ i h => by simp [D.nm] at h, fun _ => trivial⟩
  · exact ⟨fun _ i h => by simp [D.nm] at h, fun _ => trivial⟩
  · exact ⟨fun h j hj => by cases hj; exact h, fun h => h i rfl⟩
  · exact ⟨fun h j hj => by cases hj; exact h, fun h => h i rfl⟩
theorem D.okn_mono {H H' : Hp} {d : D} (hd : d.okn H) (h : ∀ i e, d.nm = some i → H[i]? = some (some e) → ∃ e', H'[i]? = some (some e')) : d.okn H' := by
  rw [D.okn_iff] at hd ⊢
  intro i hi
  obtain ⟨e, he⟩ := hd i hi
  exact h i e hi he
theorem okn_new {H : Hp} {e : HE} : ∃ e', (H ++ [some e])[H.length]? = some (some e') := ⟨e, by simp⟩
theorem okn_app {H : Hp} {x : Option HE} {i : Nat} {e : HE} (h : H[i]? = some (some e)) : ∃ e', (H ++ [x])[i]? = some (some e') :=
  ⟨e, by rw [List.getElem?_append_left (List.getElem?_eq_some_iff.1 h).1]; exact h⟩
theorem D.okn.mono_app {H : Hp} {x : Option HE} {d : D} (h : d.okn H) : d.okn (H ++ [x]) := D.okn_mono h fun _ _ _ h => okn_app h
theorem okn_set {H : Hp} {e e0 : HE} {i j : Nat} (h : H[j]? = some (some e0)) : ∃ e', (H.set i (some e))[j]? = some (some e') := by
  by_cases hij : i = j
  · subst hij; exact ⟨e, List.getElem?_set_self (List.getElem?_eq_some_iff.1 h).1⟩
  · exact ⟨e0, by rw [List.getElem?_set_ne hij]; exact h⟩
theorem D.okn.mono_set {H : Hp} {i : Nat} {e : HE} {d : D} (h : d.okn H) : d.okn (H.set i (some e)) := D.okn_mono h fun _ _ _ h => okn_set h
theorem okn_lt {H : Hp} {i : Nat} (h : ∃ e, H[i]? = some (some e)) : i < H.length := let ⟨_, he⟩ := h; (List.getElem?_eq_some_iff.1 he).1

structure Good (w0 : Frm) (A0 : Nat → Prop) (N : Nat) (Γ : Gam) (H : Hp) (E : Env) (a : Act) (w : World) : Prop where
  below : w0.Bel w
  foot : ∀ k, E.A k → k < w.heap.size
  foot0 : ∀ k, E.A k → A0 k ∨ w0.w.heap.size ≤ k
  defers : a.defers = []
  size : a.tmps.size = N
  slots : ∀ s d, look Γ s = some d → d.okn H ∧ ∃ v, a.tmps[s]? = some v ∧ d.den E v w
  boxes : ∀ i e, H[i]? = some (some e) → e.ok E i w ∧ (E.nil i = false → w0.mine e.pin (E.b i) ∧ ¬ E.A (E.b i))
  apart : ∀ i j e e', H[i]? = some (some e) → H[j]? = some (some e') → E.nil i = false → E.nil j = false → i ≠ j → E.b i ≠ E.b j

def St (w0 : Frm) (A0 : Nat → Prop) (N : Nat) (Γ : Gam) (H : Hp) (a : Act) (w : World) : Prop := ∃ E, Good w0 A0 N Γ H E a w
/-! ## How the state moves -/

theorem look_cons (k : Nat) (d : Option D) (g : Gam) (s : Nat) : look ((k, d) :: g) s = bif Nat.beq k s then d else look g s := rfl
theorem look_cons_self (k : Nat) (d : Option D) (g : Gam) : look ((k, d) :: g) k = d := by simp [look_cons]
theorem look_cons_ne {k s : Nat} (h : k ≠ s) (d : Option D) (g : Gam) : look ((k, d) :: g) s = look g s := by
  rw [look_cons]
  have : Nat.beq k s = false := by
    cases hb : Nat.beq k s
    · rfl
    · exact absurd (Nat.eq_of_beq_eq_true hb) h
  rw [this]; rfl

theorem D.den_keep {E : Env} {d : D} {v : Value} {w w' : World} (h : ∀ k, E.A k → w'.heap[k]? = w.heap[k]?) (hd : d.den E v w) : d.den E v w' := by
  rcases d with x | xs | p | q
  · exact V.den_keep h hd
  · obtain ⟨vs, rfl, hv⟩ := hd; exact ⟨vs, rfl, hv.keep h⟩
  · exact hd
  · exact hd
/-- The memory of what is represented may be said to be larger. -/
theorem D.den_grow {E : Env} {A' : Nat → Prop} {d : D} {v : Value} {w : World} (h : ∀ k, E.A k → A' k) (hd : d.den E v w) : d.den { E with A := A' } v w := by
  rcases d with x | xs | p | q
  · exact V.den_mono h hd
  · obtain ⟨vs, rfl, hv⟩ := hd; exact ⟨vs, rfl, hv.mono h⟩
  · exact hd
  · exact hd
theorem HE.ok_keep {E : Env} {i : Nat} {e : HE} {w w' : World} (h : ∀ k, E.A k → w'.heap[k]? = w.heap[k]?)
    (hb : E.nil i = false → w'.heap[E.b i]? = w.heap[E.b i]?) (hd : e.ok E i w) : e.ok E i w' := by
  unfold HE.ok at *
  split <;> rename_i hr
  · rw [hr] at hd; obtain ⟨hn, cs, hc, hl⟩ := hd; exact ⟨hn, cs, by rw [hb hn]; exact hc, hl.keep h⟩
  · rw [hr] at hd
    by_cases hn : E.nil i = true
    · simp only [hn, if_true] at hd ⊢; exact hd
    · simp only [hn] at hd ⊢
      obtain ⟨hm, cs, rest, hc, hl, hd⟩ := hd
      exact ⟨hm, cs, rest, by rw [hb (by simpa using hn)]; exact hc, hl, hd.keep h⟩
theorem HE.ok_grow {E : Env} {A' : Nat → Prop} {i : Nat} {e : HE} {w : World} (h : ∀ k, E.A k → A' k) (hd : e.ok E i w) : e.ok { E with A := A' } i w := by
  unfold HE.ok at *
  split <;> rename_i hr
  · rw [hr] at hd; obtain ⟨hn, cs, hc, hl⟩ := hd; exact ⟨hn, cs, hc, hl.mono h⟩
  · rw [hr] at hd
    by_cases hn : E.nil i = true
    · simp only [hn, if_true] at hd ⊢; exact hd
    · simp only [hn] at hd ⊢
      obtain ⟨hm, cs, rest, hc, hl, hd⟩ := hd
      exact ⟨hm, cs, rest, hc, hl, hd.mono h⟩
theorem HE.ok_lt {E : Env} {i : Nat} {e : HE} {w : World} (hd : e.ok E i w) (hn : E.nil i = false) : E.b i < w.heap.size := by
  unfold HE.ok at hd
  split at hd
  · obtain ⟨_, cs, hc, _⟩ := hd; exact (Array.getElem?_eq_some_iff.1 hc).1
  · simp only [hn] at hd; obtain ⟨_, cs, rest, hc, _⟩ := hd; exact (Array.getElem?_eq_some_iff.1 hc).1

section
variable {w0 : Frm} {A0 : Nat → Prop} {N : Nat} {Γ : Gam} {H : Hp} {E : Env} {a : Act} {w : World}

theorem Good.drew (h : Good w0 A0 N Γ H E a w) : Good w0 A0 N Γ H E a w.drew :=
  ⟨h.below.then ((Below.refl _ _).drew), h.foot, h.foot0, h.defers, h.size, fun s d hs => let ⟨ho, v, hv, hd⟩ := h.slots s d hs; ⟨ho, v, hv, D.den_keep (w := w) (fun _ _ => rfl) hd⟩,
    fun i e he => ⟨HE.ok_keep (w := w) (fun _ _ => rfl) (fun _ => rfl) (h.boxes i e he).1, (h.boxes i e he).2⟩, h.apart⟩

theorem put_get_self (a : Act) (s : Nat) (v : Value) (h : s < a.tmps.size) : (a.put (some s) v).tmps[s]? = some v := by
  simp [Act.put, h]
theorem put_get_ne (a : Act) (s t : Nat) (v : Value) (h : s ≠ t) : (a.put (some s) v).tmps[t]? = a.tmps[t]? := by
  simp [Act.put, Array.getElem?_setIfInBounds_ne h]
theorem put_size (a : Act) (dst : Option Nat) (v : Value) : (a.put dst v).tmps.size = a.tmps.size := by cases dst <;> simp [Act.put]
theorem put_defers (a : Act) (dst : Option Nat) (v : Value) : (a.put dst v).defers = a.defers := by cases dst <;> rfl

def dstOk (N : Nat) : Option Nat → Bool
  | some s => Nat.blt s N
  | none => true

/-- A slot is written. -/
theorem Good.put (h : Good w0 A0 N Γ H E a w) {dst : Option Nat} {v : Value} {d : Option D} (hd : ∀ x, d = some x → x.okn H ∧ x.den E v w) (hN : dstOk N dst = true) :
    Good w0 A0 N (putG Γ dst d) H E (a.put dst v) w := by
  refine ⟨h.below, h.foot, h.foot0, by rw [put_defers]; exact h.defers, by rw [put_size]; exact h.size, ?_, h.boxes, h.apart⟩
  intro s x hs
  cases dst with
  | none => exact h.slots s x hs
  | some t =>
    have ht : t < N := by simpa [dstOk] using hN
    by_cases e : t = s
    · subst e
      simp only [putG, look_cons_self] at hs
      exact ⟨(hd x hs).1, v, put_get_self a t v (by rw [h.size]; exact ht), (hd x hs).2⟩
    · simp only [putG, look_cons_ne e] at hs
      rw [put_get_ne a t s v e]
      exact h.slots s x hs

/-- The world has grown: what was there is as it was. -/
theorem Good.grow (h : Good w0 A0 N Γ H E a w) {w' : World} (hb : Below w.heap.size w w') :
    Good w0 A0 N Γ H { E with A := grown E.A w w' } a w' := by
  have hk : ∀ k, E.A k → w'.heap[k]? = w.heap[k]? := fun k hk => hb.block k (h.foot k hk)
  have hm : ∀ k, E.A k → grown E.A w w' k := fun k hk => .inl hk
  have hs0 : w0.w.heap.size ≤ w.heap.size := h.below.size
  refine ⟨h.below.then (hb.mono hs0), ?_, ?_, h.defers, h.size, ?_, ?_, h.apart⟩
  · intro k hk
    rcases hk with hk | hk
    · exact Nat.lt_of_lt_of_le (h.foot k hk) hb.size
    · exact hk.2
  · intro k hk
    rcases hk with hk | hk
    · exact h.foot0 k hk
    · exact .inr (Nat.le_trans hs0 hk.1)
  · intro s d hs
    obtain ⟨ho, v, hv, hd⟩ := h.slots s d hs
    exact ⟨ho, v, hv, D.den_grow hm (D.den_keep hk hd)⟩
  · intro i e he
    obtain ⟨h1, h2⟩ := h.boxes i e he
    refine ⟨HE.ok_grow hm (HE.ok_keep hk (fun hn => hb.block _ (HE.ok_lt h1 hn)) h1), fun hn => ⟨(h2 hn).1, fun hA => ?_⟩⟩
    rcases hA with hA | hA
    · exact (h2 hn).2 hA
    · have h3 := HE.ok_lt h1 hn; have h4 : w.heap.size ≤ E.b i := hA.1; omega

theorem below_alloc (w : World) (o : Obj) : Below w.heap.size w (w.alloc o) := (Below.refl _ _).alloc (Nat.le_refl _) o

/-- A new own block. -/
theorem Good.alloc (h : Good w0 A0 N Γ H E a w) {t : Nat} {ls : List Leaf} {cs : List Value} {row : Option Nat} {cap : Nat} (hc : denL E.A ls cs w)
    (hrow : ∀ sz, row = some sz → cap ≤ maxLen ∧ cs.length = cap * sz) :
    ∃ E', Good w0 A0 N Γ (H ++ [some ⟨t, ls, row, none⟩]) E' a (w.alloc (.cells cs.toArray t)) ∧ E'.b H.length = w.heap.size ∧ E'.cap H.length = cap ∧ E'.nil H.length = false ∧ E'.A = E.A := by
  let E' : Env := { b := fun i => if i = H.length then w.heap.size else E.b i, cap := fun i => if i = H.length then cap else E.cap i,
                    nil := fun i => if i = H.length then false else E.nil i, A := E.A }
  have hb := below_alloc w (.cells cs.toArray t)
  have hk : ∀ k, E.A k → (w.alloc (.cells cs.toArray t)).heap[k]? = w.heap[k]? := fun k hk => hb.block k (h.foot k hk)
  have hsz : (w.alloc (.cells cs.toArray t)).heap.size = w.heap.size + 1 := by simp
  have hnew : (w.alloc (.cells cs.toArray t)).heap[w.heap.size]? = some (.cells cs.toArray t (0, 0)) := heap_alloc_new w _
  have hden : ∀ (d : D) v, d.okn H → d.den E v w → d.den E' v (w.alloc (.cells cs.toArray t)) := by
    intro d v ho hd
    have hd := D.den_keep hk hd
    rcases d with x | xs | ⟨i, o⟩ | ⟨i, n⟩
    · exact hd
    · exact hd
    · have hi : i ≠ H.length := Nat.ne_of_lt (okn_lt ho)
      simp only [D.den, E', if_neg hi] at hd ⊢; exact hd
    · have hi : i ≠ H.length := Nat.ne_of_lt (okn_lt ho)
      simp only [D.den, E', if_neg hi] at hd ⊢; exact hd
  have hoks : ∀ (i : Nat) (e : HE), i ≠ H.length → e.ok E i w → e.ok E' i (w.alloc (.cells cs.toArray t)) := by
    intro i e hi he
    have he' := HE.ok_keep (w' := w.alloc (.cells cs.toArray t)) hk (fun hn => hb.block _ (HE.ok_lt he hn)) he
    simp only [HE.ok, E', if_neg hi] at he' ⊢
    exact he'
  refine ⟨E', ⟨h.below.then (hb.mono h.below.size), ?_, h.foot0, h.defers, h.size, ?_, ?_, ?_⟩, by simp [E'], by simp [E'], by simp [E'], rfl⟩
  · intro k hk; have := h.foot k hk; omega
  · intro s d hs
    obtain ⟨ho, v, hv, hd⟩ := h.slots s d hs
    exact ⟨ho.mono_app, v, hv, hden d v ho hd⟩
  · intro i e he
    by_cases hi : i = H.length
    · subst hi
      simp at he
      subst he
      refine ⟨?_, fun _ => ⟨by simp only [E', if_true]; exact h.below.size, by simp only [E', if_true]; intro hA; have := h.foot _ hA; omega⟩⟩
      cases row with
      | none => exact ⟨by simp [E'], cs, by simpa [E'] using hnew, hc.keep hk⟩
      | some sz =>
        obtain ⟨h1, h2⟩ := hrow sz rfl
        simp only [HE.ok, E', if_true]
        exact ⟨h1, cs, [], by simpa using hnew, by simpa using h2, hc.keep hk⟩
    · have hlt : i < H.length := by
        have := (List.getElem?_eq_some_iff.1 he).1
        simp at this; omega
      rw [List.getElem?_append_left hlt] at he
      obtain ⟨h1, h2⟩ := h.boxes i e he
      refine ⟨hoks i e hi h1, fun hn => ?_⟩
      simp only [E', if_neg hi] at hn ⊢
      exact h2 hn
  · intro i j e e' he he' hn hn' hij
    have old : ∀ (i : Nat) (e : HE), (H ++ [some ⟨t, ls, row, none⟩])[i]? = some (some e) → i ≠ H.length → H[i]? = some (some e) := by
      intro i e he hi
      have hlt : i < H.length := by
        have := (List.getElem?_eq_some_iff.1 he).1
        simp at this; omega
      rwa [List.getElem?_append_left hlt] at he
    by_cases hi : i = H.length
    · have hj : j ≠ H.length := fun e => hij (hi.trans e.symm)
      simp only [E', if_neg hj] at hn' ⊢
      rw [if_pos hi]
      have := HE.ok_lt (h.boxes j e' (old j e' he' hj)).1 hn'
      omega
    · by_cases hj : j = H.length
      · simp only [E', if_neg hi] at hn ⊢
        rw [if_pos hj]
        have := HE.ok_lt (h.boxes i e (old i e he hi)).1 hn
        omega
      · simp only [E', if_neg hi, if_neg hj] at hn hn' ⊢
        exact h.apart i j e e' (old i e he hi) (old j e' he' hj) hn hn' hij

/-- A store into an own block: its cells are replaced. -/
theorem Good.setRow (h : Good w0 A0 N Γ H E a w) {i : Nat} {e : HE} (he : H[i]? = some (some e)) (hn : E.nil i = false) {ls' : List Leaf} {cs' rest' : List Value} {cs0 : Array Value}
    (h0 : w.heap[E.b i]? = some (.cells cs0 e.t (0, 0))) (hl : cs0.size = (cs' ++ rest').length) (hbox : e.row = none → rest' = []) (hd : denL E.A ls' cs' w) :
    Good w0 A0 N Γ (H.set i (some { e with ls := ls' })) E a (w.setRow (E.b i) (cs' ++ rest').toArray) := by
  obtain ⟨h1, h2⟩ := h.boxes i e he
  obtain ⟨h3, h4⟩ := h2 hn
  have hi : i < H.length := (List.getElem?_eq_some_iff.1 he).1
  have hk : ∀ k, E.A k → (w.setRow (E.b i) (cs' ++ rest').toArray).heap[k]? = w.heap[k]? := fun k hk =>
    setRow_other w _ k _ (fun e => h4 (e ▸ hk))
  have hnew := setRow_heap w (E.b i) cs0 (cs' ++ rest').toArray e.t (0, 0) h0
  have hname : (H.set i (some { e with ls := ls' })).length = H.length := by simp
  refine ⟨?_, ?_, h.foot0, h.defers, h.size, ?_, ?_, ?_⟩
  · refine ⟨h.below.os, h.below.tape, h.below.output, by rw [setRow_size]; exact h.below.size, fun k hk hx => ?_, fun k cs t m hx hk => ?_, h.below.glob, h.below.apart⟩
    rw [setRow_other w _ k _ (fun e' => ?_)]
    · exact h.below.block k hk hx
    · subst e'
      cases hp : e.pin with
      | none => rw [hp] at h3; have : w0.w.heap.size ≤ E.b i := h3; omega
      | some q => rw [hp] at h3; obtain ⟨h5, h6⟩ := h3; rw [h5] at hx; exact hx h6
    · obtain ⟨cs1, g1, g2⟩ := h.below.sizes k cs t m hx hk
      by_cases hb : k = E.b i
      · subst hb
        rw [h0] at g1
        cases g1
        exact ⟨_, hnew, by rw [← g2, hl]; simp⟩
      · exact ⟨cs1, by rw [setRow_other w _ k _ hb]; exact g1, g2⟩
  · intro k hk'; rw [setRow_size]; exact h.foot k hk'
  · intro s d hs
    obtain ⟨ho, v, hv, hd⟩ := h.slots s d hs
    exact ⟨ho.mono_set, v, hv, D.den_keep hk hd⟩
  · intro j e' he'
    by_cases hj : i = j
    · subst hj
      rw [List.getElem?_set_self hi] at he'
      simp only [Option.some.injEq] at he'
      subst he'
      refine ⟨?_, h2⟩
      unfold HE.ok at h1 ⊢
      cases hr : e.row with
      | none =>
        rw [hr] at h1
        simp only []
        rw [hbox hr, List.append_nil] at hnew ⊢
        exact ⟨hn, cs', hnew, by rw [hbox hr, List.append_nil] at hk; exact hd.keep hk⟩
      | some sz =>
        rw [hr] at h1
        simp only [hn] at h1 ⊢
        obtain ⟨hm, cs1, rest1, hc1, hl1, _⟩ := h1
        rw [hc1] at h0
        cases h0
        refine ⟨hm, cs', rest', hnew, ?_, hd.keep hk⟩
        rw [← hl, ← hl1]; simp
    · rw [List.getElem?_set_ne hj] at he'
      obtain ⟨g1, g2⟩ := h.boxes j e' he'
      refine ⟨HE.ok_keep hk (fun hn' => setRow_other w _ _ _ ?_) g1, g2⟩
      exact fun hb => h.apart i j e e' he he' hn hn' hj hb.symm
  · intro j1 j2 e1 e2 he1 he2 hn1 hn2 h12
    have back : ∀ (j : Nat) (e1 : HE), (H.set i (some { e with ls := ls' }))[j]? = some (some e1) → ∃ e2, H[j]? = some (some e2) := by
      intro j e1 h1
      by_cases hj : i = j
      · subst hj; exact ⟨e, he⟩
      · rw [List.getElem?_set_ne hj] at h1; exact ⟨e1, h1⟩
    obtain ⟨e1', g1⟩ := back j1 e1 he1
    obtain ⟨e2', g2⟩ := back j2 e2 he2
    exact h.apart j1 j2 e1' e2' g1 g2 hn1 hn2 h12
end
/-! ## Judgements -/

/-- Does an operation act on memory, or call? (len is quiet.) -/
def isEff (o : Oper) : Bool :=
  match o.op with
  | .move _ | .assign _ | .pick _ _ _ | .load _ _ | .nilCheck _ | .binOp _ _ _ _ _ | .unOp _ _ _ | .convert _ _ _ | .build _ _
  | .slice _ _ _ _ _ | .fieldAddr _ _ _ | .field _ _ _ | .indexAddr _ _ _ | .index _ _ _ | .extract _ _ | .makeInterface _ _ => false
  | .call c => match c.callee with | .builtin .len => false | .builtin .min => false | .builtin .max => false | _ => true
  | _ => true

/-- A quiet operation: in every state that agrees on its slots, and on the own blocks beside X, it yields what d says. -/
def Jq (P : Program) (ops : Array Oper) (X : List Nat) (o : Oper) (Γ : Gam) (H : Hp) (d : D) : Prop :=
  ∀ (w0 : Frm) (A0 : Nat → Prop) (N : Nat) (Γ2 : Gam) (H2 : Hp) (E : Env) (a : Act) (w : World),
    (∀ s ∈ o.looksAt ops, look Γ2 s = look Γ s) → (∀ i e, i ∉ X → H[i]? = some (some e) → H2[i]? = some (some e)) → Good w0 A0 N Γ2 H2 E a w →
    d.okn H2 ∧ ∃ v, (execOp a.eval o).run P w = .ok (.value v) w ∧ d.den E v w

/-- An operation that acts: from the own blocks H to H'. -/
def Je (P : Program) (ops : Array Oper) (o : Oper) (Γ : Gam) (H : Hp) (d : Option D) (H' : Hp) : Prop :=
  ∀ (w0 : Frm) (A0 : Nat → Prop) (N : Nat) (Γ2 : Gam) (a : Act) (w : World) (Q : Exit → Act → World → Prop) (K : Act → World → Prop),
    (∀ s ∈ o.looksAt ops, look Γ2 s = look Γ s) → dstOk N o.dst = true → St w0 A0 N Γ2 H a w →
    (∀ a' w', St w0 A0 N (putG Γ2 o.dst d) H' a' w' → K a' w') → o.wp P a w K Q

/-- An operation in its region, its guard among it. -/
def JO (P : Program) (ops : Array Oper) (X : List Nat) (o : Oper) (Γ : Gam) (H : Hp) (d : Option D) (H' : Hp) : Prop :=
  ∀ (w0 : Frm) (A0 : Nat → Prop) (N : Nat) (Γ2 : Gam) (H2 : Hp) (a : Act) (w : World) (Q : Exit → Act → World → Prop) (K : Act → World → Prop),
    (∀ s ∈ o.looksAt ops, look Γ2 s = look Γ s) → (if isEff o then H2 = H else ∀ i e, i ∉ X → H[i]? = some (some e) → H2[i]? = some (some e)) →
    dstOk N o.dst = true → St w0 A0 N Γ2 H2 a w →
    (∀ a' w', St w0 A0 N (putG Γ2 o.dst d) (if isEff o then H' else H2) a' w' → K a' w') →
    if Region.wanted o (yielded ops a.tmps) then o.wp P a w K Q else K (a.put o.dst undef) w

section
variable {P : Program} {ops : Array Oper} {X : List Nat} {o : Oper} {Γ : Gam} {H H' : Hp} {d : D} {d' : Option D}

theorem wp_value {a : Act} {w : World} {v : Value} {K : Act → World → Prop} {Q : Exit → Act → World → Prop} (h : (execOp a.eval o).run P w = .ok (.value v) w) (hK : K (a.put o.dst v) w) :
    o.wp P a w K Q := by
  unfold Oper.wp; rw [h]; exact hK

/-- The guard's slot, if there is a guard. -/
theorem guard_mem {j : Nat} {want : Bool} (hg : o.guard = some (j, want)) {s : Nat} (hj : (ops[j]?).bind (·.dst) = some s) : s ∈ o.looksAt ops := by
  unfold Oper.looksAt; rw [hg]; simp [hj]
theorem wanted_of {w0 : Frm} {A0 : Nat → Prop} {N : Nat} {H2 : Hp} {E : Env} {a : Act} {w : World} {Γ2 : Gam} {j : Nat} {want b : Bool} (hg : o.guard = some (j, want)) {s : Nat} (hj : (ops[j]?).bind (·.dst) = some s)
    (hs : look Γ2 s = some (D.bool b)) (hG : Good w0 A0 N Γ2 H2 E a w) : Region.wanted o (yielded ops a.tmps) = (b == want) := by
  obtain ⟨_, v, hv, hd⟩ := hG.slots s _ hs
  obtain ⟨rfl, _⟩ : v = .bool b ∧ _ := hd
  simp [Region.wanted, hg, yielded, hj, hv]

theorem JO_q (hg : o.guard = none) (he : isEff o = false) (h : Jq P ops X o Γ H d) : JO P ops X o Γ H (some d) H := by
  intro w0 A0 N Γ2 H2 a w Q K hs hH hN hSt hK
  rw [he] at hH hK
  obtain ⟨E, hG⟩ := hSt
  obtain ⟨ho, v, hv, hd⟩ := h w0 A0 N Γ2 H2 E a w hs hH hG
  rw [if_pos (by simp [Region.wanted, hg])]
  exact wp_value hv (hK _ _ ⟨E, hG.put (fun x hx => by cases hx; exact ⟨ho, hd⟩) hN⟩)
theorem JO_qg {j s : Nat} {want : Bool} (hg : o.guard = some (j, want)) (hj : (ops[j]?).bind (·.dst) = some s) (hl : look Γ s = some (D.bool want)) (he : isEff o = false)
    (h : Jq P ops X o Γ H d) : JO P ops X o Γ H (some d) H := by
  intro w0 A0 N Γ2 H2 a w Q K hs hH hN hSt hK
  rw [he] at hH hK
  obtain ⟨E, hG⟩ := hSt
  obtain ⟨ho, v, hv, hd⟩ := h w0 A0 N Γ2 H2 E a w hs hH hG
  rw [wanted_of hg hj (by rw [hs s (guard_mem hg hj)]; exact hl) hG, if_pos (by simp)]
  exact wp_value hv (hK _ _ ⟨E, hG.put (fun x hx => by cases hx; exact ⟨ho, hd⟩) hN⟩)
theorem skip_put {w0 : Frm} {A0 : Nat → Prop} {N : Nat} {Γ2 : Gam} {H2 : Hp} {E : Env} {a : Act} {w : World} (hG : Good w0 A0 N Γ2 H2 E a w) (hN : dstOk N o.dst = true) :
    Good w0 A0 N (putG Γ2 o.dst (some (D.tup []))) H2 E (a.put o.dst undef) w :=
  hG.put (fun x hx => by cases hx; exact ⟨trivial, [], rfl, trivial⟩) hN
theorem not_wanted {w0 : Frm} {A0 : Nat → Prop} {N : Nat} {H2 : Hp} {E : Env} {a : Act} {w : World} {Γ2 : Gam} {j : Nat} {want : Bool} (hg : o.guard = some (j, want)) {s : Nat} (hj : (ops[j]?).bind (·.dst) = some s)
    (hs : look Γ2 s = some (D.tup [])) (hG : Good w0 A0 N Γ2 H2 E a w) : Region.wanted o (yielded ops a.tmps) = false := by
  obtain ⟨_, v, hv, vs, hd, _⟩ := hG.slots s _ hs
  simp [Region.wanted, hg, yielded, hj, hv, hd]
/-- What its guard says: the bool, or nothing where the guard's own operation was not asked for. -/
def unasked (Γ : Gam) (s : Nat) (want : Bool) : Prop := look Γ s = some (D.bool (!want)) ∨ look Γ s = some (D.tup [])
theorem JO_skip' {j s : Nat} {want : Bool} (hg : o.guard = some (j, want)) (hj : (ops[j]?).bind (·.dst) = some s) (hl : unasked Γ s want) : JO P ops X o Γ H (some (D.tup [])) H := by
  intro w0 A0 N Γ2 H2 a w Q K hs hH hN hSt hK
  obtain ⟨E, hG⟩ := hSt
  have hw : Region.wanted o (yielded ops a.tmps) = false := by
    rcases hl with hl | hl
    · rw [wanted_of hg hj (by rw [hs s (guard_mem hg hj)]; exact hl) hG]; simp
    · exact not_wanted hg hj (by rw [hs s (guard_mem hg hj)]; exact hl) hG
  rw [if_neg (by rw [hw]; simp)]
  refine hK _ _ ⟨E, ?_⟩
  have hHe : (if isEff o = true then H else H2) = H2 := by
    by_cases he : isEff o = true
    · rw [if_pos he] at hH ⊢; exact hH.symm
    · rw [if_neg he]
  rw [hHe]
  exact skip_put hG hN
theorem JO_skip {j s : Nat} {want : Bool} (hg : o.guard = some (j, want)) (hj : (ops[j]?).bind (·.dst) = some s) (hl : look Γ s = some (D.bool (!want))) : JO P ops X o Γ H (some (D.tup [])) H := JO_skip' hg hj (.inl hl)
theorem JO_skipU {j s : Nat} {want : Bool} (hg : o.guard = some (j, want)) (hj : (ops[j]?).bind (·.dst) = some s) (hl : look Γ s = some (D.tup [])) : JO P ops X o Γ H (some (D.tup [])) H := JO_skip' hg hj (.inr hl)
theorem JO_e (hg : o.guard = none) (he : isEff o = true) (h : Je P ops o Γ H d' H') : JO P ops X o Γ H d' H' := by
  intro w0 A0 N Γ2 H2 a w Q K hs hH hN hSt hK
  rw [he] at hH hK
  simp only [if_true] at hH hK
  subst hH
  rw [if_pos (by simp [Region.wanted, hg])]
  exact h w0 A0 N Γ2 a w Q K hs hN hSt hK
theorem JO_eg {j s : Nat} {want : Bool} (hg : o.guard = some (j, want)) (hj : (ops[j]?).bind (·.dst) = some s) (hl : look Γ s = some (D.bool want)) (he : isEff o = true)
    (h : Je P ops o Γ H d' H') : JO P ops X o Γ H d' H' := by
  intro w0 A0 N Γ2 H2 a w Q K hs hH hN hSt hK
  rw [he] at hH hK
  simp only [if_true] at hH hK
  subst hH
  have hSt' := hSt
  obtain ⟨E, hG⟩ := hSt'
  rw [wanted_of hg hj (by rw [hs s (guard_mem hg hj)]; exact hl) hG, if_pos (by simp)]
  exact h w0 A0 N Γ2 a w Q K hs hN hSt hK
end

/-! ## Lists of operations, code -/

/-- From every state that Γ and H describe the rest of the region runs to where K holds. -/
def Tl (P : Program) (ops : Array Oper) (Q : Exit → Act → World → Prop) (w0 : Frm) (A0 : Nat → Prop) (N : Nat) (Γ : Gam) (H : Hp) (l : List Oper) : Prop :=
  ∀ a w, St w0 A0 N Γ H a w → wpList P ops Q l a w
def Tc (P : Program) (Q : Exit → Act → World → Prop) (w0 : Frm) (A0 : Nat → Prop) (N : Nat) (Γ : Gam) (H : Hp) (c : Code) : Prop :=
  ∀ a w, St w0 A0 N Γ H a w → c.wp P Q a w

section
variable {P : Program} {ops : Array Oper} {Q : Exit → Act → World → Prop} {w0 : Frm} {A0 : Nat → Prop} {N : Nat} {Γ : Gam} {H H' : Hp}

theorem Tl_step {o : Oper} {rest : List Oper} {d : Option D} (h : JO P ops [] o Γ H d H') (hq : isEff o = false → H' = H) (hN : dstOk N o.dst = true)
    (hr : Tl P ops Q w0 A0 N (putG Γ o.dst d) H' rest) : Tl P ops Q w0 A0 N Γ H (o :: rest) := by
  intro a w hSt
  have := h w0 A0 N Γ H a w Q (wpList P ops Q rest) (fun _ _ => rfl) (by split <;> simp) hN hSt (fun a' w' hs => hr a' w' (by
    by_cases he : isEff o = true
    · rwa [if_pos he] at hs
    · rw [if_neg he] at hs; rwa [hq (by simpa using he)]))
  unfold wpList
  split
  · rename_i hw; rw [if_pos hw] at this; exact .inl this
  · rename_i hw; rw [if_neg hw] at this; exact this

theorem Tl_nil (h : ∀ a w, St w0 A0 N Γ H a w → Q .normal a w) : Tl P ops Q w0 A0 N Γ H [] := fun a w hs => wpList_nil (h a w hs)
theorem Tc_region {id : Nat} {l : List Oper} (h : Tl P l.toArray Q w0 A0 N Γ H l) : Tc P Q w0 A0 N Γ H (.region id l.toArray false) :=
  fun a w hs => wp_region_lit (h a w hs)
theorem Tc_seq {x y : Code} (h : Tc P (Exit.then (y.wp P Q) Q) w0 A0 N Γ H x) : Tc P Q w0 A0 N Γ H (.seq x y) := fun a w hs => wp_seq (h a w hs)
/-- The end of the first part of a sequence: the second one begins. -/
theorem Tl_then {y : Code} (h : Tc P Q w0 A0 N Γ H y) : Tl P ops (Exit.then (y.wp P Q) Q) w0 A0 N Γ H [] := fun a w hs => wpList_nil (h a w hs)
theorem Tc_skip (h : ∀ a w, St w0 A0 N Γ H a w → Q .normal a w) : Tc P Q w0 A0 N Γ H .skip := fun a w hs => wp_skip (h a w hs)
theorem Tc_exit {id : Nat} (h : ∀ a w, St w0 A0 N Γ H a w → Q (.exit id) a w) : Tc P Q w0 A0 N Γ H (.exit id) := fun a w hs => wp_exit (h a w hs)
theorem Tc_block {id : Nat} {c : Code} (h : Tc P (Exit.inBlock id Q) w0 A0 N Γ H c) : Tc P Q w0 A0 N Γ H (.block id c) := fun a w hs => wp_block (h a w hs)
theorem Tc_cond {s : Nat} {x y : Code} {b : Bool} (hl : look Γ s = some (D.bool b)) (ht : b = true → Tc P Q w0 A0 N Γ H x) (hf : b = false → Tc P Q w0 A0 N Γ H y) :
    Tc P Q w0 A0 N Γ H (.cond (.tmp s) x y) := by
  intro a w hs
  have hs' := hs
  obtain ⟨E, hG⟩ := hs'
  obtain ⟨_, v, hv, hd⟩ := hG.slots s _ hl
  obtain ⟨rfl, _⟩ : v = .bool b ∧ _ := hd
  exact wp_cond_split (t := b) (by simp [Act.eval, hv]) (fun h => ht h a w hs) (fun h => hf h a w hs)

/-- What is known may be forgotten. -/
def sub (Γ' Γ : Gam) : Prop := ∀ s d, look Γ' s = some d → look Γ s = some d
theorem St.weaken {a : Act} {w : World} {Γ' : Gam} (h : St w0 A0 N Γ H a w) (hs : sub Γ' Γ) : St w0 A0 N Γ' H a w :=
  let ⟨E, g⟩ := h
  ⟨E, g.below, g.foot, g.foot0, g.defers, g.size, fun s d h => g.slots s d (hs s d h), g.boxes, g.apart⟩
/-- The entries of a list of slots are known. -/
def known (Γ : Gam) : Gam → Prop
  | [] => True
  | (s, some d) :: g => look Γ s = some d ∧ known Γ g
  | (_, none) :: g => known Γ g
theorem sub_of_known {Γ' : Gam} (h : known Γ Γ') : sub Γ' Γ := by
  induction Γ' with
  | nil => intro s d hs; simp [look] at hs
  | cons p g ih =>
    obtain ⟨k, d⟩ := p
    intro s x hs
    rw [look_cons] at hs
    cases hb : Nat.beq k s
    · rw [hb] at hs
      cases d with
      | none => exact ih h s x hs
      | some d => exact ih h.2 s x hs
    · rw [hb] at hs
      have := Nat.eq_of_beq_eq_true hb
      subst this
      cases d with
      | none => simp at hs
      | some d => simp at hs; subst hs; exact h.1

/-- A loop: G s and HH s describe the head of a round in state s. -/
theorem Tc_loop {S : Type} {c : Code} (G : S → Gam) (HH : S → Hp) (μ : S → Nat) (I : S → Prop) (s0 : S) (hI : I s0) (h0 : known Γ (G s0)) (hH : H = HH s0)
    (round : ∀ s, I s → Tc P (Exit.then (fun a w => ∃ s', I s' ∧ μ s' < μ s ∧ St w0 A0 N (G s') (HH s') a w) Q) w0 A0 N (G s) (HH s) c) : Tc P Q w0 A0 N Γ H (.loop c) := by
  intro a w hs
  subst hH
  have hs0 : St w0 A0 N (G s0) (HH s0) a w := hs.weaken (sub_of_known h0)
  intro b k cs
  have key : ∀ n, ∀ s, I s → μ s = n → ∀ a w, St w0 A0 N (G s) (HH s) a w →
      ∃ e a' w', Q e a' w' ∧ Arrives P (lone (b.at a (.code c :: .inLoop c :: k)) cs w) b k cs e a' w' := by
    intro n
    induction n using Nat.strongRecOn with
    | _ n ih =>
      intro s hIs hn a w hst
      obtain ⟨e, a₁, w₁, hq, harr⟩ := round s hIs a w hst b (.inLoop c :: k) cs
      cases e with
      | normal =>
        obtain ⟨s', hI', hlt, hst'⟩ := hq
        obtain ⟨e₂, a₂, w₂, hq₂, harr₂⟩ := ih (μ s') (hn ▸ hlt) s' hI' rfl a₁ w₁ hst'
        exact ⟨e₂, a₂, w₂, hq₂, .of_steps (Steps.trans harr (.one step_inLoop)) harr₂⟩
      | exit id => exact ⟨_, a₁, w₁, hq, .pass (x := .inLoop c) rfl (fun _ _ => .inl (by simp)) harr⟩
      | goto l => exact ⟨_, a₁, w₁, hq, .pass (x := .inLoop c) rfl (fun _ _ => .inl (by simp)) harr⟩
      | ret => exact ⟨_, a₁, w₁, hq, .pass (x := .inLoop c) rfl (fun _ _ => .inl (by simp)) harr⟩
      | panic ch => exact ⟨_, a₁, w₁, hq, .pass (x := .inLoop c) rfl (fun _ _ => .inl (by simp)) harr⟩
      | outgrown => exact ⟨_, a₁, w₁, hq, .pass (x := .inLoop c) rfl (fun _ _ => .inl (by simp)) harr⟩
  obtain ⟨e, a', w', hq, harr⟩ := key _ s0 hI rfl a w hs0
  exact ⟨e, a', w', hq, .of_steps (.one step_loop) harr⟩
end
end Rc
