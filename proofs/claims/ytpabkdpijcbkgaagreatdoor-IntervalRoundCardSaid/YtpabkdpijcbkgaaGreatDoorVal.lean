/- Plain mathematics of limbs: the number of a list, the canonical list of a number. -/
namespace Rc

/-- The number of a list of limbs. -/
def val : List Nat → Nat
  | [] => 0
  | x :: xs => x + 4294967296 * val xs

/-- Every limb is less than 2^32. -/
def Small (l : List Nat) : Prop := ∀ x ∈ l, x < 4294967296

/-- Canonical: the last limb is not 0. -/
def Canon (l : List Nat) : Prop := Small l ∧ ∀ h : l ≠ [], l.getLast h ≠ 0

/-- The canonical limbs of a number. -/
def limbs (n : Nat) : List Nat := if h : n = 0 then [] else n % 4294967296 :: limbs (n / 4294967296)
termination_by n
decreasing_by omega

@[simp] theorem val_nil : val [] = 0 := rfl
@[simp] theorem val_cons (x : Nat) (xs : List Nat) : val (x :: xs) = x + 4294967296 * val xs := rfl

theorem Small.nil : Small [] := fun _ h => by simp at h
theorem Small.cons {x : Nat} {l : List Nat} (hx : x < 4294967296) (h : Small l) : Small (x :: l) := by
  intro y hy
  rcases List.mem_cons.1 hy with rfl | hy
  · exact hx
  · exact h y hy
theorem Small.head {x : Nat} {l : List Nat} (h : Small (x :: l)) : x < 4294967296 := h x (by simp)
theorem Small.tail {x : Nat} {l : List Nat} (h : Small (x :: l)) : Small l := fun y hy => h y (by simp [hy])
theorem Small.append {a b : List Nat} (ha : Small a) (hb : Small b) : Small (a ++ b) := by
  intro x hx
  rcases List.mem_append.1 hx with h | h
  · exact ha x h
  · exact hb x h
theorem Small.take {a : List Nat} (ha : Small a) (n : Nat) : Small (a.take n) := fun x hx => ha x (List.mem_of_mem_take hx)
theorem Small.drop {a : List Nat} (ha : Small a) (n : Nat) : Small (a.drop n) := fun x hx => ha x (List.mem_of_mem_drop hx)
theorem Small.get {a : List Nat} (ha : Small a) (i : Nat) (h : i < a.length) : a[i] < 4294967296 := ha _ (List.getElem_mem h)
theorem Small.getD {a : List Nat} (ha : Small a) (i : Nat) : a.getD i 0 < 4294967296 := by
  by_cases h : i < a.length
  · simp [List.getD, h]; exact ha.get i h
  · simp [List.getD, h]
theorem Small.set {a : List Nat} (ha : Small a) (i x : Nat) (hx : x < 4294967296) : Small (a.set i x) := by
  intro y hy
  rcases List.mem_or_eq_of_mem_set hy with h | h
  · exact ha y h
  · omega
theorem Small.replicate (n : Nat) : Small (List.replicate n 0) := by
  intro x hx
  have := (List.mem_replicate.1 hx).2
  omega

theorem val_append (a b : List Nat) : val (a ++ b) = val a + 4294967296 ^ a.length * val b := by
  induction a with
  | nil => simp
  | cons x xs ih => simp only [List.cons_append, val_cons, ih, List.length_cons]; grind

theorem val_replicate (n : Nat) : val (List.replicate n 0) = 0 := by
  induction n with
  | zero => rfl
  | succ n ih => simp [List.replicate_succ, ih]

theorem val_lt {l : List Nat} (h : Small l) : val l < 4294967296 ^ l.length := by
  induction l with
  | nil => simp
  | cons x xs ih =>
    have hx := h.head
    have := ih h.tail
    simp only [val_cons, List.length_cons, Nat.pow_succ]
    omega

theorem val_take_succ (l : List Nat) (i : Nat) (h : i < l.length) : val (l.take (i + 1)) = val (l.take i) + 4294967296 ^ i * l[i] := by
  rw [List.take_succ_eq_append_getElem h, val_append]
  simp [List.length_take, Nat.min_eq_left (Nat.le_of_lt h)]

theorem val_take_getD (l : List Nat) (i : Nat) : val (l.take (i + 1)) = val (l.take i) + 4294967296 ^ i * l.getD i 0 := by
  by_cases h : i < l.length
  · rw [val_take_succ l i h]; simp [List.getD, h]
  · simp [List.getD, h, List.take_of_length_le (Nat.le_of_not_lt h), List.take_of_length_le (Nat.le_succ_of_le (Nat.le_of_not_lt h))]

theorem val_take_drop (l : List Nat) (i : Nat) : val l = val (l.take i) + 4294967296 ^ (min i l.length) * val (l.drop i) := by
  conv => lhs; rw [← List.take_append_drop i l]
  rw [val_append, List.length_take]

theorem limbs_zero : limbs 0 = [] := by unfold limbs; simp
theorem limbs_pos {n : Nat} (h : n ≠ 0) : limbs n = n % 4294967296 :: limbs (n / 4294967296) := by rw [limbs]; simp [h]

theorem val_limbs (n : Nat) : val (limbs n) = n := by
  induction n using Nat.strongRecOn with
  | _ n ih =>
    by_cases h : n = 0
    · subst h; simp [limbs_zero]
    · rw [limbs_pos h, val_cons, ih _ (by omega)]; omega

theorem small_limbs (n : Nat) : Small (limbs n) := by
  induction n using Nat.strongRecOn with
  | _ n ih =>
    by_cases h : n = 0
    · subst h; simp [limbs_zero]; exact Small.nil
    · rw [limbs_pos h]; exact Small.cons (by omega) (ih _ (by omega))

theorem limbs_eq_nil {n : Nat} : limbs n = [] ↔ n = 0 := by
  constructor
  · intro h; have := val_limbs n; rw [h] at this; simp at this; omega
  · rintro rfl; exact limbs_zero

theorem canon_limbs (n : Nat) : Canon (limbs n) := by
  refine ⟨small_limbs n, ?_⟩
  induction n using Nat.strongRecOn with
  | _ n ih =>
    intro h
    have hn : n ≠ 0 := fun e => h (limbs_eq_nil.2 e)
    simp only [limbs_pos hn]
    by_cases h2 : n / 4294967296 = 0
    · simp only [h2, limbs_zero]; simp; omega
    · have h3 : limbs (n / 4294967296) ≠ [] := fun e => h2 (limbs_eq_nil.1 e)
      rw [List.getLast_cons h3]
      exact ih _ (by omega) h3

theorem Canon.tail {x : Nat} {l : List Nat} (h : Canon (x :: l)) : Canon l :=
  ⟨h.1.tail, fun hl => by have := h.2 (by simp); rwa [List.getLast_cons hl] at this⟩

theorem limbs_val {l : List Nat} (h : Canon l) : limbs (val l) = l := by
  induction l with
  | nil => exact limbs_zero
  | cons x xs ih =>
    have hx := h.1.head
    have hne : val (x :: xs) ≠ 0 := by
      intro e
      simp only [val_cons] at e
      have h0 : val xs = 0 := by omega
      have : xs = [] := by rw [← ih h.tail, h0, limbs_zero]
      subst this
      exact h.2 (by simp) (by simp; omega)
    rw [limbs_pos hne]
    have e1 : val (x :: xs) % 4294967296 = x := by simp only [val_cons]; omega
    have e2 : val (x :: xs) / 4294967296 = val xs := by simp only [val_cons]; omega
    rw [e1, e2, ih h.tail]

/-- A canonical list is the list of its number. -/
theorem Canon.eq {l : List Nat} (h : Canon l) : l = limbs (val l) := (limbs_val h).symm

theorem limbs_length_le {n k : Nat} : (limbs n).length ≤ k ↔ n < 4294967296 ^ k := by
  constructor
  · intro h
    have h1 := val_lt (small_limbs n)
    rw [val_limbs] at h1
    exact Nat.lt_of_lt_of_le h1 (Nat.pow_le_pow_right (by omega) h)
  · intro h
    induction k generalizing n with
    | zero => simp at h; subst h; simp [limbs_zero]
    | succ k ih =>
      by_cases hn : n = 0
      · subst hn; simp [limbs_zero]
      · rw [limbs_pos hn]
        simp only [List.length_cons]
        have := ih (n := n / 4294967296) (by rw [Nat.pow_succ] at h; omega)
        omega

/-- Limbs 0 at the end taken away. -/
theorem take_val {l : List Nat} (n : Nat) (h : ∀ i (hi : i < l.length), n ≤ i → l[i] = 0) : val (l.take n) = val l := by
  rw [val_take_drop l n]
  have : val (l.drop n) = 0 := by
    have e : l.drop n = List.replicate (l.length - n) 0 := by
      apply List.ext_getElem
      · simp
      · intro i h1 h2
        simp at h1
        simp
        exact h _ _ (by omega)
    rw [e, val_replicate]
  rw [this]; simp

theorem limbs_take {l : List Nat} (hs : Small l) (n : Nat) (hn : n ≤ l.length) (h : ∀ i (hi : i < l.length), n ≤ i → l[i] = 0)
    (hl : ∀ h0 : 0 < n, l[n - 1] ≠ 0) : l.take n = limbs (val l) := by
  have hc : Canon (l.take n) := by
    refine ⟨hs.take n, fun he => ?_⟩
    have h0 : 0 < n := by
      rcases Nat.eq_zero_or_pos n with h0 | h0
      · subst h0; simp at he
      · exact h0
    have h1 := hl h0
    rw [List.getLast_eq_getElem]
    simp only [List.getElem_take, List.length_take]
    simpa [Nat.min_eq_left hn] using h1
  rw [hc.eq, take_val n h]
end Rc
