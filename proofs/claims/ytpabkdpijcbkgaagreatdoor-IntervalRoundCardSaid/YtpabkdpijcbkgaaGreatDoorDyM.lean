/- Binary digits: zeros at the end; dyadic numbers in their canonical form. -/
import Derived.Test.YtpabkdpijcbkgaaGreatDoorRefM
set_option linter.unusedVariables false
set_option linter.unusedSimpArgs false
namespace Rc
open Go

def tzF : Nat → Nat → Nat
  | 0, _ => 0
  | f + 1, n => if n % 2 = 0 then tzF f (n / 2) + 1 else 0
/-- How many zeros the binary digits of n end in. -/
def tz (n : Nat) : Nat := tzF (bl n) n
theorem tzF_spec : ∀ (f n : Nat), n ≠ 0 → n < 2 ^ f → ∃ m, n = 2 ^ tzF f n * m ∧ m % 2 = 1
  | 0, n, h0, h => by simp at h; omega
  | f + 1, n, h0, h => by
    unfold tzF
    by_cases h2 : n % 2 = 0
    · rw [if_pos h2]
      obtain ⟨m, h3, h4⟩ := tzF_spec f (n / 2) (by omega) (by rw [Nat.pow_succ] at h; omega)
      refine ⟨m, ?_, h4⟩
      rw [Nat.pow_succ, Nat.mul_right_comm, ← h3]; omega
    · rw [if_neg h2]; exact ⟨n, by simp, by omega⟩
theorem tz_spec {n : Nat} (h : n ≠ 0) : ∃ m, n = 2 ^ tz n * m ∧ m % 2 = 1 := tzF_spec _ n h (bl_lt n)
theorem pow_odd_unique {a b m m' : Nat} (h : 2 ^ a * m = 2 ^ b * m') (hm : m % 2 = 1) (hm' : m' % 2 = 1) : a = b ∧ m = m' := by
  have key : ∀ (a c m m' : Nat), 2 ^ a * m = 2 ^ (a + c) * m' → m % 2 = 1 → c = 0 := by
    intro a c m m' h hm
    rw [Nat.pow_add, Nat.mul_assoc] at h
    have := Nat.eq_of_mul_eq_mul_left (Nat.two_pow_pos a) h
    cases c with
    | zero => rfl
    | succ c => rw [Nat.pow_succ, Nat.mul_right_comm] at this; omega
  have e : a = b := by
    rcases Nat.le_total a b with hab | hab
    · have := key a (b - a) m m' (by rw [show a + (b - a) = b from by omega]; exact h) hm; omega
    · have := key b (a - b) m' m (by rw [show b + (a - b) = a from by omega]; exact h.symm) hm'; omega
  subst e
  exact ⟨rfl, Nat.eq_of_mul_eq_mul_left (Nat.two_pow_pos a) h⟩
theorem tz_of {n k m : Nat} (h : n = 2 ^ k * m) (hm : m % 2 = 1) : tz n = k := by
  have hn : n ≠ 0 := by
    rw [h]; exact Nat.ne_of_gt (Nat.mul_pos (Nat.two_pow_pos k) (by omega))
  obtain ⟨m', h1, h2⟩ := tz_spec hn
  exact (pow_odd_unique (h1.symm.trans h) h2 hm).1
theorem tz_zero : tz 0 = 0 := rfl
theorem tz_mul {n : Nat} (k : Nat) (h : n ≠ 0) : tz (2 ^ k * n) = k + tz n := by
  obtain ⟨m, h1, h2⟩ := tz_spec h
  refine tz_of (m := m) ?_ h2
  rw [Nat.pow_add, Nat.mul_assoc, ← h1]
theorem tz_odd {n : Nat} (h : n % 2 = 1) : tz n = 0 := tz_of (m := n) (by simp) h
theorem tz_even {n : Nat} (h0 : n ≠ 0) (h : n % 2 = 0) : tz n = tz (n / 2) + 1 := by
  have := tz_mul (n := n / 2) 1 (by omega)
  rw [show 2 ^ 1 * (n / 2) = n from by omega] at this
  omega
theorem tz_add {lo k : Nat} (hi : Nat) (h0 : lo ≠ 0) (h : lo < 2 ^ k) : tz (lo + 2 ^ k * hi) = tz lo := by
  obtain ⟨m, h1, h2⟩ := tz_spec h0
  have hk : tz lo < k := by
    refine Nat.lt_of_not_le fun hle => ?_
    have : 2 ^ k ≤ 2 ^ tz lo := Nat.pow_le_pow_right (by decide) hle
    have : 2 ^ tz lo * 1 ≤ 2 ^ tz lo * m := Nat.mul_le_mul_left _ (by omega)
    omega
  refine tz_of (m := m + 2 ^ (k - tz lo) * hi) ?_ ?_
  · rw [Nat.mul_add, ← h1, ← Nat.mul_assoc, ← Nat.pow_add, show tz lo + (k - tz lo) = k from by omega]
  · obtain ⟨j, hj⟩ : ∃ j, k - tz lo = j + 1 := ⟨k - tz lo - 1, by omega⟩
    rw [hj, Nat.pow_succ, Nat.mul_right_comm]; omega
theorem tz_dvd (n : Nat) : 2 ^ tz n * (n / 2 ^ tz n) = n := by
  by_cases h : n = 0
  · subst h; simp
  · obtain ⟨m, h1, h2⟩ := tz_spec h
    have : n / 2 ^ tz n = m := by
      conv => lhs; arg 1; rw [h1]
      exact Nat.mul_div_cancel_left m (Nat.two_pow_pos _)
    rw [this, ← h1]
theorem tz_div_odd {n : Nat} (h : n ≠ 0) : n / 2 ^ tz n % 2 = 1 := by
  obtain ⟨m, h1, h2⟩ := tz_spec h
  have : n / 2 ^ tz n = m := by
    conv => lhs; arg 1; rw [h1]
    exact Nat.mul_div_cancel_left m (Nat.two_pow_pos _)
  rw [this]; exact h2
theorem tz_lt_bl {n : Nat} (h : n ≠ 0) : tz n < bl n := by
  have h1 := tz_dvd n
  have h2 := tz_div_odd h
  have h3 := bl_lt n
  generalize n / 2 ^ tz n = q at h1 h2
  refine Nat.lt_of_not_le fun hle => ?_
  have : 2 ^ bl n ≤ 2 ^ tz n := Nat.pow_le_pow_right (by decide) hle
  have : 2 ^ tz n * 1 ≤ 2 ^ tz n * q := Nat.mul_le_mul_left _ (by omega)
  omega
/-- A power of two is what has one binary digit. -/
theorem pow_of_bl {n : Nat} (h : bl n = tz n + 1) : n = 2 ^ tz n := by
  have h0 : n ≠ 0 := by intro e; subst e; simp [bl_zero] at h
  have h1 := tz_dvd n
  have h2 := bl_lt n
  rw [h, Nat.pow_succ] at h2
  have h4 := tz_div_odd h0
  generalize n / 2 ^ tz n = q at h1 h4
  have h3 : q < 2 := by
    refine Nat.lt_of_not_le fun hle => ?_
    have := Nat.mul_le_mul_left (2 ^ tz n) hle
    omega
  rw [show q = 1 from by omega, Nat.mul_one] at h1
  exact h1.symm
theorem bl_pow (k : Nat) : bl (2 ^ k) = k + 1 := bl_unique (Nat.pow_lt_pow_right (by decide) (by omega)) (fun _ => Nat.le_refl _)
theorem tz_pow (k : Nat) : tz (2 ^ k) = k := tz_of (m := 1) (by simp) rfl

/-! ## 32 bits -/
theorem and_neg {x : Nat} (h0 : x ≠ 0) (h : x < 4294967296) : x &&& (4294967296 - x) = 2 ^ tz x := by
  obtain ⟨m, h1, h2⟩ := tz_spec h0
  obtain ⟨q, rfl⟩ : ∃ q, m = 2 * q + 1 := ⟨m / 2, by omega⟩
  generalize hk : tz x = k at *
  have hp := Nat.two_pow_pos k
  have hlt : k < 32 := by
    refine Nat.lt_of_not_le fun hle => ?_
    have : 2 ^ 32 ≤ 2 ^ k := Nat.pow_le_pow_right (by decide) hle
    have : 2 ^ k * 1 ≤ 2 ^ k * (2 * q + 1) := Nat.mul_le_mul_left _ (by omega)
    omega
  have e1 : x = 2 ^ (k + 1) * q + 2 ^ k := by rw [h1, Nat.mul_add, Nat.mul_one, Nat.pow_succ, Nat.mul_assoc]
  have e2 : x - 1 = 2 ^ (k + 1) * q + (2 ^ k - 1) := by omega
  have hpk : 2 ^ k < 2 ^ (k + 1) := Nat.pow_lt_pow_right (by decide) (by omega)
  apply Nat.eq_of_testBit_eq
  intro i
  rw [Nat.testBit_and, show (4294967296 - x) = 2 ^ 32 - ((x - 1) + 1) from by omega, Nat.testBit_two_pow_sub_succ (by omega), e2, Nat.testBit_two_pow_mul_add _ (by omega), Nat.testBit_two_pow]
  conv => lhs; arg 1; rw [e1, Nat.testBit_two_pow_mul_add _ hpk]
  by_cases hi : i < k + 1
  · rw [if_pos hi, if_pos hi, Nat.testBit_two_pow, Nat.testBit_two_pow_sub_one]
    by_cases hik : k = i
    · subst hik; simp [hlt]
    · simp [hik]
  · rw [if_neg hi, if_neg hi]
    have : ¬ k = i := by omega
    simp only [this, decide_false]
    cases Nat.testBit q (i - (k + 1)) <;> simp
theorem tz32_lt {x : Nat} (h0 : x ≠ 0) (h : x < 4294967296) : tz x < 32 := by
  have h1 := tz_lt_bl h0
  have h2 := bl_le_of_lt (n := x) (k := 32) h
  omega
def bruijn : List Nat := [0, 1, 28, 2, 29, 14, 24, 3, 30, 22, 20, 15, 25, 17, 4, 8, 31, 27, 13, 23, 21, 19, 16, 7, 26, 12, 18, 6, 11, 5, 10, 9]
theorem bruijn_get {k : Nat} (h : k < 32) : bruijn[2 ^ k * 125613361 % 4294967296 / 134217728]? = some k := by
  have : ∀ k : Fin 32, bruijn[2 ^ k.val * 125613361 % 4294967296 / 134217728]? = some k.val := by decide
  exact this ⟨k, h⟩
theorem bruijn_lt {k : Nat} (h : k < 32) : 2 ^ k * 125613361 % 4294967296 / 134217728 < 32 := by omega

/-! ## Limbs -/
theorem zeros_at {l : List Nat} (hs : Small l) {k : Nat} (hk : k < l.length) (h : val (l.take k) = 0) (h0 : l[k] ≠ 0) : tz (val l) = 32 * k + tz l[k] := by
  have hb := hs.get k hk
  rw [val_split l k hk, h, Nat.zero_add, pow32, tz_mul _ (by omega)]
  rw [show (4294967296 : Nat) = 2 ^ 32 from rfl, tz_add _ h0 hb]
theorem zeros_next {l : List Nat} {k : Nat} (hk : k < l.length) (h : val (l.take k) = 0) (h0 : l[k] = 0) : val (l.take (k + 1)) = 0 := by
  rw [val_take_succ l k hk, h, h0]; simp
theorem zeros_in {l : List Nat} {k : Nat} (hn : val l ≠ 0) (h : val (l.take k) = 0) : k < l.length := by
  refine Nat.lt_of_not_le fun hle => hn ?_
  rwa [val_take_all l k hle] at h

theorem shl_val {l : List Nat} (hs : Small l) (k : Nat) : val (List.replicate (k / 32) 0 ++ padL (l.length + 1) (val l * 2 ^ (k % 32))) = val l * 2 ^ k := by
  have h1 := val_lt hs
  have h2 : 2 ^ (k % 32) ≤ 2 ^ 32 := Nat.pow_le_pow_right (by decide) (by omega)
  have h3 : val l * 2 ^ (k % 32) < 4294967296 ^ (l.length + 1) := by
    rw [Nat.pow_succ]
    exact Nat.mul_lt_mul_of_lt_of_le h1 h2 (by decide)
  rw [val_append, val_replicate, List.length_replicate, val_padL h3, Nat.zero_add, pow32, Nat.mul_comm, Nat.mul_assoc, ← Nat.pow_add, show k % 32 + 32 * (k / 32) = k from by omega]

theorem rshr_app {a out : List Nat} {k i : Nat} (ha : Small a) (hi : i < a.length) (hol : k / 32 + out.length = i) (h : val out = val (a.drop (k / 32)) / 2 ^ (k % 32) % 4294967296 ^ out.length) :
    val (out ++ [(a[i] + a.getD (i + 1) 0 * 2 ^ 32) / 2 ^ (k % 32) % 4294967296]) = val (a.drop (k / 32)) / 2 ^ (k % 32) % 4294967296 ^ (out ++ [(a[i] + a.getD (i + 1) 0 * 2 ^ 32) / 2 ^ (k % 32) % 4294967296]).length := by
  generalize hz : a[i] + a.getD (i + 1) 0 * 2 ^ 32 = z
  have hd : out.length < (a.drop (k / 32)).length := by rw [List.length_drop]; omega
  have h1 := shr_step (a := a.drop (k / 32)) (out := out ++ [0]) (i := out.length) (s := k % 32) (ha.drop _) hd (by simp) (Nat.mod_lt _ (by decide)) (by rw [List.take_left' rfl]; exact h) z (by
    rw [← hz, List.getElem_drop]
    simp only [hol]
    rw [show (a.drop (k / 32)).getD (out.length + 1) 0 = a.getD (i + 1) 0 from by simp only [List.getD_eq_getElem?_getD, List.getElem?_drop]; rw [show k / 32 + (out.length + 1) = i + 1 from by omega], Nat.mul_comm 4294967296])
  rw [List.set_append_right _ _ (Nat.le_refl _), Nat.sub_self, List.set_cons_zero, List.take_of_length_le (by simp)] at h1
  rw [h1]; simp
theorem rshr_end {a out : List Nat} {k : Nat} (ha : Small a) (hk : a.length ≤ k / 32 + out.length) (h : val out = val (a.drop (k / 32)) / 2 ^ (k % 32) % 4294967296 ^ out.length) : val out = val a / 2 ^ k := by
  have h1 := val_drop_div a ha (k / 32)
  have h2 : val (a.drop (k / 32)) / 2 ^ (k % 32) < 4294967296 ^ out.length := by
    refine Nat.lt_of_le_of_lt (Nat.div_le_self _ _) (Nat.lt_of_lt_of_le (val_lt (ha.drop _)) (Nat.pow_le_pow_right (by decide) ?_))
    rw [List.length_drop]; omega
  rw [h, Nat.mod_eq_of_lt h2, ← h1, shift_split]

/-! ## The canonical form -/
structure Dy where
  neg : Bool
  mag : Nat
  exp : Int
def Dy.zero : Dy := ⟨false, 0, 0⟩
/-- The number n 2^e, negated if so, in its canonical form; whether its exponent is in range. -/
def nok (n : Nat) (e : Int) : Bool := n == 0 || (decide (-1048576 ≤ e + tz n) && decide (e + tz n ≤ 1048576))
def nrm (s : Bool) (n : Nat) (e : Int) : Dy := if n = 0 then Dy.zero else if nok n e then ⟨s, n / 2 ^ tz n, e + tz n⟩ else Dy.zero
theorem nrm_zero (s : Bool) (e : Int) : nrm s 0 e = Dy.zero := rfl
theorem nok_zero (e : Int) : nok 0 e = true := rfl
theorem nok_in {n : Nat} {e : Int} (h : n ≠ 0) (h1 : -1048576 ≤ e + tz n) (h2 : e + tz n ≤ 1048576) : nok n e = true := by
  unfold nok; simp [h1, h2]
theorem nok_out {n : Nat} {e : Int} (h : n ≠ 0) (h1 : e + tz n < -1048576 ∨ 1048576 < e + tz n) : nok n e = false := by
  unfold nok; simp [h]; omega
theorem nrm_in {s : Bool} {n : Nat} {e : Int} (h : n ≠ 0) (h1 : -1048576 ≤ e + tz n) (h2 : e + tz n ≤ 1048576) : nrm s n e = ⟨s, n / 2 ^ tz n, e + tz n⟩ := by
  unfold nrm; rw [if_neg h, if_pos (nok_in h h1 h2)]
theorem nrm_out {s : Bool} {n : Nat} {e : Int} (h : n ≠ 0) (h1 : e + tz n < -1048576 ∨ 1048576 < e + tz n) : nrm s n e = Dy.zero := by
  unfold nrm; rw [if_neg h, nok_out h h1]; rfl
theorem nrm_even {s : Bool} {n : Nat} {e : Int} (h : n ≠ 0) (h2 : n % 2 = 0) : nrm s (n / 2) (e + 1) = nrm s n e ∧ nok (n / 2) (e + 1) = nok n e := by
  have h3 : n / 2 ≠ 0 := by omega
  have h4 := tz_even h h2
  have h5 : nok (n / 2) (e + 1) = nok n e := by
    unfold nok
    rw [h4, show e + 1 + (tz (n / 2) : Int) = e + ((tz (n / 2) + 1 : Nat) : Int) from by omega]
    rw [show (n == 0) = false from by simpa using h, show (n / 2 == 0) = false from beq_eq_false_iff_ne.2 h3]
  refine ⟨?_, h5⟩
  unfold nrm
  rw [if_neg h, if_neg h3, h5, h4, Nat.pow_succ, Nat.mul_comm (2 ^ _) 2, ← Nat.div_div_eq_div_mul, show e + 1 + (tz (n / 2) : Int) = e + ((tz (n / 2) + 1 : Nat) : Int) from by omega]
theorem nrm_odd_in {s : Bool} {n : Nat} {e : Int} (h : n % 2 = 1) (h1 : -1048576 ≤ e) (h2 : e ≤ 1048576) : nrm s n e = ⟨s, n, e⟩ ∧ nok n e = true := by
  have h3 := tz_odd h
  have h4 : n ≠ 0 := by omega
  refine ⟨?_, nok_in h4 (by omega) (by omega)⟩
  rw [nrm_in h4 (by omega) (by omega), h3]; simp
theorem nrm_odd_out {s : Bool} {n : Nat} {e : Int} (h : n % 2 = 1) (h1 : e < -1048576 ∨ 1048576 < e) : nrm s n e = Dy.zero ∧ nok n e = false := by
  have h3 := tz_odd h
  have h4 : n ≠ 0 := by omega
  exact ⟨nrm_out h4 (by omega), nok_out h4 (by omega)⟩
theorem nrm_mag_le (s : Bool) (n : Nat) (e : Int) : (nrm s n e).mag ≤ n := by
  unfold nrm
  split
  · exact Nat.zero_le _
  · split
    · exact Nat.div_le_self _ _
    · exact Nat.zero_le _
theorem nrm_exp (s : Bool) (n : Nat) (e : Int) : -1048576 ≤ (nrm s n e).exp ∧ (nrm s n e).exp ≤ 1048576 := by
  unfold nrm
  split
  · decide
  · rename_i h0
    split
    · rename_i h
      unfold nok at h
      simp only [Bool.or_eq_true, beq_iff_eq, Bool.and_eq_true, decide_eq_true_eq] at h
      rcases h with h | h
      · exact absurd h h0
      · exact h
    · decide
theorem get_limb0 {x : Nat} (h : x ≠ 0) : ((limbs x).map u32L)[(0 : Int).toNat]? = some (u32L (x % 4294967296)) := by
  rw [limbs_pos h]; rfl
end Rc
