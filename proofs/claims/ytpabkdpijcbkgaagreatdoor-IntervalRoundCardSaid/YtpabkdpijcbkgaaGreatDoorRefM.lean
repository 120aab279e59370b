/- Plain mathematics: the steps of the references' loops over limbs. -/
import Derived.Test.YtpabkdpijcbkgaaGreatDoorKnuth
namespace Rc
open Go

theorem val_take_lt {a : List Nat} (ha : Small a) (n : Nat) : val (a.take n) < 4294967296 ^ n := by
  refine Nat.lt_of_lt_of_le (val_lt (ha.take n)) (Nat.pow_le_pow_right (by decide) ?_)
  exact List.length_take_le n a
/-- Equal digits from n on. -/
theorem val_take_common {a b : List Nat} {n : Nat} (h : ∀ i, n ≤ i → a.getD i 0 = b.getD i 0) : ∀ m, ∃ c, val (a.take (n + m)) = val (a.take n) + c ∧ val (b.take (n + m)) = val (b.take n) + c := by
  intro m
  induction m with
  | zero => exact ⟨0, rfl, rfl⟩
  | succ m ih =>
    obtain ⟨c, h1, h2⟩ := ih
    refine ⟨c + 4294967296 ^ (n + m) * a.getD (n + m) 0, ?_, ?_⟩
    · rw [← Nat.add_assoc, val_take_getD, h1]; omega
    · rw [← Nat.add_assoc, val_take_getD, h2, h (n + m) (by omega)]; omega
theorem val_take_all_common {a b : List Nat} {n : Nat} (h : ∀ i, n ≤ i → a.getD i 0 = b.getD i 0) : ∃ c, val a = val (a.take n) + c ∧ val b = val (b.take n) + c := by
  obtain ⟨c, h1, h2⟩ := val_take_common h (a.length + b.length)
  rw [val_take_all a _ (by omega)] at h1
  rw [val_take_all b _ (by omega)] at h2
  exact ⟨c, h1, h2⟩
theorem cmp_getD {a b : List Nat} {n : Nat} (ha : Small a) (h : ∀ i, n + 1 ≤ i → a.getD i 0 = b.getD i 0) (hlt : a.getD n 0 < b.getD n 0) : val a < val b := by
  obtain ⟨c, h1, h2⟩ := val_take_all_common h
  rw [h1, h2, val_take_getD, val_take_getD]
  have h3 := val_take_lt ha n
  have h4 : 4294967296 ^ n * (a.getD n 0 + 1) ≤ 4294967296 ^ n * b.getD n 0 := Nat.mul_le_mul_left _ hlt
  rw [Nat.mul_add, Nat.mul_one] at h4
  omega
theorem eq_getD {a b : List Nat} (h : ∀ i, 0 ≤ i → a.getD i 0 = b.getD i 0) : val a = val b := by
  obtain ⟨c, h1, h2⟩ := val_take_all_common h
  rw [h1, h2]; simp

/-- One limb of a sum that is appended. -/
theorem add_app {a b out : List Nat} {k c s : Nat} (hl : out.length = k) (h : val out + c * 4294967296 ^ k = val (a.take k) + val (b.take k)) (hs : s = c + (a.getD k 0 + b.getD k 0)) :
    val (out ++ [s % 4294967296]) + (s / 4294967296) * 4294967296 ^ (k + 1) = val (a.take (k + 1)) + val (b.take (k + 1)) := by
  rw [val_append, hl, val_take_getD a k, val_take_getD b k, Nat.pow_succ]
  simp only [val_cons, val_nil, Nat.mul_zero, Nat.add_zero]
  have e : 4294967296 ^ k * s = 4294967296 ^ k * (s % 4294967296) + s / 4294967296 * (4294967296 ^ k * 4294967296) := by
    conv => lhs; rw [← Nat.mod_add_div s 4294967296]
    grind
  rw [hs] at e
  rw [hs]
  have e2 : 4294967296 ^ k * (c + (a.getD k 0 + b.getD k 0)) = c * 4294967296 ^ k + 4294967296 ^ k * a.getD k 0 + 4294967296 ^ k * b.getD k 0 := by grind
  omega
/-- One limb of a difference that is appended. -/
theorem sub_app {a b out : List Nat} {k c d c' : Nat} (hl : out.length = k) (h : val out + val (b.take k) = val (a.take k) + c * 4294967296 ^ k) (hd : d + (b.getD k 0 + c) = a.getD k 0 + c' * 4294967296) :
    val (out ++ [d]) + val (b.take (k + 1)) = val (a.take (k + 1)) + c' * 4294967296 ^ (k + 1) := by
  rw [val_append, hl, val_take_getD a k, val_take_getD b k, Nat.pow_succ]
  simp only [val_cons, val_nil, Nat.mul_zero, Nat.add_zero]
  have e : 4294967296 ^ k * (d + (b.getD k 0 + c)) = 4294967296 ^ k * (a.getD k 0 + c' * 4294967296) := by rw [hd]
  have e1 : 4294967296 ^ k * (d + (b.getD k 0 + c)) = 4294967296 ^ k * d + 4294967296 ^ k * b.getD k 0 + c * 4294967296 ^ k := by grind
  have e2 : 4294967296 ^ k * (a.getD k 0 + c' * 4294967296) = 4294967296 ^ k * a.getD k 0 + c' * (4294967296 ^ k * 4294967296) := by grind
  omega
theorem sub_end {a b out : List Nat} {c : Nat} (ha : Small a) (hs : Small out) (hl : out.length = a.length) (hge : val b ≤ val a) (h : val out + val (b.take a.length) = val (a.take a.length) + c * 4294967296 ^ a.length) : val out = val a - val b := by
  rw [val_take_all a _ (Nat.le_refl _)] at h
  have h1 := val_lt ha
  have h2 := val_lt hs
  rw [hl] at h2
  have h3 := val_take_drop b a.length
  have h4 : val (b.take a.length) = val b := by
    by_cases h5 : a.length ≤ b.length
    · rw [Nat.min_eq_left h5] at h3
      have h6 : val (b.drop a.length) = 0 := by
        rcases Nat.eq_zero_or_pos (val (b.drop a.length)) with h7 | h7
        · exact h7
        · have : 4294967296 ^ a.length * 1 ≤ 4294967296 ^ a.length * val (b.drop a.length) := Nat.mul_le_mul_left _ h7
          omega
      rw [h6, Nat.mul_zero, Nat.add_zero] at h3
      exact h3.symm
    · exact val_take_all b _ (by omega)
  rw [h4] at h
  rcases Nat.eq_zero_or_pos c with h5 | h5
  · subst h5; omega
  · have : 1 * 4294967296 ^ a.length ≤ c * 4294967296 ^ a.length := Nat.mul_le_mul_right _ h5
    omega
/-- One limb of the inner loop of a product, b read with 0 behind its end. -/
theorem mul_stepD {b out : List Nat} {i k c x : Nat} (hl : i + k < out.length) (base : Nat) (h : val out + c * 4294967296 ^ (i + k) = base + 4294967296 ^ i * (x * val (b.take k))) :
    val (out.set (i + k) ((c + (x * b.getD k 0 + out[i + k])) % 4294967296)) + ((c + (x * b.getD k 0 + out[i + k])) / 4294967296) * 4294967296 ^ (i + (k + 1)) = base + 4294967296 ^ i * (x * val (b.take (k + 1))) := by
  have h1 := val_set out (i + k) ((c + (x * b.getD k 0 + out[i + k])) % 4294967296) hl
  rw [val_take_getD b k, show i + (k + 1) = (i + k) + 1 from rfl, Nat.pow_succ]
  generalize b.getD k 0 = y at *
  generalize hs : c + (x * y + out[i + k]) = s at *
  have e1 : 4294967296 ^ (i + k) * s = 4294967296 ^ (i + k) * (s % 4294967296) + s / 4294967296 * (4294967296 ^ (i + k) * 4294967296) := by
    conv => lhs; rw [← Nat.mod_add_div s 4294967296]
    grind
  have e2 : 4294967296 ^ (i + k) * s = c * 4294967296 ^ (i + k) + 4294967296 ^ i * (x * (4294967296 ^ k * y)) + 4294967296 ^ (i + k) * out[i + k] := by
    rw [← hs, Nat.pow_add]; grind
  have e3 : 4294967296 ^ i * (x * (val (b.take k) + 4294967296 ^ k * y)) = 4294967296 ^ i * (x * val (b.take k)) + 4294967296 ^ i * (x * (4294967296 ^ k * y)) := by grind
  omega
theorem mul_end {a b o : List Nat} {i c : Nat} (ha : Small a) (hb : Small b) (hi : i < a.length) (h : val o + c * 4294967296 ^ (i + (b.length + 1)) = val (a.take i) * val b + 4294967296 ^ i * (a[i] * val (b.take (b.length + 1)))) :
    val o = val (a.take (i + 1)) * val b := by
  rw [val_take_all b _ (by omega)] at h
  have e : val (a.take i) * val b + 4294967296 ^ i * (a[i] * val b) = val (a.take (i + 1)) * val b := by
    rw [val_take_succ a i hi]; grind
  rw [e] at h
  have h1 := val_take_lt ha (i + 1)
  have h2 := val_lt hb
  have h3 : val (a.take (i + 1)) * val b < 4294967296 ^ (i + (b.length + 1)) := by
    rw [show i + (b.length + 1) = (i + 1) + b.length from by omega, Nat.pow_add]
    rcases Nat.eq_zero_or_pos (val b) with h | h
    · rw [h, Nat.mul_zero]; exact Nat.mul_pos (Nat.pow_pos (by decide)) (Nat.pow_pos (by decide))
    · exact Nat.lt_of_lt_of_le (Nat.mul_lt_mul_of_pos_right h1 h) (Nat.mul_le_mul_left _ (Nat.le_of_lt h2))
  rcases Nat.eq_zero_or_pos c with h5 | h5
  · subst h5; omega
  · have : 1 * 4294967296 ^ (i + (b.length + 1)) ≤ c * 4294967296 ^ (i + (b.length + 1)) := Nat.mul_le_mul_right _ h5
    omega
/-- One limb of a shift to the left, appended. -/
theorem shl_app {a out : List Nat} {i k c x : Nat} (hi : i < a.length) (hl : out.length = k / 32 + i) (h : val out + c * 4294967296 ^ out.length = val (a.take i) * 2 ^ k) (hx : x = c + a[i] * 2 ^ (k % 32)) :
    val (out ++ [x % 4294967296]) + (x / 4294967296) * 4294967296 ^ (out.length + 1) = val (a.take (i + 1)) * 2 ^ k := by
  rw [val_append, val_take_succ a i hi, Nat.pow_succ]
  simp only [val_cons, val_nil, Nat.mul_zero, Nat.add_zero]
  have e : 4294967296 ^ out.length * x = 4294967296 ^ out.length * (x % 4294967296) + x / 4294967296 * (4294967296 ^ out.length * 4294967296) := by
    conv => lhs; rw [← Nat.mod_add_div x 4294967296]
    grind
  have e2 : 4294967296 ^ out.length * 2 ^ (k % 32) = 4294967296 ^ i * 2 ^ k := by
    rw [hl, pow32, pow32, ← Nat.pow_add, ← Nat.pow_add]; congr 1; omega
  have e3 : 4294967296 ^ out.length * x = c * 4294967296 ^ out.length + a[i] * (4294967296 ^ out.length * 2 ^ (k % 32)) := by rw [hx]; grind
  rw [e2] at e3
  have e4 : (val (a.take i) + 4294967296 ^ i * a[i]) * 2 ^ k = val (a.take i) * 2 ^ k + a[i] * (4294967296 ^ i * 2 ^ k) := by grind
  omega
theorem shl_bound {d c s : Nat} (hs : s < 32) (hd : d < 4294967296) (hc : c < 2 ^ s) : d * 2 ^ s < 18446744073709551616 ∧ c + d * 2 ^ s < 18446744073709551616 ∧ (c + d * 2 ^ s) / 4294967296 < 2 ^ s ∧ 2 ^ s ≤ 2147483648 := by
  have h1 : (2 : Nat) ^ s ≤ 2 ^ 31 := Nat.pow_le_pow_right (by omega) (by omega)
  have h2 : d * 2 ^ s ≤ 4294967295 * 2 ^ s := Nat.mul_le_mul_right _ (by omega)
  refine ⟨by omega, by omega, ?_, by omega⟩
  rw [Nat.div_lt_iff_lt_mul (by omega)]
  omega
theorem bl_half {x : Nat} (h : 0 < x) : bl x = bl (x / 2) + 1 := by
  by_cases h2 : 2 ≤ x
  · have := bl_div (n := x) (k := 1) (by simpa using h2)
    simpa using this
  · have : x = 1 := by omega
    subst this; decide
theorem val_app1 (out : List Nat) (c : Nat) : val (out ++ [c]) = val out + c * 4294967296 ^ out.length := by
  rw [val_append]; simp [Nat.mul_comm]
theorem small_app1 {out : List Nat} {c : Nat} (h : Small out) (hc : c < 4294967296) : Small (out ++ [c]) := h.append (Small.cons hc Small.nil)

/-! ## Division bit by bit -/
/-- A bit of a number. -/
theorem bit_of {a : List Nat} (ha : Small a) {n : Nat} (h : n / 32 < a.length) : a[n / 32] / 2 ^ (n % 32) % 2 = val a / 2 ^ n % 2 := by
  rw [← shift_split (val a) n, val_drop_div a ha, List.drop_eq_getElem_cons h, val_cons]
  have e : (4294967296 : Nat) = 2 ^ (n % 32) * (2 * 2 ^ (31 - n % 32)) := by
    rw [← Nat.pow_succ', ← Nat.pow_add, show n % 32 + (31 - n % 32).succ = 32 from by omega]
  rw [e, Nat.mul_assoc, Nat.add_mul_div_left _ _ (Nat.pow_pos (by decide)), Nat.mul_assoc, Nat.add_mul_mod_self_left]
theorem and_one {x : Nat} (h : x < 4294967296) : IntKind.u32.wrap ((BitVec.ofInt IntKind.u32.bits (x : Int) &&& BitVec.ofInt IntKind.u32.bits (1 : Int)).toNat) = ((x % 2 : Nat) : Int) := by
  rw [BitVec.toNat_and, show (1 : Int) = ((1 : Nat) : Int) from rfl, ofInt_nat _ x (by simp only [IntKind.bits]; omega), ofInt_nat _ 1 (by simp only [IntKind.bits]; omega), Nat.and_one_is_mod]
  exact wrap_nat_u32 (by omega)
theorem div_bit_step {A n Q b r : Nat} (h : A / 2 ^ (n + 1) = Q * b + r) : A / 2 ^ n = 2 * Q * b + (2 * r + A / 2 ^ n % 2) := by
  have h1 : A / 2 ^ (n + 1) = A / 2 ^ n / 2 := by rw [Nat.pow_succ, Nat.div_div_eq_div_mul]
  rw [h1] at h
  have h2 := Nat.div_add_mod (A / 2 ^ n) 2
  rw [h] at h2
  have e : 2 * (Q * b + r) = 2 * Q * b + 2 * r := by grind
  omega
/-- A bit that is set in a row whose lower bits are 0. -/
theorem set_bit {o : List Nat} {n Q : Nat} (ho : Small o) (hn : n / 32 < o.length) (h : val o = 2 ^ (n + 1) * Q) :
    o[n / 32] % 2 ^ (n % 32 + 1) = 0 ∧ o[n / 32] + 2 ^ (n % 32) < 4294967296 ∧ val (o.set (n / 32) (o[n / 32] + 2 ^ (n % 32))) = 2 ^ n * (2 * Q + 1) := by
  have h1 := val_drop_div o ho (n / 32)
  rw [List.drop_eq_getElem_cons hn, val_cons] at h1
  have e1 : 2 ^ (n + 1) = 4294967296 ^ (n / 32) * 2 ^ (n % 32 + 1) := by
    rw [pow32, ← Nat.pow_add]; congr 1; omega
  rw [h, e1, Nat.mul_assoc, Nat.mul_div_cancel_left _ (Nat.pow_pos (by decide))] at h1
  have e2 : (4294967296 : Nat) = 2 ^ (n % 32 + 1) * 2 ^ (31 - n % 32) := by rw [← Nat.pow_add, show n % 32 + 1 + (31 - n % 32) = 32 from by omega]
  have hd := ho.get (n / 32) hn
  have h2 : o[n / 32] % 2 ^ (n % 32 + 1) = 0 := by
    have h3 : (o[n / 32] + 4294967296 * val (o.drop (n / 32 + 1))) % 2 ^ (n % 32 + 1) = 0 := by rw [← h1]; exact Nat.mul_mod_right _ _
    rw [e2, Nat.mul_assoc, Nat.add_mul_mod_self_left] at h3
    exact h3
  refine ⟨h2, ?_, ?_⟩
  · obtain ⟨y, hy⟩ := Nat.dvd_of_mod_eq_zero h2
    rw [hy] at hd ⊢
    have hp : 0 < 2 ^ (n % 32) := Nat.pow_pos (by decide)
    have hy2 : y < 2 ^ (31 - n % 32) := by
      rw [e2] at hd
      exact Nat.lt_of_mul_lt_mul_left hd
    have h4 : 2 ^ (n % 32 + 1) * (y + 1) ≤ 2 ^ (n % 32 + 1) * 2 ^ (31 - n % 32) := Nat.mul_le_mul_left _ hy2
    rw [← e2, Nat.mul_add, Nat.mul_one] at h4
    have h5 : (2 : Nat) ^ (n % 32 + 1) = 2 * 2 ^ (n % 32) := Nat.pow_succ'
    omega
  · have h3 := val_set o (n / 32) (o[n / 32] + 2 ^ (n % 32)) hn
    have e3 : 2 ^ n = 4294967296 ^ (n / 32) * 2 ^ (n % 32) := by rw [pow32, ← Nat.pow_add]; congr 1; omega
    rw [h] at h3
    rw [Nat.mul_add, ← e3, Nat.pow_succ] at h3
    have e4 : 2 ^ n * 2 * Q = 2 ^ n * (2 * Q) := by grind
    rw [e4] at h3
    rw [Nat.mul_add, Nat.mul_one]
    omega
theorem or32 {a b : Nat} (i : Nat) (ha : a % 2 ^ i = 0) (hb : b < 2 ^ i) (h : a + b < 4294967296) :
    IntKind.u32.wrap ((BitVec.ofInt IntKind.u32.bits (a : Int) ||| BitVec.ofInt IntKind.u32.bits (b : Int)).toNat) = ((a + b : Nat) : Int) := by
  rw [BitVec.toNat_or, ofInt_nat _ a (by simp only [IntKind.bits]; omega), ofInt_nat _ b (by simp only [IntKind.bits]; omega), or_add i ha hb]
  exact wrap_nat_u32 h
theorem bits_index {x n L : Nat} (h1 : x < 4294967296 ^ L) (hn : n < bl x) : n / 32 < L := by
  have h2 : bl x ≤ 32 * L := bl_le_of_lt (by rw [← pow32]; exact h1)
  omega
end Rc
