/- Plain mathematics: the steps of the loops over limbs. -/
import Derived.Test.YtpabkdpijcbkgaaGreatDoorVal
namespace Rc

/-- The comparison of two natural numbers: -1, 0, 1. -/
def cmpN (a b : Nat) : Int := if a < b then -1 else if a = b then 0 else 1
theorem cmpN_lt {a b : Nat} (h : a < b) : cmpN a b = -1 := by simp [cmpN, h]
theorem cmpN_gt {a b : Nat} (h : b < a) : cmpN a b = 1 := by
  unfold cmpN; rw [if_neg (by omega), if_neg (by omega)]
theorem cmpN_eq {a b : Nat} (h : a = b) : cmpN a b = 0 := by subst h; simp [cmpN]

theorem limbs_length_mono {x y : Nat} (h : x ≤ y) : (limbs x).length ≤ (limbs y).length :=
  limbs_length_le.2 (Nat.lt_of_le_of_lt h (limbs_length_le.1 (Nat.le_refl _)))
theorem lt_of_length {x y : Nat} (h : (limbs x).length < (limbs y).length) : x < y := by
  rcases Nat.lt_or_ge x y with h1 | h1
  · exact h1
  · have := limbs_length_mono h1; omega
theorem limbs_val_length {l : List Nat} (hs : Small l) : (limbs (val l)).length ≤ l.length := limbs_length_le.2 (val_lt hs)

theorem val_split (l : List Nat) (n : Nat) (h : n < l.length) : val l = val (l.take n) + 4294967296 ^ n * (l[n] + 4294967296 * val (l.drop (n + 1))) := by
  have h1 := val_take_drop l n
  rw [Nat.min_eq_left (Nat.le_of_lt h), List.drop_eq_getElem_cons h, val_cons] at h1
  exact h1
theorem cmp_at {a b : List Nat} {n : Nat} (ha : Small a) (hn : n < a.length) (hn' : n < b.length) (h : a.drop (n + 1) = b.drop (n + 1)) (hlt : a[n] < b[n]) : val a < val b := by
  rw [val_split a n hn, val_split b n hn', h]
  have h1 := val_lt (ha.take n)
  rw [List.length_take, Nat.min_eq_left (Nat.le_of_lt hn)] at h1
  generalize val (b.drop (n + 1)) = d
  have h2 : 4294967296 ^ n * (a[n] + 4294967296 * d + 1) ≤ 4294967296 ^ n * (b[n] + 4294967296 * d) := Nat.mul_le_mul_left _ (by omega)
  rw [Nat.mul_add, Nat.mul_one] at h2
  omega
theorem drop_succ_eq {a b : List Nat} {n : Nat} (hn : n < a.length) (hn' : n < b.length) (h : a.drop (n + 1) = b.drop (n + 1)) (he : a[n] = b[n]) : a.drop n = b.drop n := by
  rw [List.drop_eq_getElem_cons hn, List.drop_eq_getElem_cons hn', h, he]

theorem val_set_take (out : List Nat) (k x : Nat) (h : k < out.length) : val ((out.set k x).take (k + 1)) = val (out.take k) + 4294967296 ^ k * x := by
  rw [val_take_succ _ _ (by simpa using h), List.take_set_of_le (Nat.le_refl k), List.getElem_set_self]
theorem val_take_all (l : List Nat) (k : Nat) (h : l.length ≤ k) : val (l.take k) = val l := by rw [List.take_of_length_le h]
theorem getD_of {l : List Nat} {k : Nat} (h : k < l.length) : l.getD k 0 = l[k] := by simp [List.getD, h]
theorem getD_out {l : List Nat} {k : Nat} (h : l.length ≤ k) : l.getD k 0 = 0 := by simp [List.getD, h]

theorem add_step {a b out : List Nat} {k c s : Nat} (hk : k < a.length) (hl : k < out.length) (h : val (out.take k) + c * 4294967296 ^ k = val (a.take k) + val (b.take k)) (hs : s = c + a[k] + b.getD k 0) :
    val ((out.set k (s % 4294967296)).take (k + 1)) + (s / 4294967296) * 4294967296 ^ (k + 1) = val (a.take (k + 1)) + val (b.take (k + 1)) := by
  rw [val_set_take out k _ hl, val_take_succ a k hk, val_take_getD b k, Nat.pow_succ]
  have e : 4294967296 ^ k * s = 4294967296 ^ k * (s % 4294967296) + s / 4294967296 * (4294967296 ^ k * 4294967296) := by
    conv => lhs; rw [← Nat.mod_add_div s 4294967296]
    grind
  rw [hs] at e
  rw [hs]
  have e2 : 4294967296 ^ k * (c + a[k] + b.getD k 0) = c * 4294967296 ^ k + 4294967296 ^ k * a[k] + 4294967296 ^ k * b.getD k 0 := by grind
  omega

/-- a - b with a borrow, in 64 bits. -/
theorem sub_step {a b out : List Nat} {k c x : Nat} (hk : k < a.length) (hl : k < out.length) (ha : Small a) (hb : Small b) (hc : c ≤ 1)
    (h : val (out.take k) + val (b.take k) = val (a.take k) + c * 4294967296 ^ k) (hx : x = (18446744073709551616 + a[k] - c - b.getD k 0) % 18446744073709551616) :
    val ((out.set k (x % 4294967296)).take (k + 1)) + val (b.take (k + 1)) = val (a.take (k + 1)) + (x / 9223372036854775808) * 4294967296 ^ (k + 1) := by
  rw [val_set_take out k _ hl, val_take_succ a k hk, val_take_getD b k, Nat.pow_succ]
  have h1 := ha.get k hk
  have h2 := hb.getD k
  generalize a[k] = p at *
  generalize b.getD k 0 = q at *
  have e : x % 4294967296 + q + c = p + (x / 9223372036854775808) * 4294967296 := by omega
  have e2 : 4294967296 ^ k * (x % 4294967296 + q + c) = 4294967296 ^ k * (p + (x / 9223372036854775808) * 4294967296) := by rw [e]
  have e3 : 4294967296 ^ k * (x % 4294967296 + q + c) = 4294967296 ^ k * (x % 4294967296) + 4294967296 ^ k * q + c * 4294967296 ^ k := by grind
  have e4 : 4294967296 ^ k * (p + (x / 9223372036854775808) * 4294967296) = 4294967296 ^ k * p + (x / 9223372036854775808) * (4294967296 ^ k * 4294967296) := by grind
  omega

/-! ## Products -/
theorem val_set (l : List Nat) (i x : Nat) (h : i < l.length) : val (l.set i x) + 4294967296 ^ i * l[i] = val l + 4294967296 ^ i * x := by
  rw [val_split l i h, val_split (l.set i x) i (by simpa using h)]
  rw [List.take_set_of_le (Nat.le_refl i), List.getElem_set_self, List.drop_set_of_lt (by omega)]
  grind
/-- One limb of the inner loop: out[i+k] += x*b[k] + carry. -/
theorem mul_step {b out : List Nat} {i k c x : Nat} (hk : k < b.length) (hl : i + k < out.length) (base : Nat) (h : val out + c * 4294967296 ^ (i + k) = base + 4294967296 ^ i * (x * val (b.take k))) :
    val (out.set (i + k) ((c + (x * b[k] + out[i + k])) % 4294967296)) + ((c + (x * b[k] + out[i + k])) / 4294967296) * 4294967296 ^ (i + (k + 1)) = base + 4294967296 ^ i * (x * val (b.take (k + 1))) := by
  have h1 := val_set out (i + k) ((c + (x * b[k] + out[i + k])) % 4294967296) hl
  rw [val_take_succ b k hk, show i + (k + 1) = (i + k) + 1 from rfl, Nat.pow_succ]
  generalize hs : c + (x * b[k] + out[i + k]) = s at *
  have e1 : 4294967296 ^ (i + k) * s = 4294967296 ^ (i + k) * (s % 4294967296) + s / 4294967296 * (4294967296 ^ (i + k) * 4294967296) := by
    conv => lhs; rw [← Nat.mod_add_div s 4294967296]
    grind
  have e2 : 4294967296 ^ (i + k) * s = c * 4294967296 ^ (i + k) + 4294967296 ^ i * (x * (4294967296 ^ k * b[k])) + 4294967296 ^ (i + k) * out[i + k] := by
    rw [← hs, Nat.pow_add]; grind
  have e3 : 4294967296 ^ i * (x * (val (b.take k) + 4294967296 ^ k * b[k])) = 4294967296 ^ i * (x * val (b.take k)) + 4294967296 ^ i * (x * (4294967296 ^ k * b[k])) := by grind
  omega
theorem mul_carry {c x y o : Nat} (hc : c < 4294967296) (hx : x < 4294967296) (hy : y < 4294967296) (ho : o < 4294967296) : c + (x * y + o) < 18446744073709551616 ∧ (c + (x * y + o)) / 4294967296 < 4294967296 ∧ x * y ≤ 18446744065119617025 := by
  have h1 : x * y ≤ 4294967295 * 4294967295 := Nat.mul_le_mul (by omega) (by omega)
  omega
end Rc
namespace Rc
/-- The number of binary digits. -/
def bl (n : Nat) : Nat := if n = 0 then 0 else Nat.log2 n + 1
theorem bl_lt (n : Nat) : n < 2 ^ bl n := by
  unfold bl; split
  · rename_i h; subst h; simp
  · exact Nat.lt_log2_self
theorem bl_le {n : Nat} (h : n ≠ 0) : 2 ^ (bl n - 1) ≤ n := by
  unfold bl; rw [if_neg h]; simpa using Nat.log2_self_le h
theorem bl_unique {n k : Nat} (h1 : n < 2 ^ k) (h2 : 0 < k → 2 ^ (k - 1) ≤ n) : bl n = k := by
  by_cases h0 : n = 0
  · subst h0
    rcases Nat.eq_zero_or_pos k with hk | hk
    · subst hk; rfl
    · have := h2 hk; have := Nat.pow_pos (n := k - 1) (show 0 < 2 from by omega); omega
  · have hk : 0 < k := by
      rcases Nat.eq_zero_or_pos k with hk | hk
      · subst hk; simp at h1; omega
      · exact hk
    unfold bl
    rw [if_neg h0, (Nat.log2_eq_iff h0).2 ⟨h2 hk, by rw [show k - 1 + 1 = k from by omega]; exact h1⟩]
    omega
theorem bl_zero : bl 0 = 0 := rfl
theorem bl_pos {n : Nat} (h : n ≠ 0) : 0 < bl n := by unfold bl; rw [if_neg h]; omega
theorem bl_div {n k : Nat} (h : 2 ^ k ≤ n) : bl n = bl (n / 2 ^ k) + k := by
  have hp : 0 < 2 ^ k := Nat.pow_pos (by omega)
  have hq : n / 2 ^ k ≠ 0 := Nat.ne_of_gt (Nat.div_pos h hp)
  apply bl_unique
  · have := bl_lt (n / 2 ^ k)
    rw [Nat.pow_add]
    rwa [Nat.div_lt_iff_lt_mul hp] at this
  · intro _
    have := bl_le hq
    have h3 := bl_pos hq
    rw [show bl (n / 2 ^ k) + k - 1 = (bl (n / 2 ^ k) - 1) + k from by omega, Nat.pow_add]
    rwa [Nat.le_div_iff_mul_le hp] at this
theorem bl_le_of_lt {n k : Nat} (h : n < 2 ^ k) : bl n ≤ k := by
  rcases Nat.lt_or_ge k (bl n) with h1 | h1
  · exfalso
    have h0 : n ≠ 0 := by intro e; subst e; simp [bl] at h1
    have := bl_le h0
    have h2 : 2 ^ k ≤ 2 ^ (bl n - 1) := Nat.pow_le_pow_right (by omega) (by omega)
    omega
  · exact h1
theorem bl_add_mul {lo hi k : Nat} (h : lo < 2 ^ k) (hh : hi ≠ 0) : bl (lo + 2 ^ k * hi) = k + bl hi := by
  have hp : 0 < 2 ^ k := Nat.pow_pos (by omega)
  have e : (lo + 2 ^ k * hi) / 2 ^ k = hi := by
    rw [Nat.add_mul_div_left _ _ hp, Nat.div_eq_of_lt h, Nat.zero_add]
  have h1 : 2 ^ k ≤ lo + 2 ^ k * hi := by
    have : 2 ^ k * 1 ≤ 2 ^ k * hi := Nat.mul_le_mul_left _ (by omega)
    omega
  rw [bl_div h1, e, Nat.add_comm]
theorem pow32 (k : Nat) : 4294967296 ^ k = 2 ^ (32 * k) := by rw [Nat.pow_mul]

/-- The number of digits of a canonical list. -/
theorem bl_limbs {l : List Nat} (hc : Canon l) (h : 0 < l.length) : bl (val l) = 32 * (l.length - 1) + bl (l[l.length - 1]'(by omega)) := by
  have h1 := val_split l (l.length - 1) (by omega)
  have h2 : l.drop (l.length - 1 + 1) = [] := List.drop_of_length_le (by omega)
  rw [h2] at h1
  simp only [val_nil, Nat.mul_zero, Nat.add_zero] at h1
  have h3 := val_lt (hc.1.take (l.length - 1))
  rw [List.length_take, Nat.min_eq_left (by omega), pow32] at h3
  rw [h1, pow32]
  refine bl_add_mul h3 ?_
  have := hc.2 (by intro e; rw [e] at h; simp at h)
  rwa [List.getLast_eq_getElem] at this

/-! ## Shifts -/
theorem left_step {a out : List Nat} {i k : Nat} (hi : i < a.length) (hl : i + 1 < out.length) (h : val (out.take (i + 1)) = val (a.take i) * 2 ^ k) (x : Nat) (hx : x = a[i] * 2 ^ k) :
    val (((out.set i (out[i] + x % 4294967296)).set (i + 1) (x / 4294967296)).take (i + 1 + 1)) = val (a.take (i + 1)) * 2 ^ k := by
  rw [val_set_take _ (i + 1) _ (by simpa using hl)]
  rw [val_set_take out i _ (by omega)]
  rw [val_take_succ out i (by omega)] at h
  rw [val_take_succ a i hi, Nat.add_mul, ← h, Nat.pow_succ]
  have e : 4294967296 ^ i * x = 4294967296 ^ i * (x % 4294967296) + 4294967296 ^ i * 4294967296 * (x / 4294967296) := by
    conv => lhs; rw [← Nat.mod_add_div x 4294967296]
    grind
  have e2 : 4294967296 ^ i * a[i] * 2 ^ k = 4294967296 ^ i * x := by rw [hx]; grind
  have e3 : 4294967296 ^ i * (out[i] + x % 4294967296) = 4294967296 ^ i * out[i] + 4294967296 ^ i * (x % 4294967296) := by grind
  omega

theorem val_drop_div (l : List Nat) (hs : Small l) (i : Nat) : val l / 4294967296 ^ i = val (l.drop i) := by
  have hp : 0 < 4294967296 ^ i := Nat.pow_pos (by omega)
  by_cases hi : i ≤ l.length
  · have h1 := val_take_drop l i
    have h2 := val_lt (hs.take i)
    rw [List.length_take, Nat.min_eq_left hi] at h2
    rw [Nat.min_eq_left hi] at h1
    rw [h1, Nat.add_mul_div_left _ _ hp, Nat.div_eq_of_lt h2, Nat.zero_add]
  · have h1 := val_lt hs
    have h2 : 4294967296 ^ l.length ≤ 4294967296 ^ i := Nat.pow_le_pow_right (by omega) (by omega)
    rw [List.drop_of_length_le (by omega), Nat.div_eq_of_lt (by omega)]; rfl

/-- One limb of a shift to the right. -/
theorem shr_step {a out : List Nat} {i s : Nat} (ha : Small a) (hi : i < a.length) (hl : i < out.length) (hs : s < 32) (h : val (out.take i) = val a / 2 ^ s % 4294967296 ^ i) (x : Nat) (hx : x = a[i] + 4294967296 * a.getD (i + 1) 0) :
    val ((out.set i (x / 2 ^ s % 4294967296)).take (i + 1)) = val a / 2 ^ s % 4294967296 ^ (i + 1) := by
  rw [val_set_take out i _ hl, h, Nat.pow_succ, Nat.mod_mul, Nat.div_div_eq_div_mul, Nat.mul_comm (2 ^ s), ← Nat.div_div_eq_div_mul, val_drop_div a ha i]
  congr 2
  rw [List.drop_eq_getElem_cons hi, val_cons]
  have e : val (a.drop (i + 1)) = a.getD (i + 1) 0 + 4294967296 * val (a.drop (i + 2)) := by
    by_cases h2 : i + 1 < a.length
    · rw [List.drop_eq_getElem_cons h2, val_cons, getD_of h2]
    · rw [List.drop_of_length_le (by omega), List.drop_of_length_le (by omega), getD_out (by omega)]; rfl
  rw [e, hx]
  have e2 : (4294967296 : Nat) = 2 ^ s * 2 ^ (32 - s) := by rw [← Nat.pow_add, show s + (32 - s) = 32 from by omega]
  have e3 : a[i] + 4294967296 * (a.getD (i + 1) 0 + 4294967296 * val (a.drop (i + 2))) = (a[i] + 4294967296 * a.getD (i + 1) 0) + 2 ^ s * (4294967296 * (2 ^ (32 - s) * val (a.drop (i + 2)))) := by
    have : 4294967296 * (4294967296 * val (a.drop (i + 2))) = 2 ^ s * (4294967296 * (2 ^ (32 - s) * val (a.drop (i + 2)))) := by
      conv => lhs; lhs; rw [e2]
      grind
    grind
  rw [e3, Nat.add_mul_div_left _ _ (Nat.pow_pos (by omega)), Nat.add_mul_mod_self_left]

/-- One limb of a division by a limb, from the top. -/
theorem short_step {a out : List Nat} {n d r : Nat} (hn : 0 < n) (hna : n ≤ a.length) (hnl : n ≤ out.length) (h : val (a.drop n) = val (out.drop n) * d + r) (t : Nat) (ht : t = r * 4294967296 + a[n - 1]'(by omega)) :
    val (a.drop (n - 1)) = val ((out.set (n - 1) (t / d)).drop (n - 1)) * d + t % d := by
  rw [List.drop_eq_getElem_cons (show n - 1 < a.length from by omega), List.drop_eq_getElem_cons (show n - 1 < (out.set (n - 1) (t / d)).length from by simp; omega)]
  rw [List.getElem_set_self, List.drop_set_of_lt (by omega), show n - 1 + 1 = n from by omega]
  simp only [val_cons]
  rw [h]
  have := Nat.div_add_mod t d
  grind
end Rc
namespace Rc
/-- The first n limbs of a number. -/
def padL (n x : Nat) : List Nat := (List.range n).map fun i => x / 4294967296 ^ i % 4294967296
theorem padL_length (n x : Nat) : (padL n x).length = n := by simp [padL]
theorem padL_eq {l : List Nat} (hs : Small l) : l = padL l.length (val l) := by
  apply List.ext_getElem
  · simp [padL]
  · intro i h1 h2
    simp only [padL, List.getElem_map, List.getElem_range]
    rw [val_drop_div l hs i, List.drop_eq_getElem_cons h1, val_cons]
    have := hs.get i h1
    omega
theorem padL_of {l : List Nat} {n x : Nat} (hs : Small l) (hl : l.length = n) (hv : val l = x) : l = padL n x := by subst hl; subst hv; exact padL_eq hs
theorem small_padL (n x : Nat) : Small (padL n x) := by
  intro y hy
  simp only [padL, List.mem_map] at hy
  obtain ⟨i, _, rfl⟩ := hy
  omega
theorem val_padL {n x : Nat} (h : x < 4294967296 ^ n) : val (padL n x) = x := by
  have e : padL n x = limbs x ++ List.replicate (n - (limbs x).length) 0 := by
    refine (padL_of ((small_limbs x).append (Small.replicate _)) ?_ ?_).symm
    · have := limbs_length_le.2 h; simp; omega
    · rw [val_append, val_replicate, val_limbs]; simp
  rw [e, val_append, val_replicate, val_limbs]; simp

theorem left_or {o d k : Nat} (hk : k < 32) (ho : o < 2 ^ k) : (d * 2 ^ k % 4294967296) % 2 ^ k = 0 ∧ d * 2 ^ k % 4294967296 + o < 4294967296 := by
  have e : (4294967296 : Nat) = 2 ^ (32 - k) * 2 ^ k := by rw [← Nat.pow_add, show 32 - k + k = 32 from by omega]
  have h1 : d * 2 ^ k % 4294967296 = (d % 2 ^ (32 - k)) * 2 ^ k := by rw [e, Nat.mul_mod_mul_right]
  have hp : 0 < 2 ^ (32 - k) := Nat.pow_pos (by omega)
  have h2 : d % 2 ^ (32 - k) < 2 ^ (32 - k) := Nat.mod_lt _ hp
  rw [h1]
  refine ⟨Nat.mul_mod_left _ _, ?_⟩
  rw [e]
  generalize 2 ^ (32 - k) = m at *
  generalize 2 ^ k = p at *
  have : (d % m + 1) * p ≤ m * p := Nat.mul_le_mul_right _ h2
  rw [Nat.add_mul, Nat.one_mul] at this
  omega
theorem left_bound {d k : Nat} (hk : k < 32) (hd : d < 4294967296) : d * 2 ^ k < 18446744073709551616 ∧ d * 2 ^ k / 4294967296 < 2 ^ k ∧ (2:Nat) ^ k ≤ 2147483648 := by
  have h1 : (2 : Nat) ^ k ≤ 2 ^ 31 := Nat.pow_le_pow_right (by omega) (by omega)
  have hp : 0 < (2 : Nat) ^ k := Nat.pow_pos (by omega)
  have h2 : d * 2 ^ k ≤ 4294967295 * 2 ^ k := Nat.mul_le_mul_right _ (by omega)
  refine ⟨by omega, ?_, by omega⟩
  rw [Nat.div_lt_iff_lt_mul (by omega)]
  omega
/-- A shift by k is one by limbs and one by bits. -/
theorem shift_split (x k : Nat) : x / 4294967296 ^ (k / 32) / 2 ^ (k % 32) = x / 2 ^ k := by
  rw [pow32, Nat.div_div_eq_div_mul, ← Nat.pow_add, Nat.div_add_mod]
end Rc
