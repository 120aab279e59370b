/- Long division: plain mathematics. -/
import Derived.Test.YtpabkdpijcbkgaaGreatDoorFwI
namespace Rc
open Go Go.RowKit
set_option maxRecDepth 10000

/-- What natural.estimate gives. -/
def est (top s2 v1 v2 : Nat) : Nat :=
  if top < 4294967296 then min ((top * 4294967296 + s2) / (v1 * 4294967296 + v2)) 4294967295
  else max (min ((top * 4294967296 + s2) / (v1 * 4294967296 + v2)) 4294967295) ((top - 4294967296) / v1)

theorem est_a1 {A r s2 b : Nat} (h : r * 4294967296 + s2 < b) : (A + r) * 4294967296 + s2 < A * 4294967296 + b := by
  rw [Nat.add_mul, Nat.add_assoc]; exact Nat.add_lt_add_left h _
theorem est_a2 {a W T p : Nat} (h : a + W ≤ T) (hp : p ≤ W) : a + p ≤ T := Nat.le_trans (Nat.add_le_add_left hp _) h
theorem est_stop1 {top s2 v1 v2 q r : Nat} (h1 : 0 < v1) (hq : q < 4294967296) (h : q * v2 ≤ r * 4294967296 + s2) (ht : q * v1 + r = top) : q ≤ est top s2 v1 v2 := by
  have hW : q ≤ (top * 4294967296 + s2) / (v1 * 4294967296 + v2) := by
    rw [Nat.le_div_iff_mul_le (by omega)]
    subst ht
    have : q * (v1 * 4294967296 + v2) = q * v1 * 4294967296 + q * v2 := by grind
    rw [this]; omega
  have hm : q ≤ min ((top * 4294967296 + s2) / (v1 * 4294967296 + v2)) 4294967295 := Nat.le_min.2 ⟨hW, by omega⟩
  unfold est
  split
  · exact hm
  · exact Nat.le_trans hm (Nat.le_max_left _ _)
theorem est_stop2 {top s2 v1 v2 q r : Nat} (h1 : 0 < v1) (hr : 4294967296 ≤ r) (ht : q * v1 + r = top) : q ≤ est top s2 v1 v2 := by
  have hm : q ≤ (top - 4294967296) / v1 := by
    rw [Nat.le_div_iff_mul_le h1]; omega
  unfold est
  rw [if_neg (by omega)]
  exact Nat.le_trans hm (Nat.le_max_right _ _)
theorem est_lt {top s2 v1 v2 q r : Nat} (h1 : 0 < v1) (hr : r < 4294967296) (ht : q * v1 + r = top) (h : 4294967296 ≤ q ∨ r * 4294967296 + s2 < q * v2) : est top s2 v1 v2 < q := by
  have hm : min ((top * 4294967296 + s2) / (v1 * 4294967296 + v2)) 4294967295 < q := by
    rcases h with h | h
    · exact Nat.lt_of_le_of_lt (Nat.min_le_right _ _) (Nat.lt_of_lt_of_le (Nat.lt_succ_self 4294967295) h)
    · refine Nat.lt_of_le_of_lt (Nat.min_le_left _ _) ?_
      rw [Nat.div_lt_iff_lt_mul (by omega)]
      subst ht
      have : q * (v1 * 4294967296 + v2) = q * v1 * 4294967296 + q * v2 := by grind
      rw [this]; exact est_a1 h
  unfold est
  split
  · exact hm
  · refine Nat.max_lt.2 ⟨hm, ?_⟩
    rw [Nat.div_lt_iff_lt_mul h1]; omega
theorem est_le {top s2 v1 v2 : Nat} (h1 : 0 < v1) (h2 : s2 < 4294967296) : est top s2 v1 v2 ≤ top / v1 := by
  have hm : min ((top * 4294967296 + s2) / (v1 * 4294967296 + v2)) 4294967295 ≤ top / v1 := by
    refine Nat.le_trans (Nat.min_le_left _ _) ?_
    rw [Nat.le_div_iff_mul_le h1]
    have hd := Nat.div_mul_le_self (top * 4294967296 + s2) (v1 * 4294967296 + v2)
    generalize (top * 4294967296 + s2) / (v1 * 4294967296 + v2) = q at *
    have : q * (v1 * 4294967296 + v2) = q * v1 * 4294967296 + q * v2 := by grind
    rw [this] at hd
    omega
  unfold est
  split
  · exact hm
  · exact Nat.max_le.2 ⟨hm, Nat.div_le_div_right (by omega)⟩
/-- The estimate is right or one too great. -/
theorem est_bounds {top s2 v1 v2 lo lov e S V : Nat} (he : 0 < e) (hv1 : 2147483648 ≤ v1) (hv1' : v1 < 4294967296) (hv2 : v2 < 4294967296) (hs2 : s2 < 4294967296) (hlo : lo < e) (hlov : lov < e)
    (hS : S = lo + e * (top * 4294967296 + s2)) (hV : V = lov + e * (v1 * 4294967296 + v2)) (hSV : S < V * 4294967296) :
    S / V ≤ est top s2 v1 v2 ∧ est top s2 v1 v2 ≤ S / V + 1 := by
  have hVpos : 0 < V := by
    rw [hV]; have : 0 < e * (v1 * 4294967296 + v2) := Nat.mul_pos he (by omega)
    omega
  have hqB : S / V < 4294967296 := by rw [Nat.div_lt_iff_lt_mul hVpos, Nat.mul_comm]; exact hSV
  have htop : top < (v1 + 1) * 4294967296 := by
    -- S < V * B, so top * B * e ≤ S < V * B < e * (v1*B + v2 + 1) * B
    have h1 : e * (top * 4294967296) < e * ((v1 * 4294967296 + v2 + 1) * 4294967296) := by
      have h2 : e * (top * 4294967296) ≤ S := by rw [hS, Nat.mul_add]; omega
      have h3 : V ≤ e * (v1 * 4294967296 + v2 + 1) := by rw [hV, Nat.mul_add e _ 1, Nat.mul_one]; omega
      have h4 : V * 4294967296 ≤ e * (v1 * 4294967296 + v2 + 1) * 4294967296 := Nat.mul_le_mul_right _ h3
      rw [Nat.mul_assoc] at h4
      omega
    have := Nat.lt_of_mul_lt_mul_left h1
    omega
  constructor
  · have hd := Nat.div_mul_le_self S V
    have hm : S / V ≤ min ((top * 4294967296 + s2) / (v1 * 4294967296 + v2)) 4294967295 := by
      refine Nat.le_min.2 ⟨?_, by omega⟩
      rw [Nat.le_div_iff_mul_le (by omega)]
      have h1 : e * (S / V * (v1 * 4294967296 + v2)) < e * (top * 4294967296 + s2 + 1) := by
        have h2 : S / V * (e * (v1 * 4294967296 + v2)) ≤ S / V * V := Nat.mul_le_mul_left _ (by rw [hV]; omega)
        have h3 : e * (S / V * (v1 * 4294967296 + v2)) = S / V * (e * (v1 * 4294967296 + v2)) := by grind
        rw [Nat.mul_add e _ 1, Nat.mul_one, h3]
        omega
      have := Nat.lt_of_mul_lt_mul_left h1
      omega
    unfold est
    split
    · exact hm
    · exact Nat.le_trans hm (Nat.le_max_left _ _)
  · -- q W ≤ top B + s2
    have hqW : ∀ q, q ≤ est top s2 v1 v2 → q ≤ 4294967296 ∧ q * (v1 * 4294967296 + v2) ≤ top * 4294967296 + s2 ∨ q ≤ 4294967295 ∧ q * (v1 * 4294967296 + v2) ≤ top * 4294967296 + s2 := by
      intro q hq
      have hleft : q ≤ min ((top * 4294967296 + s2) / (v1 * 4294967296 + v2)) 4294967295 → q ≤ 4294967295 ∧ q * (v1 * 4294967296 + v2) ≤ top * 4294967296 + s2 := by
        intro h
        obtain ⟨h1, h2⟩ := Nat.le_min.1 h
        exact ⟨h2, (Nat.le_div_iff_mul_le (by omega)).1 h1⟩
      unfold est at hq
      split at hq
      · exact .inr (hleft hq)
      · by_cases hc : q ≤ min ((top * 4294967296 + s2) / (v1 * 4294967296 + v2)) 4294967295
        · exact .inr (hleft hc)
        · have h2 : q ≤ (top - 4294967296) / v1 := by
            rcases Nat.le_total (min ((top * 4294967296 + s2) / (v1 * 4294967296 + v2)) 4294967295) ((top - 4294967296) / v1) with h | h
            · rwa [Nat.max_eq_right h] at hq
            · rw [Nat.max_eq_left h] at hq; exact absurd hq hc
          have h3 : q * v1 ≤ top - 4294967296 := (Nat.le_div_iff_mul_le (by omega)).1 h2
          have h4 : q ≤ 4294967296 := by
            apply Classical.byContradiction
            intro hn
            have : 4294967297 * v1 ≤ q * v1 := Nat.mul_le_mul_right _ (by omega)
            omega
          refine .inl ⟨h4, ?_⟩
          have h5 : q * v2 ≤ 4294967296 * 4294967295 := Nat.mul_le_mul h4 (by omega)
          have : q * (v1 * 4294967296 + v2) = q * v1 * 4294967296 + q * v2 := by grind
          rw [this]; omega
    have hq := hqW _ (Nat.le_refl _)
    generalize est top s2 v1 v2 = q at *
    have hq' : q ≤ 4294967296 ∧ q * (v1 * 4294967296 + v2) ≤ top * 4294967296 + s2 := by rcases hq with h | h <;> exact ⟨by omega, h.2⟩
    obtain ⟨hqB', hqW'⟩ := hq'
    rcases Nat.eq_zero_or_pos q with h0 | h0
    · rw [h0]; exact Nat.zero_le _
    · have : q - 1 ≤ S / V := by
        rw [Nat.le_div_iff_mul_le hVpos]
        obtain ⟨p, rfl⟩ : ∃ p, q = p + 1 := ⟨q - 1, by omega⟩
        simp only [Nat.add_sub_cancel]
        -- p V ≤ p e (W + 1) = e (p W + p) ≤ e (top3 - W + p) ≤ e top3
        have h3 : V ≤ e * (v1 * 4294967296 + v2 + 1) := by rw [hV, Nat.mul_add e _ 1, Nat.mul_one]; omega
        have h4 : p * V ≤ p * (e * (v1 * 4294967296 + v2 + 1)) := Nat.mul_le_mul_left _ h3
        have h5 : p * (e * (v1 * 4294967296 + v2 + 1)) = e * (p * (v1 * 4294967296 + v2) + p) := by grind
        have h6 : p * (v1 * 4294967296 + v2) + p ≤ top * 4294967296 + s2 := by
          rw [Nat.add_mul, Nat.one_mul] at hqW'
          have hW : p ≤ v1 * 4294967296 + v2 := by omega
          exact est_a2 hqW' hW
        have h7 := Nat.mul_le_mul_left e h6
        rw [hS]
        omega
      generalize S / V = z at *
      omega

/-! ## One step of the division -/
theorem get_part {pre s post : List Nat} {j i : Nat} (hj : j = pre.length + i) (h : i < s.length) : ((pre ++ s ++ post).map u32L)[j]? = some (u32L s[i]) := by
  subst hj
  rw [List.getElem?_map, List.getElem?_append_left (by simp; omega), List.getElem?_append_right (by omega)]
  simp [h]
theorem splice_part {pre s post : List Nat} {j i x : Nat} (hj : j = pre.length + i) (h : i < s.length) : splice ((pre ++ s ++ post).map u32L) j [u32L x] = (pre ++ s.set i x ++ post).map u32L := by
  subst hj
  rw [splice_u32 (by simp; omega), List.set_append_left _ _ (by simp; omega), List.set_append_right _ _ (by omega)]
  simp

theorem red_step {s0 s v : List Nat} {i c b q : Nat} (hi : i < s.length) (hi0 : i < s0.length) (hv : i < v.length) (h : val (s.take i) + q * val (v.take i) = val (s0.take i) + (c + b) * 4294967296 ^ i)
    (hsi : s.drop i = s0.drop i) (x b' t : Nat) (ht : t = c + q * v[i]) (hx : x + t % 4294967296 + b = s[i] + 4294967296 * b') :
    val ((s.set i x).take (i + 1)) + q * val (v.take (i + 1)) = val (s0.take (i + 1)) + (t / 4294967296 + b') * 4294967296 ^ (i + 1) := by
  rw [val_set_take _ _ _ hi, val_take_succ v i hv, val_take_succ s0 i hi0]
  have he : s0[i] = s[i] := by
    have := congrArg (fun l => l[0]?) hsi
    simp only [List.getElem?_drop, Nat.add_zero] at this
    rw [List.getElem?_eq_getElem hi, List.getElem?_eq_getElem hi0] at this
    simpa using this.symm
  rw [he, Nat.pow_succ]
  have hd := Nat.div_add_mod t 4294967296
  generalize t / 4294967296 = T at *
  generalize t % 4294967296 = m at *
  generalize 4294967296 ^ i = p at *
  generalize val (s.take i) = A at *
  generalize val (v.take i) = Bv at *
  generalize val (s0.take i) = C at *
  have e1 : p * x + p * m + p * b = p * s[i] + p * (4294967296 * b') := by rw [← Nat.mul_add, ← Nat.mul_add, ← Nat.mul_add, hx]
  have e2 : p * (4294967296 * T) + p * m = p * c + p * (q * v[i]) := by rw [← Nat.mul_add, hd, ht, Nat.mul_add]
  grind
theorem red_drop {s0 s : List Nat} {i x : Nat} (h : s.drop i = s0.drop i) : (s.set i x).drop (i + 1) = s0.drop (i + 1) := by
  rw [List.drop_set_of_lt (by omega)]
  have := congrArg (List.drop 1) h
  simpa [List.drop_drop, Nat.add_comm] using this
theorem get_of_drop {s0 s : List Nat} {i : Nat} (h : s.drop i = s0.drop i) (hi : i < s.length) (hi0 : i < s0.length) : s[i] = s0[i] := by
  have := congrArg (fun l => l[0]?) h
  simp only [List.getElem?_drop, Nat.add_zero] at this
  rw [List.getElem?_eq_getElem hi, List.getElem?_eq_getElem hi0] at this
  simpa using this
/-- Subtraction with a borrow, modulo 2^64. -/
theorem sub_digit {s l b : Nat} (hs : s < 4294967296) (hl : l + b ≤ 4294967296) :
    let x := (s + (18446744073709551616 - (l + b))) % 18446744073709551616
    x % 4294967296 + l + b = s + 4294967296 * (x / 9223372036854775808) ∧ x / 9223372036854775808 ≤ 1 := by
  intro x
  by_cases h : l + b ≤ s
  · have : x = s - (l + b) := by show _ % _ = _; omega
    rw [this]; omega
  · have : x = s + (18446744073709551616 - (l + b)) := Nat.mod_eq_of_lt (by omega)
    rw [this]; omega
theorem red_total {s0 s v : List Nat} {n c b q x b' : Nat} (hl : s.length = n + 1) (hl0 : s0.length = n + 1) (hvl : v.length = n) (h : val (s.take n) + q * val (v.take n) = val (s0.take n) + (c + b) * 4294967296 ^ n)
    (hd : s.drop n = s0.drop n) (hx : x + c + b = s[n] + 4294967296 * b') : val (s.set n x) + q * val v = val s0 + b' * 4294967296 ^ (n + 1) := by
  have e1 := val_set_take s n x (by omega)
  rw [val_take_all _ _ (by simp; omega)] at e1
  have e2 := val_take_succ s0 n (by omega)
  rw [val_take_all _ _ (by omega)] at e2
  rw [val_take_all v _ (by omega)] at h
  have e3 := get_of_drop hd (by omega) (by omega)
  rw [e1, e2, Nat.pow_succ]
  rw [e3] at hx
  generalize 4294967296 ^ n = p at *
  have e4 : p * x + p * c + p * b = p * s0[n] + p * (4294967296 * b') := by rw [← Nat.mul_add, ← Nat.mul_add, ← Nat.mul_add, hx]
  grind
theorem red_fin0 {a S V q : Nat} (hq : q = S / V ∨ q = S / V + 1) (hV : 0 < V) (h : a + q * V = S) : q = S / V ∧ a = S % V := by
  have h1 : q ≤ S / V := by rw [Nat.le_div_iff_mul_le hV]; omega
  have h2 : q = S / V := by rcases hq with h | h <;> omega
  have h3 := Nat.div_add_mod S V
  rw [Nat.mul_comm] at h3
  rw [← h2] at h3
  exact ⟨h2, by omega⟩
theorem red_fin1 {a S V q M : Nat} (hq : q = S / V ∨ q = S / V + 1) (hV : 0 < V) (ha : a < M) (h : a + q * V = S + M) : q = S / V + 1 ∧ a + V = M + S % V := by
  have h3 := Nat.div_add_mod S V
  rw [Nat.mul_comm] at h3
  have h4 := Nat.mod_lt S hV
  rcases hq with h' | h'
  · rw [h'] at h; generalize S / V * V = z at *; omega
  · refine ⟨h', ?_⟩
    rw [h', Nat.add_mul, Nat.one_mul] at h
    generalize S / V * V = z at *
    omega
theorem red_back {s3 s2 v : List Nat} {n c V R : Nat} (hs3 : Small s3) (hl : s3.length = n + 1) (hl2 : s2.length = n + 1) (hvl : v.length = n) (h : val (s3.take n) + c * 4294967296 ^ n = val (s2.take n) + val (v.take n)) (hd : s3.drop n = s2.drop n)
    (hV : val v = V) (hR : R < 4294967296 ^ (n + 1)) (ht : val s2 + V = 4294967296 ^ (n + 1) + R) : val (s3.set n ((s3[n] + c) % 4294967296)) = R := by
  have e1 := val_set_take s3 n ((s3[n] + c) % 4294967296) (by omega)
  rw [val_take_all _ _ (by simp; omega)] at e1
  have e2 := val_take_succ s2 n (by omega)
  rw [val_take_all _ _ (by omega)] at e2
  rw [val_take_all v _ (by omega), hV] at h
  have e3 := get_of_drop hd (by omega) (by omega)
  have hlt := val_lt (hs3.set n ((s3[n] + c) % 4294967296) (Nat.mod_lt _ (by decide)))
  have hlen : (s3.set n ((s3[n] + c) % 4294967296)).length = n + 1 := by simp [hl]
  rw [hlen] at hlt
  have hdm := Nat.div_add_mod (s3[n] + c) 4294967296
  rw [e1] at hlt ⊢
  rw [e2, ← e3] at ht
  generalize hm : (s3[n] + c) % 4294967296 = m at *
  generalize hz : (s3[n] + c) / 4294967296 = z at *
  rw [Nat.pow_succ] at hlt hR ht
  generalize 4294967296 ^ n = p at *
  generalize val (s3.take n) = A at *
  generalize val (s2.take n) = C at *
  -- A + p m + p B z = p B + R, with both A + p m and R below p B
  have e4 : p * (4294967296 * z) + p * m = p * s3[n] + p * c := by rw [← Nat.mul_add, ← Nat.mul_add, hdm]
  have e5 : A + p * m + p * 4294967296 * z = p * 4294967296 + R := by grind
  have hz1 : z = 1 := by
    rcases Nat.lt_or_ge z 1 with h1 | h1
    · have : z = 0 := by omega
      subst this; omega
    · rcases Nat.lt_or_ge 1 z with h2 | h2
      · have := Nat.mul_le_mul_left (p * 4294967296) h2
        omega
      · omega
  subst hz1
  omega

/-! ## The whole division -/
theorem norm_div {b : List Nat} (hc : Canon b) (hn : 0 < b.length) : 0 < b[b.length - 1]'(by omega) ∧ 32 - bl (b[b.length - 1]'(by omega)) < 32 ∧ (limbs (val b * 2 ^ (32 - bl (b[b.length - 1]'(by omega))))).length = b.length ∧
    2147483648 ≤ (limbs (val b * 2 ^ (32 - bl (b[b.length - 1]'(by omega))))).getD (b.length - 1) 0 := by
  have htop : b[b.length - 1]'(by omega) ≠ 0 := by
    have h := hc.2 (by intro e; rw [e] at hn; simp at hn)
    rwa [List.getLast_eq_getElem] at h
  have hs := hc.1.get (b.length - 1) (by omega)
  have h1 := bl_pos htop
  have h2 : bl (b[b.length - 1]'(by omega)) ≤ 32 := bl_le_of_lt hs
  have hb := bl_limbs hc hn
  generalize b[b.length - 1]'(by omega) = t at *
  have hv0 : val b ≠ 0 := by intro e; rw [e, bl_zero] at hb; omega
  have g1 := bl_lt (val b)
  have g2 := bl_le hv0
  have hbl : bl (val b * 2 ^ (32 - bl t)) = 32 * b.length := by
    apply bl_unique
    · have : 32 * b.length = bl (val b) + (32 - bl t) := by omega
      rw [this, Nat.pow_add]
      exact Nat.mul_lt_mul_of_pos_right g1 (Nat.pow_pos (by decide))
    · intro _
      have : 32 * b.length - 1 = (bl (val b) - 1) + (32 - bl t) := by omega
      rw [this, Nat.pow_add]
      exact Nat.mul_le_mul_right _ g2
  have hlt := bl_lt (val b * 2 ^ (32 - bl t))
  have hV0 : val b * 2 ^ (32 - bl t) ≠ 0 := Nat.mul_ne_zero hv0 (Nat.ne_of_gt (Nat.pow_pos (by decide)))
  have hle := bl_le hV0
  rw [hbl] at hlt hle
  generalize val b * 2 ^ (32 - bl t) = V at *
  have hl1 : (limbs V).length ≤ b.length := limbs_length_le.2 (by rw [pow32]; exact hlt)
  have hl2 : ¬ (limbs V).length ≤ b.length - 1 := by
    rw [limbs_length_le, pow32]
    have := Nat.pow_le_pow_right (n := 2) (by decide) (show 32 * (b.length - 1) ≤ 32 * b.length - 1 by omega)
    omega
  have hl : (limbs V).length = b.length := by omega
  refine ⟨by omega, by omega, hl, ?_⟩
  have hb2 := bl_limbs (canon_limbs V) (by omega)
  rw [val_limbs, hbl] at hb2
  rw [getD_of (by omega)]
  have e : (limbs V)[(limbs V).length - 1]'(by omega) = (limbs V)[b.length - 1]'(by omega) := by congr 1; omega
  rw [e] at hb2
  have h32 : bl ((limbs V)[b.length - 1]'(by omega)) = 32 := by omega
  have := bl_le (n := (limbs V)[b.length - 1]'(by omega)) (by intro e0; rw [e0] at h32; simp [bl_zero] at h32)
  rw [h32] at this
  simpa using this
theorem dm_split {us : List Nat} {k n : Nat} (hk : 0 < k) (h : k + n ≤ us.length) : ∃ pre s post, us = pre ++ s ++ post ∧ pre.length = k - 1 ∧ s.length = n + 1 :=
  ⟨us.take (k - 1), (us.drop (k - 1)).take (n + 1), (us.drop (k - 1)).drop (n + 1), by rw [List.append_assoc, List.take_append_drop, List.take_append_drop], by simp; omega, by simp; omega⟩
theorem dm_seg {pre s post : List Nat} {n V : Nat} (hs : Small (pre ++ s ++ post)) (hl : s.length = n + 1) (hV : V < 4294967296 ^ n) (h : val ((pre ++ s ++ post).drop (pre.length + 1)) < V) : Small s ∧ Small pre ∧ Small post ∧ val post = 0 ∧ val s < V * 4294967296 := by
  have h1 : Small s := fun x hx => hs x (by simp [hx])
  refine ⟨h1, fun x hx => hs x (by simp [hx]), fun x hx => hs x (by simp [hx]), ?_⟩
  match s, hl with
  | d :: t, hl =>
    have hd : (pre ++ (d :: t) ++ post).drop (pre.length + 1) = t ++ post := by
      rw [List.append_assoc, ← List.drop_drop, List.drop_left]; rfl
    rw [hd, val_append] at h
    have ht : t.length = n := by simpa using hl
    rw [ht] at h
    have hp : val post = 0 := by
      rcases Nat.eq_zero_or_pos (val post) with h0 | h0
      · exact h0
      · have := Nat.mul_le_mul_left (4294967296 ^ n) h0
        omega
    refine ⟨hp, ?_⟩
    have hd := h1.head
    rw [hp] at h
    simp only [val]
    omega
theorem dm_step {pre s post out : List Nat} {n V A k : Nat} (hk : pre.length = k) (hko : k < out.length) (hp : val post = 0) (hV0 : 0 < V) (hV : V < 4294967296 ^ n)
    (h : val (pre ++ s ++ post) + V * (4294967296 ^ (k + 1) * val (out.drop (k + 1))) = A) :
    val (pre ++ padL (n + 1) (val s % V) ++ post) + V * (4294967296 ^ k * val ((out.set k (val s / V)).drop k)) = A ∧ val ((pre ++ padL (n + 1) (val s % V) ++ post).drop k) < V := by
  have hm := Nat.mod_lt (val s) hV0
  have hpl : val (padL (n + 1) (val s % V)) = val s % V := val_padL (Nat.lt_trans hm (Nat.lt_of_lt_of_le hV (Nat.pow_le_pow_right (by decide) (by omega))))
  constructor
  · rw [List.drop_eq_getElem_cons (show k < (out.set k (val s / V)).length by simpa using hko), List.getElem_set_self, List.drop_set_of_lt (by omega)]
    simp only [val]
    rw [val_append, val_append, hp, hpl, hk]
    rw [val_append, val_append, hp, hk] at h
    have := Nat.div_add_mod (val s) V
    generalize val s / V = q at *
    generalize val s % V = r at *
    rw [← h, ← this, Nat.pow_succ]
    simp only [Nat.mul_zero, Nat.add_zero]
    generalize 4294967296 ^ k = p at *
    grind
  · subst hk
    rw [List.append_assoc, List.drop_left, val_append, hp, hpl]
    simpa using hm
theorem dm_fin {x va vb sh o : Nat} (h : x + vb * 2 ^ sh * o = va * 2 ^ sh) (hx : x < vb * 2 ^ sh) : o = va / vb ∧ x / 2 ^ sh = va % vb := by
  have hp : 0 < 2 ^ sh := Nat.pow_pos (by decide)
  have hvb : 0 < vb := by
    rcases Nat.eq_zero_or_pos vb with h0 | h0
    · subst h0; simp at hx
    · exact h0
  have hdv : 2 ^ sh ∣ x := by
    have h1 : 2 ^ sh ∣ va * 2 ^ sh := Nat.dvd_mul_left _ _
    rw [← h] at h1
    exact (Nat.dvd_add_left ⟨vb * o, by grind⟩).1 h1
  obtain ⟨y, rfl⟩ := hdv
  have hy : y + vb * o = va := by
    have : 2 ^ sh * (y + vb * o) = 2 ^ sh * va := by grind
    exact Nat.eq_of_mul_eq_mul_left hp this
  have hyb : y < vb := by
    rw [Nat.mul_comm] at hx
    exact Nat.lt_of_mul_lt_mul_right hx
  rw [Nat.mul_div_cancel_left _ hp, ← hy]
  refine ⟨?_, ?_⟩
  · rw [Nat.add_comm, Nat.mul_add_div hvb, Nat.div_eq_of_lt hyb, Nat.add_zero]
  · rw [Nat.add_comm, Nat.mul_add_mod, Nat.mod_eq_of_lt hyb]
theorem dm_start {a : List Nat} {n sh V A L : Nat} (hs : Small a) (hL : L = a.length + 1) (hA : A = val a * 2 ^ sh) (hsh : sh < 32) (hn : n ≤ a.length) (hV : 4294967296 ^ (n - 1) * 2 ^ sh ≤ V) (hn0 : 0 < n) :
    A < 4294967296 ^ L ∧ val ((padL L A).drop (a.length - n + 1)) < V := by
  have hlt := val_lt hs
  have hsh2 : 2 ^ sh < 4294967296 := Nat.lt_of_lt_of_le (Nat.pow_lt_pow_right (by decide) hsh) (by decide)
  have hp : 0 < 2 ^ sh := Nat.pow_pos (by decide)
  have hA1 : A < 4294967296 ^ a.length * 2 ^ sh := by subst hA; exact Nat.mul_lt_mul_of_pos_right hlt hp
  have hAL : A < 4294967296 ^ L := by
    subst hL; rw [Nat.pow_succ]
    exact Nat.lt_of_lt_of_le hA1 (Nat.mul_le_mul_left _ (by omega))
  refine ⟨hAL, ?_⟩
  rw [← val_drop_div _ (small_padL _ _), val_padL hAL]
  refine Nat.lt_of_lt_of_le ?_ hV
  rw [Nat.div_lt_iff_lt_mul (Nat.pow_pos (by decide))]
  refine Nat.lt_of_lt_of_le hA1 (Nat.le_of_eq ?_)
  have : a.length = (n - 1) + (a.length - n + 1) := by omega
  conv => lhs; rw [this, Nat.pow_add]
  grind
theorem estimate_bounds {s v : List Nat} (hs : Small s) (hv : Small v) (hsl : s.length = v.length + 1) (hn : 2 ≤ v.length) (htop : 2147483648 ≤ v.getD (v.length - 1) 0) (hlt : val s < val v * 4294967296) :
    val s / val v ≤ est (s.getD v.length 0 * 4294967296 + s.getD (v.length - 1) 0) (s.getD (v.length - 2) 0) (v.getD (v.length - 1) 0) (v.getD (v.length - 2) 0) ∧
    est (s.getD v.length 0 * 4294967296 + s.getD (v.length - 1) 0) (s.getD (v.length - 2) 0) (v.getD (v.length - 1) 0) (v.getD (v.length - 2) 0) ≤ val s / val v + 1 := by
  obtain ⟨n, hn2⟩ : ∃ n, v.length = n + 2 := ⟨v.length - 2, by omega⟩
  have e1 := val_take_getD s n
  have e2 := val_take_getD s (n + 1)
  have e3 := val_take_getD s (n + 2)
  have g1 := val_take_getD v n
  have g2 := val_take_getD v (n + 1)
  rw [val_take_all s (n + 2 + 1) (by omega)] at e3
  rw [val_take_all v (n + 1 + 1) (by omega)] at g2
  rw [hn2] at htop ⊢
  simp only [Nat.add_sub_cancel, show n + 2 - 1 = n + 1 from rfl] at htop ⊢
  have l1 := val_lt (hs.take n)
  have l2 := val_lt (hv.take n)
  rw [List.length_take, Nat.min_eq_left (by omega)] at l1 l2
  refine est_bounds (lo := val (s.take n)) (lov := val (v.take n)) (e := 4294967296 ^ n) (Nat.pow_pos (by decide)) htop (hv.getD _) (hv.getD _) (hs.getD _) l1 l2 ?_ ?_ hlt
  · rw [e3, e2, e1, Nat.pow_succ, Nat.pow_succ]; grind
  · rw [g2, g1, Nat.pow_succ]; grind
theorem norm_ex {b : List Nat} (hc : Canon b) (hn : 0 < b.length) : ∃ sh, 32 - bl (b[b.length - 1]'(by omega)) = sh ∧ sh < 32 ∧ (limbs (val b * 2 ^ sh)).length = b.length ∧ 2147483648 ≤ (limbs (val b * 2 ^ sh)).getD (b.length - 1) 0 :=
  let ⟨_, h2, h3, h4⟩ := norm_div hc hn
  ⟨_, rfl, h2, h3, h4⟩
end Rc
