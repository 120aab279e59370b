/- The plain law of the statements on dyadic numbers. -/
import Derived.Test.YtpabkdpijcbkgaaDoorDyR
set_option linter.unusedVariables false
set_option linter.unusedSimpArgs false
namespace Rc
open Go Go.RowKit
theorem isD_zero : isD Dy.zero.neg (limbs Dy.zero.mag) Dy.zero.exp = true := by
  show isD false (limbs 0) 0 = true
  rw [limbs_zero]; rfl
theorem isD_nrm (s : Bool) (n : Nat) (e : Int) : isD (nrm s n e).neg (limbs (nrm s n e).mag) (nrm s n e).exp = true := by
  have hx := nrm_exp s n e
  by_cases h0 : n = 0
  · subst h0; exact isD_zero
  · cases hk : nok n e with
    | false => rw [nrm_no hk]; exact isD_zero
    | true =>
      have h1 : nrm s n e = ⟨s, n / 2 ^ tz n, e + tz n⟩ := by unfold nrm; rw [if_neg h0, if_pos hk]
      rw [h1] at hx ⊢
      simp only at hx ⊢
      have h2 := tz_div_odd h0
      generalize n / 2 ^ tz n = m at *
      have hm : m ≠ 0 := by intro e; subst e; simp at h2
      have h3 := limbs_len_pos.2 hm
      unfold isD
      rw [if_neg (by omega), decide_eq_true (canon_limbs m).2]
      have h4 : (limbs m).getD 0 0 = m % 4294967296 := by rw [limbs_pos hm]; rfl
      rw [h4]
      simp [hx.1, hx.2]
      omega
theorem isD_exD (r : Rat) : isD (exD r).neg (limbs (exD r).mag) (exD r).exp = true := by
  unfold exD; split
  · exact isD_nrm _ _ _
  · exact isD_zero
theorem rq_ext {s : Bool} {n d n' d' : Nat} (hd : d ≠ 0) (hd' : d' ≠ 0) (h : n * d' = n' * d) : rq s n d = rq s n' d' := by
  unfold rq dn
  rw [if_neg hd, if_neg hd', Rat.mkRat_eq_iff hd hd']
  have h1 : (n : Int) * (d' : Int) = (n' : Int) * (d : Int) := by rw [← Int.natCast_mul, ← Int.natCast_mul, h]
  cases s
  · exact h1
  · simp only [sgn_true, Int.neg_mul, h1]
theorem rq_zero_den (s : Bool) (n : Nat) : rq s n 0 = rq s n 1 := rfl
/-- What a number's power of two has too much. -/
theorem dq_shift (s : Bool) (m t : Nat) (e : Int) : dq ⟨s, m, e + t⟩ = dq ⟨s, 2 ^ t * m, e⟩ := by
  unfold dq
  simp only
  by_cases h1 : 0 ≤ e
  · rw [if_pos (by omega), if_pos h1, show (e + (t : Int)).toNat = t + e.toNat from by omega, Nat.pow_add]
    congr 1
    grind
  · rw [if_neg h1]
    by_cases h2 : 0 ≤ e + t
    · rw [if_pos h2, rq_zero_den]
      refine rq_ext (by decide) (Nat.ne_of_gt (Nat.two_pow_pos _)) ?_
      rw [Nat.mul_one, Nat.mul_assoc, ← Nat.pow_add, Nat.mul_comm, show (e + (t : Int)).toNat + (-e).toNat = t from by omega]
    · rw [if_neg h2]
      refine rq_ext (Nat.ne_of_gt (Nat.two_pow_pos _)) (Nat.ne_of_gt (Nat.two_pow_pos _)) ?_
      rw [show (-e).toNat = t + (-(e + (t : Int))).toNat from by omega, Nat.pow_add]
      grind
theorem dq_nrm {s : Bool} {n : Nat} {e : Int} (h : nok n e = true) : dq (nrm s n e) = dq ⟨s, n, e⟩ := by
  by_cases h0 : n = 0
  · subst h0
    rw [nrm_zero]
    unfold dq Dy.zero
    simp only
    have z : ∀ (b : Bool) (d : Nat), rq b 0 d = 0 := by intro b d; unfold rq; cases b <;> simp [sgn]
    split <;> split <;> simp [z]
  · have h1 : nrm s n e = ⟨s, n / 2 ^ tz n, e + tz n⟩ := by unfold nrm; rw [if_neg h0, if_pos h]
    rw [h1, dq_shift, tz_dvd]
theorem dq_exD {r : Rat} (h : exOk r = true) : dq (exD r) = r := by
  unfold exOk at h
  unfold exD
  by_cases hb : bl r.den = tz r.den + 1
  · rw [if_pos hb] at h ⊢
    rw [dq_nrm h]
    have hp := pow_of_bl hb
    have hr : rq (decide (r.num < 0)) r.num.natAbs r.den = r := by
      have := rq_canon r
      unfold rq at this ⊢
      rw [dn_cden] at this
      rw [show dn r.den = r.den from if_neg r.den_nz]
      exact this
    conv => rhs; rw [← hr, hp]
    unfold dq
    simp only
    by_cases hk : tz r.den = 0
    · rw [hk, if_pos (by decide), rq_zero_den]; simp
    · rw [if_neg (by omega), show (-(-(tz r.den : Int))).toNat = tz r.den from by omega]
  · rw [if_neg hb] at h; simp at h
theorem sameQ_refl' (x : Qr) : sameQ x x = true := by simp [sameQ]
theorem few_of {x : Qr} (h : (!fewQ x) = false) : Fit 3 x := few_fit (by simpa using h)
theorem nn {b : Bool} (h : (!b) = false) : b = true := by simpa using h
/-- Down of the negated number is the negated Up. -/
theorem rnd_neg (s : Bool) (a b : Nat) (p : Int) (w : Bool) (hs : (nrm s (rndQ a b (lg a b - p + 1) w) (lg a b - p + 1)).mag ≠ 0) :
    rnd (!s) a b p w = negD (rnd s a b p w) := by
  unfold rnd negD
  have h1 : decide ((0 : Int) < ((limbs (nrm s (rndQ a b (lg a b - p + 1) w) (lg a b - p + 1)).mag).length : Int)) = true := decide_eq_true (by have := limbs_len_pos.2 hs; omega)
  rw [h1]
  revert hs
  unfold nrm
  intro hs
  split
  · rename_i h; rw [if_pos h] at hs; exact absurd rfl hs
  · rename_i h
    rw [if_neg h] at hs
    split
    · simp
    · rename_i h2; rw [if_neg h2] at hs; exact absurd rfl hs
end Rc
