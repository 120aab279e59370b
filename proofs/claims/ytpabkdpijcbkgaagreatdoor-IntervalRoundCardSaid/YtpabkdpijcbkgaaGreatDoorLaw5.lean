/- The plain law of the statements on dyadic numbers. -/
import Derived.Test.YtpabkdpijcbkgaaGreatDoorDyR
set_option linter.unusedVariables false
set_option linter.unusedSimpArgs false
namespace Rc
open Go Go.RowKit
theorem isD_zero : isD Dy.zero.neg (limbs Dy.zero.mag) Dy.zero.exp = true := by
  show isD false (limbs 0) 0 = true
  rw [limbs_zero]; rfl
theorem isD_nrm (s : Bool) (n : Nat) (e : Int) : isD (nrm s n e).neg (limbs (nrm s n e).mag) (nrm s n e).exp = true := by
  have hx := nrm_exp s n e
  by_cases h0 : n = 0
  · subst h0; exact isD_zero
  · cases hk : nok n e with
    | false => rw [nrm_no hk]; exact isD_zero
    | true =>
      have h1 : nrm s n e = ⟨s, n / 2 ^ tz n, e + tz n⟩ := by unfold nrm; rw [if_neg h0, if_pos hk]
      rw [h1] at hx ⊢
      simp only at hx ⊢
      have h2 := tz_div_odd h0
      generalize n / 2 ^ tz n = m at *
      have hm : m ≠ 0 := by intro e; subst e; simp at h2
      have h3 := limbs_len_pos.2 hm
      unfold isD
      rw [if_neg (by omega), decide_eq_true (canon_limbs m).2]
      have h4 : (limbs m).getD 0 0 = m % 4294967296 := by rw [limbs_pos hm]; rfl
      rw [h4]
      simp [hx.1, hx.2]
      omega
theorem isD_exD (r : Rat) : isD (exD r).neg (limbs (exD r).mag) (exD r).exp = true := by
  unfold exD; split
  · exact isD_nrm _ _ _
  · exact isD_zero
theorem rq_ext {s : Bool} {n d n' d' : Nat} (hd : d ≠ 0) (hd' : d' ≠ 0) (h : n * d' = n' * d) : rq s n d = rq s n' d' := by
  unfold rq dn
  rw [if_neg hd, if_neg hd', Rat.mkRat_eq_iff hd hd']
  have h1 : (n : Int) * (d' : Int) = (n' : Int) * (d : Int) := by rw [← Int.natCast_mul, ← Int.natCast_mul, h]
  cases s
  · exact h1
  · simp only [sgn_true, Int.neg_mul, h1]
theorem rq_zero_den (s : Bool) (n : Nat) : rq s n 0 = rq s n 1 := rfl
/-- What a number's power of two has too much. -/
theorem dq_shift (s : Bool) (m t : Nat) (e : Int) : dq ⟨s, m, e + t⟩ = dq ⟨s, 2 ^ t * m, e⟩ := by
  unfold dq
  simp only
  by_cases h1 : 0 ≤ e
  · rw [if_pos (by omega), if_pos h1, show (e + (t : Int)).toNat = t + e.toNat from by omega, Nat.pow_add]
    congr 1
    grind
  · rw [if_neg h1]
    by_cases h2 : 0 ≤ e + t
    · rw [if_pos h2, rq_zero_den]
      refine rq_ext (by decide) (Nat.ne_of_gt (Nat.two_pow_pos _)) ?_
      rw [Nat.mul_one, Nat.mul_assoc, ← Nat.pow_add, Nat.mul_comm, show (e + (t : Int)).toNat + (-e).toNat = t from by omega]
    · rw [if_neg h2]
      refine rq_ext (Nat.ne_of_gt (Nat.two_pow_pos _)) (Nat.ne_of_gt (Nat.two_pow_pos _)) ?_
      rw [show (-e).toNat = t + (-(e + (t : Int))).toNat from by omega, Nat.pow_add]
      grind
theorem dq_nrm {s : Bool} {n : Nat} {e : Int} (h : nok n e = true) : dq (nrm s n e) = dq ⟨s, n, e⟩ := by
  by_cases h0 : n = 0
  · subst h0
    rw [nrm_zero]
    unfold dq Dy.zero
    simp only
    have z : ∀ (b : Bool) (d : Nat), rq b 0 d = 0 := by intro b d; unfold rq; cases b <;> simp [sgn]
    split <;> split <;> simp [z]
  · have h1 : nrm s n e = ⟨s, n / 2 ^ tz n, e + tz n⟩ := by unfold nrm; rw [if_neg h0, if_pos h]
    rw [h1, dq_shift, tz_dvd]
theorem dq_exD {r : Rat} (h : exOk r = true) : dq (exD r) = r := by
  unfold exOk at h
  unfold exD
  by_cases hb : bl r.den = tz r.den + 1
  · rw [if_pos hb] at h ⊢
    rw [dq_nrm h]
    have hp := pow_of_bl hb
    have hr : rq (decide (r.num < 0)) r.num.natAbs r.den = r := by
      have := rq_canon r
      unfold rq at this ⊢
      rw [dn_cden] at this
      rw [show dn r.den = r.den from if_neg r.den_nz]
      exact this
    conv => rhs; rw [← hr, hp]
    unfold dq
    simp only
    by_cases hk : tz r.den = 0
    · rw [hk, if_pos (by decide), rq_zero_den]; simp
    · rw [if_neg (by omega), show (-(-(tz r.den : Int))).toNat = tz r.den from by omega]
  · rw [if_neg hb] at h; simp at h
theorem sameQ_refl' (x : Qr) : sameQ x x = true := by simp [sameQ]
theorem few_of {x : Qr} (h : (!fewQ x) = false) : Fit 3 x := few_fit (by simpa using h)
theorem nn {b : Bool} (h : (!b) = false) : b = true := by simpa using h
theorem negD_zero : negD Dy.zero = Dy.zero := by
  show Dy.mk (!false && decide ((0 : Int) < ((limbs 0).length : Int))) 0 0 = _
  rw [limbs_zero]; rfl
theorem nrm_neg (s : Bool) (n : Nat) (e : Int) : nrm (!s) n e = negD (nrm s n e) := by
  by_cases h0 : n = 0
  · subst h0; exact negD_zero.symm
  · cases hk : nok n e with
    | false => rw [nrm_no hk, nrm_no hk, negD_zero]
    | true =>
      have h1 : ∀ s, nrm s n e = ⟨s, n / 2 ^ tz n, e + tz n⟩ := fun s => by unfold nrm; rw [if_neg h0, if_pos hk]
      rw [h1, h1]
      have h2 := tz_div_odd h0
      generalize n / 2 ^ tz n = m at *
      have h3 := limbs_len_pos.2 (show m ≠ 0 by intro e; subst e; simp at h2)
      unfold negD
      simp only
      rw [decide_eq_true (by omega), Bool.and_true]
/-- Down of the negated number is the negated Up. -/
theorem rndD_neg (r : Rat) (p : Int) : rndD (-r) p (decide (sg (-r) < 0)) = negD (rndD r p (decide (0 < sg r))) := by
  rw [sg_num, sg_num, Rat.neg_num]
  unfold rndD
  by_cases h : p < 1 ∨ 4096 < p ∨ r.num = 0
  · rw [if_pos h, if_pos (by rw [Rat.neg_num]; omega), negD_zero]
  · rw [if_neg h, if_neg (by rw [Rat.neg_num]; omega), Rat.neg_num, Rat.neg_den, Int.natAbs_neg]
    have h1 : decide (-r.num < 0) = !decide (r.num < 0) := by
      by_cases h2 : r.num < 0
      · rw [decide_eq_true h2, decide_eq_false (by omega)]; rfl
      · rw [decide_eq_false (by omega : ¬ r.num < 0), decide_eq_true (by omega)]; rfl
    have h2 : decide (sgz (-r.num) < 0) = decide (0 < sgz r.num) := by
      rcases sgz_cases r.num with ⟨a, b⟩ | ⟨a, b⟩ | ⟨a, b⟩ <;> rcases sgz_cases (-r.num) with ⟨c, d⟩ | ⟨c, d⟩ | ⟨c, d⟩ <;> rw [b, d] <;> first | rfl | omega
    rw [h1, h2]
    unfold rnd
    exact nrm_neg _ _ _
theorem smallD_isD {s : Bool} {l : List Nat} {e : Int} (h : smallD s l e = true) : isD s l e = true := by
  unfold smallD at h
  simp only [Bool.and_eq_true] at h
  exact h.2.2.2
theorem sgn_neg_iff (s : Bool) {n : Nat} (h : n ≠ 0) : decide (sgn s n < 0) = s := by
  cases s
  · rw [sgn_false]; exact decide_eq_false (by omega)
  · rw [sgn_true]; exact decide_eq_true (by omega)
theorem nrm_odd_of {s : Bool} {m : Nat} {e : Int} (hx : nrm s m e = ⟨s, m, e⟩) (h0 : m ≠ 0) : m % 2 = 1 ∧ -1048576 ≤ e ∧ e ≤ 1048576 := by
  have hb := nrm_exp s m e
  rw [hx] at hb
  cases hk : nok m e with
  | false => rw [nrm_no hk] at hx; exact absurd (congrArg Dy.mag hx).symm h0
  | true =>
    have h1 : nrm s m e = ⟨s, m / 2 ^ tz m, e + tz m⟩ := by unfold nrm; rw [if_neg h0, if_pos hk]
    rw [h1] at hx
    have h2 := congrArg Dy.mag hx
    simp only at h2
    have h3 := tz_div_odd h0
    rw [h2] at h3
    exact ⟨h3, hb⟩
/-- The numerator and denominator of a dyadic number with an odd magnitude. -/
theorem dq_num_den (s : Bool) (m : Nat) (e : Int) (hodd : m % 2 = 1) :
    (dq ⟨s, m, e⟩).num = (if 0 ≤ e then sgn s (m * 2 ^ e.toNat) else sgn s m) ∧ (dq ⟨s, m, e⟩).den = if 0 ≤ e then 1 else 2 ^ (-e).toNat := by
  unfold dq
  simp only
  by_cases he : 0 ≤ e
  · rw [if_pos he, if_pos he, if_pos he]
    unfold rq
    rw [show dn 0 = 1 from rfl, Rat.mkRat_one]
    exact ⟨rfl, rfl⟩
  · rw [if_neg he, if_neg he, if_neg he]
    have hne : (2 : Nat) ^ (-e).toNat ≠ 0 := Nat.ne_of_gt (Nat.two_pow_pos _)
    have hcop : Nat.Coprime (sgn s m).natAbs (2 ^ (-e).toNat) := by
      rw [natAbs_sgn]
      exact Nat.Coprime.pow_right _ (by rw [Nat.coprime_comm, Nat.Coprime, Nat.gcd_rec, hodd]; rfl)
    unfold rq
    rw [show dn (2 ^ (-e).toNat) = 2 ^ (-e).toNat from if_neg hne, ← Rat.mk_eq_mkRat (sgn s m) (2 ^ (-e).toNat) hne hcop]
    exact ⟨rfl, rfl⟩
/-- What smallness says of a dyadic number: canonical, in range, few limbs. -/
theorem smallD_facts {d : Dy} (h : smallD d.neg (limbs d.mag) d.exp = true) :
    nrm d.neg d.mag d.exp = d ∧ nok d.mag d.exp = true ∧ (limbs d.mag).length ≤ 3 ∧ -200 ≤ d.exp ∧ d.exp ≤ 200 := by
  have h1 := isD_canon (small_limbs d.mag) (smallD_isD h)
  rw [val_limbs] at h1
  unfold smallD at h
  simp only [Bool.and_eq_true, decide_eq_true_eq] at h
  exact ⟨h1.2.2.2.1, h1.2.2.2.2, by omega, h.2.1, h.2.2.1⟩
/-- The rational number of a canonical dyadic number is exactly that number again. -/
theorem ex_dq {d : Dy} (hx : nrm d.neg d.mag d.exp = d) (hok : nok d.mag d.exp = true) : exD (dq d) = d ∧ exOk (dq d) = true := by
  obtain ⟨s, m, e⟩ := d
  simp only at hx hok
  by_cases h0 : m = 0
  · subst h0
    rw [nrm_zero] at hx
    rw [← hx]
    have hz : dq Dy.zero = 0 := by
      unfold dq Dy.zero
      simp only
      rw [if_pos (by decide)]
      simp [rq_zero]
    rw [hz]
    have h1 : tz 1 = 0 := tz_odd rfl
    have hd : (0 : Rat).den = 1 := rfl
    have hn : (0 : Rat).num = 0 := rfl
    unfold exD exOk
    rw [hd, hn, h1, if_pos (by decide), if_pos (by decide)]
    exact ⟨rfl, rfl⟩
  · have hr := nrm_odd_of hx h0
    obtain ⟨hodd, hlo, hhi⟩ := hr
    have hval := dq_num_den s m e hodd
    obtain ⟨hn, hd⟩ := hval
    by_cases he : 0 ≤ e
    · rw [if_pos he] at hn
      rw [if_pos he] at hd
      have h1 : tz 1 = 0 := tz_odd rfl
      have hnat : (dq ⟨s, m, e⟩).num.natAbs = 2 ^ e.toNat * m := by rw [hn, natAbs_sgn, Nat.mul_comm]
      have hmp : 2 ^ e.toNat * m ≠ 0 := Nat.mul_ne_zero (Nat.ne_of_gt (Nat.two_pow_pos _)) h0
      have hneg : decide ((dq ⟨s, m, e⟩).num < 0) = s := by rw [hn]; exact sgn_neg_iff s (by rw [Nat.mul_comm]; exact hmp)
      have ht : tz (2 ^ e.toNat * m) = e.toNat := tz_of rfl hodd
      have hin := nrm_in (s := s) hmp (e := -((0 : Nat) : Int)) (by rw [ht]; omega) (by rw [ht]; omega)
      have hik := nok_in hmp (e := -((0 : Nat) : Int)) (by rw [ht]; omega) (by rw [ht]; omega)
      unfold exD exOk
      rw [hd, h1, if_pos (by decide), if_pos (by decide), hneg, hnat, hin, hik, ht, Nat.mul_div_cancel_left _ (Nat.two_pow_pos _)]
      refine ⟨?_, rfl⟩
      congr 1
      omega
    · rw [if_neg he] at hn
      rw [if_neg he] at hd
      obtain ⟨k, hk⟩ : ∃ k, (-e).toNat = k := ⟨_, rfl⟩
      rw [hk] at hd
      have hnat : (dq ⟨s, m, e⟩).num.natAbs = m := by rw [hn, natAbs_sgn]
      have hneg : decide ((dq ⟨s, m, e⟩).num < 0) = s := by rw [hn]; exact sgn_neg_iff s h0
      have hin := nrm_odd_in (s := s) hodd (e := -((k : Nat) : Int)) (by omega) (by omega)
      unfold exD exOk
      rw [hd, bl_pow, tz_pow, if_pos rfl, if_pos rfl, hneg, hnat, hin.1, hin.2]
      refine ⟨?_, rfl⟩
      congr 1
      omega
/-- A power of two. -/
def zp (e : Int) : Rat := dq ⟨false, 1, e⟩
theorem dq_scale (s : Bool) (m : Nat) (e : Int) : dq ⟨s, m, e⟩ = rq s m 0 * zp e := by
  unfold zp dq
  simp only
  have h := rq_mul s false m (1 * 2 ^ e.toNat) 0 0
  have h2 := rq_mul s false m 1 0 (2 ^ (-e).toNat)
  by_cases he : 0 ≤ e
  · rw [if_pos he, if_pos he, ← h]; simp [dn]; rfl
  · rw [if_neg he, if_neg he, ← h2]; simp [dn]
theorem rq_int (s : Bool) (n : Nat) : rq s n 0 = ((sgn s n : Int) : Rat) := by
  unfold rq
  rw [show dn 0 = 1 from rfl, Rat.mkRat_one]
theorem zp_zero : zp 0 = 1 := by
  unfold zp dq; simp only; rw [if_pos (by decide), rq_int]; rfl
theorem zp_shift (e : Int) (t : Nat) : zp (e + t) = rq false (2 ^ t) 0 * zp e := by
  unfold zp
  rw [dq_shift, dq_scale, Nat.mul_one]; rfl
theorem zp_nat (t : Nat) : zp t = rq false (2 ^ t) 0 := by
  have h := zp_shift 0 t
  rwa [Int.zero_add, zp_zero, Rat.mul_one] at h
theorem zp_addn (e : Int) (t : Nat) : zp (e + t) = zp t * zp e := by rw [zp_shift, zp_nat]
theorem zp_inv (t : Nat) : zp (-(t : Int)) * zp t = 1 := by
  have h := zp_addn (-(t : Int)) t
  rw [show -(t : Int) + (t : Int) = 0 from by omega, zp_zero, Rat.mul_comm] at h
  exact h.symm
theorem zp_add (a b : Int) : zp (a + b) = zp a * zp b := by
  rcases Int.eq_nat_or_neg b with ⟨t, rfl | rfl⟩
  · rw [zp_addn, Rat.mul_comm]
  · have h := zp_addn (a + -(t : Int)) t
    rw [show a + -(t : Int) + (t : Int) = a from by omega] at h
    rw [h, Rat.mul_comm (zp t), Rat.mul_assoc, Rat.mul_comm (zp t), zp_inv, Rat.mul_one]
theorem dq_mulD {a b : Dy} (h : mulOk a b = true) : dq (mulD a b) = dq a * dq b := by
  unfold mulD
  rw [dq_nrm h, dq_scale, show dq a = rq a.neg a.mag 0 * zp a.exp from dq_scale _ _ _, show dq b = rq b.neg b.mag 0 * zp b.exp from dq_scale _ _ _, zp_add]
  have := rq_mul a.neg b.neg a.mag b.mag 0 0
  rw [show dn 0 * dn 0 = 1 from rfl, ← rq_zero_den] at this
  rw [this]
  grind
theorem dq_wint {a : Dy} {w : Int} (h : a.mag = 0 ∨ w ≤ a.exp) : ((wint a w : Int) : Rat) * zp w = dq a := by
  rw [show dq a = rq a.neg a.mag 0 * zp a.exp from dq_scale _ _ _]
  unfold wint
  rcases h with h | h
  · rw [h, Nat.zero_mul, ← rq_int, rq_zero, Rat.zero_mul, Rat.zero_mul]
  · obtain ⟨t, ht⟩ : ∃ t : Nat, (a.exp - w) = t := ⟨(a.exp - w).toNat, by omega⟩
    rw [ht, show a.exp = w + t from by omega, zp_addn, zp_nat, ← rq_int]
    have := rq_mul a.neg false a.mag (2 ^ t) 0 0
    rw [show dn 0 * dn 0 = 1 from rfl, ← rq_zero_den, Bool.bne_false] at this
    rw [show ((t : Int)).toNat = t from rfl, this]
    grind
theorem wexp_le (a b : Dy) : (a.mag = 0 ∨ wexp a b ≤ a.exp) ∧ (b.mag = 0 ∨ wexp a b ≤ b.exp) := by
  unfold wexp
  by_cases h1 : b.mag = 0
  · rw [if_pos h1]; exact ⟨.inr (Int.le_refl _), .inl h1⟩
  · rw [if_neg h1]
    by_cases h2 : a.mag = 0
    · rw [if_pos h2]; exact ⟨.inl h2, .inr (Int.le_refl _)⟩
    · rw [if_neg h2]; exact ⟨.inr (by omega), .inr (by omega)⟩
theorem dq_addD {a b : Dy} (h : addOk a b = true) : dq (addD a b) = dq a + dq b := by
  unfold addD
  rw [dq_nrm h, dq_scale, rq_int, sgn_natAbs]
  unfold addZ
  rw [Rat.intCast_add, Rat.add_mul, dq_wint (wexp_le a b).1, dq_wint (wexp_le a b).2]
theorem rq_pos' {n d : Nat} (h : n ≠ 0) : 0 < rq false n d := by
  have h1 : rq false n d ≠ 0 := fun e => h (rq_eq_zero.1 e)
  have h2 : ¬ rq false n d < 0 := fun e => by
    have := (rq_neg_iff false n d).1 e
    rw [sgn_false] at this; omega
  exact Rat.lt_of_le_of_ne (Rat.not_lt.1 h2) (fun e => h1 e.symm)
theorem cmp_scale {A B : Int} {z : Rat} (hz : 0 < z) : cmpq ((A : Rat) * z) ((B : Rat) * z) = cmpz A B := by
  unfold cmpq cmpz
  have h1 : (A : Rat) * z < (B : Rat) * z ↔ A < B := (Rat.mul_lt_mul_right hz).trans Rat.intCast_lt_intCast
  have h2 : (A : Rat) * z = (B : Rat) * z ↔ A = B := by
    refine ⟨fun e => ?_, fun e => by rw [e]⟩
    have h3 : ¬ A < B := fun h => by have := h1.2 h; rw [e] at this; exact absurd this (Rat.lt_irrefl)
    have h4 : ¬ B < A := fun h => by
      have := ((Rat.mul_lt_mul_right hz).trans Rat.intCast_lt_intCast : (B : Rat) * z < (A : Rat) * z ↔ B < A).2 h
      rw [e] at this; exact absurd this (Rat.lt_irrefl)
    omega
  by_cases h : A < B
  · rw [if_pos h, if_pos (h1.2 h)]
  · rw [if_neg h, if_neg (fun e => h (h1.1 e))]
    by_cases h' : A = B
    · rw [if_pos h', if_pos (h2.2 h')]
    · rw [if_neg h', if_neg (fun e => h' (h2.1 e))]
theorem zp_pos (e : Int) : 0 < zp e := by
  unfold zp dq
  simp only
  split
  · exact rq_pos' (Nat.ne_of_gt (Nat.mul_pos (by decide) (Nat.two_pow_pos _)))
  · exact rq_pos' (by decide)
theorem cmp_dq (a b : Dy) : cmpz (wint a (wexp a b)) (wint b (wexp a b)) = cmpq (dq a) (dq b) := by
  rw [← dq_wint (wexp_le a b).1, ← dq_wint (wexp_le a b).2, cmp_scale (zp_pos _)]
theorem nok_few {n k : Nat} {e : Int} (h : (limbs n).length ≤ k) (h1 : -1048576 ≤ e) (h2 : e + 32 * k ≤ 1048576) : nok n e = true := by
  by_cases h0 : n = 0
  · subst h0; rfl
  · have := tz_le_len h
    exact nok_in h0 (by omega) (by omega)
theorem mul_small {a b : Dy} (ha : (limbs a.mag).length ≤ 3) (hb : (limbs b.mag).length ≤ 3) (h1 : -200 ≤ a.exp) (h2 : a.exp ≤ 200) (h3 : -200 ≤ b.exp) (h4 : b.exp ≤ 200) : mulOk a b = true ∧ addOk a b = true := by
  haveI ia : Bd a 3 := ⟨⟨ha, by omega, by omega⟩⟩
  haveI ib : Bd b 3 := ⟨⟨hb, by omega, by omega⟩⟩
  have hw : -200 ≤ wexp a b ∧ wexp a b ≤ 200 := by
    unfold wexp; split
    · omega
    · split <;> omega
  refine ⟨nok_few (k := 6) (Bn.use (n := a.mag * b.mag) (by decide)) (by omega) (by omega), ?_⟩
  haveI := Bz.wint (a := a) (w := wexp a b) 13 ia (by omega)
  haveI := Bz.wint (a := b) (w := wexp a b) 13 ib (by omega)
  have hz : (limbs (wint a (wexp a b) + wint b (wexp a b)).natAbs).length ≤ 33 := Bz.use (by decide)
  exact nok_few (k := 33) hz (by omega) (by omega)
end Rc
