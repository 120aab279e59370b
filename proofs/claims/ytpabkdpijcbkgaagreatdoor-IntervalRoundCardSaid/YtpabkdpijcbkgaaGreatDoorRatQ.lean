namespace Rc

/-- A denominator: 0 counts as 1. -/
def dn (d : Nat) : Nat := if d = 0 then 1 else d
theorem dn_pos (d : Nat) : 0 < dn d := by unfold dn; split <;> omega
theorem dn_ne (d : Nat) : dn d ≠ 0 := Nat.ne_of_gt (dn_pos d)
theorem dn_of {d : Nat} (h : d ≠ 0) : dn d = d := by simp [dn, h]
@[simp] theorem dn_zero : dn 0 = 1 := rfl

/-- An integer of a sign and a magnitude. -/
def sgn (neg : Bool) (n : Nat) : Int := if neg then -(n : Int) else n
@[simp] theorem sgn_true (n : Nat) : sgn true n = -(n : Int) := rfl
@[simp] theorem sgn_false (n : Nat) : sgn false n = n := rfl
@[simp] theorem natAbs_sgn (neg : Bool) (n : Nat) : (sgn neg n).natAbs = n := by cases neg <;> simp
theorem sgn_mul (a b : Bool) (m n : Nat) : sgn (a != b) (m * n) = sgn a m * sgn b n := by
  cases a <;> cases b <;> simp [Int.neg_mul, Int.mul_neg]
theorem sgn_not (a : Bool) (m : Nat) : sgn (!a) m = - sgn a m := by cases a <;> simp
theorem sgn_natAbs (x : Int) : sgn (decide (x < 0)) x.natAbs = x := by
  unfold sgn
  by_cases h : x < 0
  · simp only [h, decide_true, if_true]; omega
  · simp only [h, decide_false]; simp; omega

/-- The rational number of a sign and two magnitudes. -/
def rq (neg : Bool) (n d : Nat) : Rat := mkRat (sgn neg n) (dn d)

/-- The canonical form of a rational number. -/
def cneg (q : Rat) : Bool := decide (q.num < 0)
def cnum (q : Rat) : Nat := q.num.natAbs
def cden (q : Rat) : Nat := if q.den = 1 then 0 else q.den

theorem dn_cden (q : Rat) : dn (cden q) = q.den := by
  have := q.den_pos
  unfold cden
  by_cases h : q.den = 1
  · rw [if_pos h, h]; rfl
  · rw [if_neg h]; exact dn_of (by omega)
theorem rq_canon (q : Rat) : rq (cneg q) (cnum q) (cden q) = q := by
  unfold rq cneg cnum
  rw [dn_cden, sgn_natAbs, Rat.mkRat_self]

theorem rq_zero (neg : Bool) (d : Nat) : rq neg 0 d = 0 := by unfold rq; cases neg <;> simp
theorem rq_eq_zero {neg : Bool} {n d : Nat} : rq neg n d = 0 ↔ n = 0 := by
  unfold rq; rw [Rat.mkRat_eq_zero (dn_ne d)]; cases neg <;> simp
@[simp] theorem cneg_zero : cneg 0 = false := rfl
@[simp] theorem cnum_zero : cnum 0 = 0 := rfl
@[simp] theorem cden_zero : cden 0 = 0 := rfl
theorem cnum_eq_zero {q : Rat} : cnum q = 0 ↔ q = 0 := by unfold cnum; rw [Int.natAbs_eq_zero, Rat.num_eq_zero]
theorem cneg_of_zero {q : Rat} (h : cnum q = 0) : cneg q = false := by rw [cnum_eq_zero.1 h]; rfl

theorem rq_dn (neg : Bool) (n d : Nat) : rq neg n (dn d) = rq neg n d := by unfold rq; rw [dn_of (dn_ne d)]
theorem rq_one (neg : Bool) (n : Nat) : rq neg n 1 = rq neg n 0 := rfl

theorem den_rq (neg : Bool) (n d : Nat) : (rq neg n d).den = dn d / Nat.gcd n (dn d) := by
  unfold rq; rw [Rat.den_mkRat, if_neg (dn_ne d), natAbs_sgn, Nat.gcd_comm]
theorem num_rq (neg : Bool) (n d : Nat) : (rq neg n d).num = sgn neg (n / Nat.gcd n (dn d)) := by
  unfold rq; rw [Rat.num_mkRat, if_neg (dn_ne d), natAbs_sgn, Nat.gcd_comm (dn d) n]
  obtain ⟨k, hk⟩ := Nat.gcd_dvd_left n (dn d)
  have hg0 : 0 < Nat.gcd n (dn d) := Nat.gcd_pos_of_pos_right _ (dn_pos d)
  generalize Nat.gcd n (dn d) = g at *
  subst hk
  rw [Nat.mul_div_cancel_left _ hg0]
  cases neg
  · simp only [sgn_false]
    rw [Int.natCast_mul, Int.mul_ediv_cancel_left _ (by omega)]
  · simp only [sgn_true]
    rw [Int.natCast_mul, ← Int.mul_neg, Int.mul_ediv_cancel_left _ (by omega)]
theorem cnum_rq (neg : Bool) (n d : Nat) : cnum (rq neg n d) = n / Nat.gcd n (dn d) := by
  unfold cnum; rw [num_rq, natAbs_sgn]
theorem cneg_rq (neg : Bool) (n d : Nat) : cneg (rq neg n d) = (neg && decide (n ≠ 0)) := by
  unfold cneg; rw [num_rq]
  have hp : n ≠ 0 → 0 < n / Nat.gcd n (dn d) := fun h => Nat.div_pos (Nat.le_of_dvd (by omega) (Nat.gcd_dvd_left _ _)) (Nat.gcd_pos_of_pos_left _ (by omega))
  have h0 : n = 0 → n / Nat.gcd n (dn d) = 0 := fun h => by rw [h, Nat.zero_div]
  generalize n / Nat.gcd n (dn d) = k at *
  cases neg
  · rw [Bool.false_and]; exact decide_eq_false (by rw [sgn_false]; omega)
  · rw [Bool.true_and]
    by_cases h : n = 0
    · rw [h0 h]; rw [decide_eq_false (by simp [h] : ¬ n ≠ 0)]; rfl
    · have := hp h
      rw [decide_eq_true (h : n ≠ 0)]; exact decide_eq_true (by rw [sgn_true]; omega)

theorem rq_add (a b : Bool) (m n d e : Nat) (s : Int) (hs : s = sgn a (m * dn e) + sgn b (n * dn d)) :
    rq (decide (s < 0)) s.natAbs (dn d * dn e) = rq a m d + rq b n e := by
  have h1 : rq (decide (s < 0)) s.natAbs (dn d * dn e) = mkRat s (dn d * dn e) := by
    unfold rq
    rw [sgn_natAbs, dn_of (Nat.ne_of_gt (Nat.mul_pos (dn_pos d) (dn_pos e)))]
  rw [h1, hs]
  unfold rq
  rw [Rat.mkRat_add_mkRat _ _ (dn_ne d) (dn_ne e)]
  congr 1
  cases a <;> cases b <;> simp <;> grind
theorem rq_mul (a b : Bool) (m n d e : Nat) : rq (a != b) (m * n) (dn d * dn e) = rq a m d * rq b n e := by
  unfold rq
  rw [Rat.mkRat_mul_mkRat, sgn_mul, dn_of (Nat.ne_of_gt (Nat.mul_pos (dn_pos d) (dn_pos e)))]
theorem rq_neg (a : Bool) (m d : Nat) : rq (!a) m d = - rq a m d := by
  unfold rq; rw [sgn_not, Rat.neg_mkRat]

theorem mkRat_lt {a b : Int} {d e : Nat} (hd : 0 < d) (he : 0 < e) : mkRat a d < mkRat b e ↔ a * e < b * d := by
  rw [Rat.mkRat_eq_div, Rat.mkRat_eq_div]
  have hd' : (0 : Rat) < ((d : Int) : Rat) := by
    rw [show (0 : Rat) = ((0 : Int) : Rat) from rfl]; exact Rat.intCast_lt_intCast.2 (by omega)
  have he' : (0 : Rat) < ((e : Int) : Rat) := by
    rw [show (0 : Rat) = ((0 : Int) : Rat) from rfl]; exact Rat.intCast_lt_intCast.2 (by omega)
  have e1 : ((a : Rat) / (d : Nat)) = (a : Rat) / ((d : Int) : Rat) := rfl
  have e2 : ((b : Rat) / (e : Nat)) = (b : Rat) / ((e : Int) : Rat) := rfl
  rw [e1, e2, Rat.div_lt_iff hd']
  rw [show (b : Rat) / ((e : Int) : Rat) * ((d : Int) : Rat) = ((b : Rat) * ((d : Int) : Rat)) / ((e : Int) : Rat) by grind, Rat.lt_div_iff he',
    ← Rat.intCast_mul, ← Rat.intCast_mul, Rat.intCast_lt_intCast]
theorem rq_lt (a b : Bool) (m n d e : Nat) : rq a m d < rq b n e ↔ sgn a m * dn e < sgn b n * dn d := by
  unfold rq; exact mkRat_lt (dn_pos d) (dn_pos e)
theorem rq_eq (a b : Bool) (m n d e : Nat) : rq a m d = rq b n e ↔ sgn a m * dn e = sgn b n * dn d := by
  unfold rq; exact Rat.mkRat_eq_iff (dn_ne d) (dn_ne e)

/-- Two numbers with the same canonical parts are equal. -/
theorem canon_ext {p q : Rat} (h1 : cneg p = cneg q) (h2 : cnum p = cnum q) (h3 : cden p = cden q) : p = q := by
  rw [← rq_canon p, ← rq_canon q, h1, h2, h3]

/-- The sign: -1, 0 or 1. -/
def sg (q : Rat) : Int := if q < 0 then -1 else if q = 0 then 0 else 1
/-- The comparison: -1, 0 or 1. -/
def cmpq (p q : Rat) : Int := if p < q then -1 else if p = q then 0 else 1
theorem cmpq_sub (p q : Rat) : cmpq p q = sg (p - q) := by
  unfold cmpq sg
  have h1 : p < q ↔ p - q < 0 := by grind
  have h2 : p = q ↔ p - q = 0 := by grind
  simp only [h1, h2]
end Rc
