/- Rounding to some bits: how many digits the quotient has. -/
import Derived.Test.YtpabkdpijcbkgaaGreatDoorDyQ
set_option linter.unusedVariables false
set_option linter.unusedSimpArgs false
namespace Rc
open Go Go.RowKit
theorem scN_np {n : Nat} {e : Int} (h : e ≤ 0) : scN n e = n * 2 ^ (-e).toNat := by
  unfold scN
  split
  · have : e = 0 := by omega
    subst this; simp
  · rfl
theorem scD_np {n : Nat} {e : Int} (h : e ≤ 0) : scD n e = n := by
  unfold scD
  split
  · have : e = 0 := by omega
    subst this; simp
  · rfl
theorem scD_ne {b : Nat} (h : b ≠ 0) (e : Int) : scD b e ≠ 0 := by
  unfold scD; split
  · exact Nat.mul_ne_zero h (Nat.ne_of_gt (Nat.two_pow_pos _))
  · exact h
theorem sc_iff {x a b N : Nat} {e : Int} (h : 0 ≤ e + N) : x * scD b e ≤ scN a e ↔ x * (b * 2 ^ (e + N).toNat) ≤ a * 2 ^ N := by
  by_cases he : 0 ≤ e
  · rw [scN_pos he, scD_pos he, show (e + N).toNat = e.toNat + N from by omega, Nat.pow_add, show x * (b * (2 ^ e.toNat * 2 ^ N)) = x * (b * 2 ^ e.toNat) * 2 ^ N from by simp only [Nat.mul_assoc]]
    exact (Nat.mul_le_mul_right_iff (Nat.two_pow_pos N)).symm
  · rw [scN_neg he, scD_neg he]
    obtain ⟨m, hm⟩ : ∃ m, (e + N).toNat = m := ⟨_, rfl⟩
    rw [hm, show N = (-e).toNat + m from by omega, Nat.pow_add, ← Nat.mul_assoc a, ← Nat.mul_assoc x]
    exact (Nat.mul_le_mul_right_iff (Nat.two_pow_pos m)).symm
theorem lg_eq (a b : Nat) : lg a b = if scN a ((bl a : Int) - bl b) < scD b ((bl a : Int) - bl b) then (bl a : Int) - bl b - 1 else (bl a : Int) - bl b := by
  unfold lg scN scD
  split <;> rfl
theorem lg_spec {a b N : Nat} (ha : a ≠ 0) (hb : b ≠ 0) (hN : bl b + 1 ≤ N) :
    b * 2 ^ (lg a b + N).toNat ≤ a * 2 ^ N ∧ a * 2 ^ N < b * 2 ^ (lg a b + 1 + N).toNat := by
  have h1 := bl_lt a; have h2 := bl_le ha; have h3 := bl_lt b; have h4 := bl_le hb
  have p1 := bl_pos ha; have p2 := bl_pos hb
  obtain ⟨k, hk⟩ : ∃ k : Int, (bl a : Int) - bl b = k := ⟨_, rfl⟩
  have low : b * 2 ^ (k - 1 + N).toNat ≤ a * 2 ^ N := by
    have e1 : 2 ^ bl b * 2 ^ (k - 1 + N).toNat = 2 ^ (bl a - 1) * 2 ^ N := by
      rw [← Nat.pow_add, ← Nat.pow_add, show bl b + (k - 1 + N).toNat = bl a - 1 + N from by omega]
    have e2 := Nat.mul_le_mul_right (2 ^ (k - 1 + N).toNat) (Nat.le_of_lt h3)
    have e3 := Nat.mul_le_mul_right (2 ^ N) h2
    omega
  have high : a * 2 ^ N < b * 2 ^ (k + 1 + N).toNat := by
    have e1 : 2 ^ (bl b - 1) * 2 ^ (k + 1 + N).toNat = 2 ^ bl a * 2 ^ N := by
      rw [← Nat.pow_add, ← Nat.pow_add, show bl b - 1 + (k + 1 + N).toNat = bl a + N from by omega]
    have e2 := Nat.mul_le_mul_right (2 ^ (k + 1 + N).toNat) h4
    have e3 := (Nat.mul_lt_mul_right (Nat.two_pow_pos N)).2 h1
    omega
  have mid := sc_iff (x := 1) (a := a) (b := b) (N := N) (e := k) (by omega)
  rw [Nat.one_mul, Nat.one_mul] at mid
  rw [lg_eq, hk]
  split
  · rename_i h
    refine ⟨low, ?_⟩
    rw [show k - 1 + 1 + (N : Int) = k + N from by omega]
    exact Nat.lt_of_not_le fun hle => absurd (mid.2 hle) (Nat.not_le.2 h)
  · rename_i h
    exact ⟨mid.1 (Nat.le_of_not_lt h), high⟩
theorem bl_quot {a b : Nat} {e : Int} (ha : a ≠ 0) (hb : b ≠ 0) (he : e ≤ lg a b) : (bl (scN a e / scD b e) : Int) = lg a b - e + 1 := by
  obtain ⟨N, hN⟩ : ∃ N, bl b + 1 + e.natAbs = N := ⟨_, rfl⟩
  obtain ⟨s1, s2⟩ := lg_spec (N := N) ha hb (by omega)
  obtain ⟨K, hK⟩ : ∃ K : Nat, (K : Int) = lg a b - e := ⟨(lg a b - e).toNat, by omega⟩
  have hd := Nat.pos_of_ne_zero (scD_ne hb e)
  have : bl (scN a e / scD b e) = K + 1 := by
    apply bl_unique
    · rw [Nat.div_lt_iff_lt_mul hd]
      refine Nat.lt_of_not_le fun hle => ?_
      have := (sc_iff (N := N) (by omega)).1 hle
      rw [Nat.mul_left_comm, ← Nat.pow_add, show K + 1 + (e + N).toNat = (lg a b + 1 + N).toNat from by omega] at this
      omega
    · intro _
      rw [Nat.le_div_iff_mul_le hd, Nat.add_sub_cancel, sc_iff (N := N) (by omega), Nat.mul_left_comm, ← Nat.pow_add, show K + (e + N).toNat = (lg a b + N).toNat from by omega]
      exact s1
  omega
theorem Bn.scN {a i : Nat} {e : Int} (j : Nat) (h : Bn a i) (hj : e.natAbs < 32 * j) : Bn (scN a e) (i + j) := by
  unfold Rc.scN
  split
  · exact ⟨Nat.le_trans h.le (by omega)⟩
  · exact h.shift j (by omega)
theorem Bn.rndQ {a b i : Nat} {e : Int} {up : Bool} (j : Nat) (h : Bn a i) (hj : e.natAbs < 32 * j) : Bn (rndQ a b e up) (i + j + 1) := by
  have h1 := h.scN j hj
  have h2 : Rc.rndQ a b e up ≤ Rc.scN a e + 1 := by
    have := Nat.div_le_self (Rc.scN a e) (scD b e)
    unfold Rc.rndQ; split <;> omega
  exact Bn.mono h2 (Bn.of (Nat.lt_of_lt_of_le (Nat.succ_lt_succ h1.lt) (by rw [Nat.pow_succ]; have := Nat.pow_pos (n := i + j) (show 0 < 4294967296 by decide); omega)))
theorem big_lt {n k i : Nat} (h : Bn n i) (hk : 32 * i ≤ k) : n < 2 ^ k := Nat.lt_of_lt_of_le h.lt (by rw [pow32]; exact Nat.pow_le_pow_right (by decide) hk)
instance Bn.one : Bn 1 1 := ⟨by rw [limbs_one]; exact Nat.le_refl _⟩
theorem sg_num (r : Rat) : sg r = sgz r.num := by
  have h := sg_rq (cneg r) (cnum r) (cden r)
  rw [rq_canon] at h
  rw [h]
  show sgz (sgn (decide (r.num < 0)) r.num.natAbs) = _
  rw [sgn_natAbs]
theorem rnd_dn (r : Rat) (p : Int) : rndD r p (false != decide (r.num < 0)) = rndD r p (decide (sg r < 0)) := by
  rw [sg_num]
  rcases sgz_cases r.num with ⟨h1, h2⟩ | ⟨h1, h2⟩ | ⟨h1, h2⟩
  · rw [h2, decide_eq_true h1]; rfl
  · rw [h2, h1]; rfl
  · rw [h2, decide_eq_false (by omega)]; rfl
theorem rnd_up (r : Rat) (p : Int) : rndD r p (true != decide (r.num < 0)) = rndD r p (decide (0 < sg r)) := by
  rw [sg_num]
  rcases sgz_cases r.num with ⟨h1, h2⟩ | ⟨h1, h2⟩ | ⟨h1, h2⟩
  · rw [h2, decide_eq_true h1]; rfl
  · unfold rndD; rw [if_pos (.inr (.inr h1)), if_pos (.inr (.inr h1))]
  · rw [h2, decide_eq_false (by omega)]; rfl
/-! ## Sums and products -/
def wexp (a b : Dy) : Int := if b.mag = 0 then a.exp else if a.mag = 0 then b.exp else min a.exp b.exp
/-- One of two numbers as an integer times their common power of two. -/
def wint (a : Dy) (w : Int) : Int := sgn a.neg (a.mag * 2 ^ (a.exp - w).toNat)
def eOf (b : Bool) : Int := if b then 0 else 2
theorem nrm_no {s : Bool} {n : Nat} {e : Int} (h : nok n e = false) : nrm s n e = Dy.zero := by
  unfold nrm
  split
  · rfl
  · rw [h]; rfl
def mulD (a b : Dy) : Dy := nrm (a.neg != b.neg) (a.mag * b.mag) (a.exp + b.exp)
def mulOk (a b : Dy) : Bool := nok (a.mag * b.mag) (a.exp + b.exp)
def addZ (a b : Dy) : Int := wint a (wexp a b) + wint b (wexp a b)
def addD (a b : Dy) : Dy := nrm (decide (addZ a b < 0)) (addZ a b).natAbs (wexp a b)
def addOk (a b : Dy) : Bool := nok (addZ a b).natAbs (wexp a b)
def negD (d : Dy) : Dy := ⟨!d.neg && decide ((0 : Int) < ((limbs d.mag).length : Int)), d.mag, d.exp⟩
instance Bd.negD {d : Dy} {k : Nat} [h : Bd d k] : Bd (negD d) k := ⟨⟨h.fit.n, h.fit.lo, h.fit.hi⟩⟩
instance Bd.mulD {a b : Dy} {i j : Nat} [ha : Bd a i] [hb : Bd b j] : Bd (mulD a b) (i + j) := by unfold Rc.mulD; infer_instance
theorem wexp_b {a b : Dy} {i j : Nat} (ha : Bd a i) (hb : Bd b j) : -1048576 ≤ wexp a b ∧ wexp a b ≤ 1048576 := by
  have h1 := ha.fit.lo; have h2 := ha.fit.hi; have h3 := hb.fit.lo; have h4 := hb.fit.hi
  unfold wexp; split
  · omega
  · split <;> omega
theorem Bz.wint {a : Dy} {w : Int} {i : Nat} (j : Nat) (h : Bd a i) (hj : (a.exp - w).natAbs < 32 * j) : Bz (wint a w) (i + j) := by
  haveI hn : Bn a.mag i := ⟨h.fit.n⟩
  haveI : Bn (a.mag * 2 ^ (a.exp - w).toNat) (i + j) := hn.shift j (by omega)
  unfold Rc.wint; infer_instance
instance Bz.addZ {a b : Dy} {i j : Nat} [ha : Bd a i] [hb : Bd b j] : Bz (addZ a b) (i + 65537 + (j + 65537) + 1) := by
  have hw := wexp_b ha hb
  have h1 := ha.fit.lo; have h2 := ha.fit.hi; have h3 := hb.fit.lo; have h4 := hb.fit.hi
  haveI := Bz.wint (a := a) (w := wexp a b) 65537 ha (by omega)
  haveI := Bz.wint (a := b) (w := wexp a b) 65537 hb (by omega)
  unfold Rc.addZ; infer_instance
instance Bd.addD {a b : Dy} {i j : Nat} [ha : Bd a i] [hb : Bd b j] : Bd (addD a b) (i + 65537 + (j + 65537) + 1) := by
  haveI : Bn (Rc.addZ a b).natAbs (i + 65537 + (j + 65537) + 1) := Bz.bn inferInstance
  unfold Rc.addD; infer_instance
instance Bd.rndD {r : Rat} {p : Int} {w : Bool} [h : Br r 100] : Bd (rndD r p w) 5101 := by
  unfold Rc.rndD
  split
  · exact ⟨Bd.zero.fit.mono (Nat.zero_le _)⟩
  · rename_i hc
    have hnl : (limbs (Int.natAbs r.num)).length ≤ 100 := Bz.use (z := r.num) (Nat.le_refl _)
    have hdl : (limbs r.den).length ≤ 101 := Bn.use (n := r.den) (Nat.le_refl _)
    have hlg := lg_bound hnl hdl
    haveI := Bn.rndQ (b := r.den) (e := lg r.num.natAbs r.den - p + 1) (up := w) 5000 ⟨hnl⟩ (by omega)
    unfold rnd; infer_instance
theorem limbs_lt {n : Nat} (h0 : n ≠ 0) (h : n < 4294967296) : limbs n = [n] := by
  rw [limbs_pos h0, Nat.mod_eq_of_lt h, Nat.div_eq_of_lt h, limbs_zero]
def fewQ (x : Qr) : Bool := decide ((x.n.length : Int) ≤ 3) && decide ((x.d.length : Int) ≤ 3)
def smallD (s : Bool) (l : List Nat) (e : Int) : Bool := decide ((l.length : Int) ≤ 3) && (decide (-200 ≤ e) && (decide (e ≤ 200) && isD s l e))
theorem few_fit {x : Qr} (h : fewQ x = true) : Fit 3 x := by
  unfold fewQ at h
  simp only [Bool.and_eq_true, decide_eq_true_eq] at h
  exact ⟨by omega, by omega⟩
/-- A canonical value is a dyadic number. -/
theorem isD_canon {s : Bool} {l : List Nat} {e : Int} (hs : Small l) (h : isD s l e = true) : l = limbs (val l) ∧ -1048576 ≤ e ∧ e ≤ 1048576 ∧ nrm s (val l) e = ⟨s, val l, e⟩ ∧ nok (val l) e = true := by
  unfold isD at h
  by_cases h0 : l.length = 0
  · have : l = [] := List.eq_nil_of_length_eq_zero h0
    subst this
    simp at h
    obtain ⟨h1, h2⟩ := h
    subst h1; subst h2
    exact ⟨by rw [val_nil, limbs_zero], by decide, by decide, rfl, rfl⟩
  · rw [if_neg h0] at h
    simp only [Bool.and_eq_true, decide_eq_true_eq] at h
    obtain ⟨h1, h2, h3, h4⟩ := h
    have hodd : val l % 2 = 1 := by
      cases l with
      | nil => simp at h0
      | cons x xs => simp only [List.getD_cons_zero] at h2; rw [val_cons]; omega
    have h5 := nrm_odd_in (s := s) hodd h3 h4
    exact ⟨Canon.eq ⟨hs, h1⟩, h3, h4, h5.1, h5.2⟩
end Rc
