/- Plain lemmas: equality of values, fractions, intervals. -/
import Derived.Test.YtpabkdpijcbkgaaGreatDoorQw
namespace Rc
open Go

/-- Are two values equal in all fields? -/
def sameQ (x y : Qr) : Bool := (x.neg == y.neg) && decide (x.n = y.n) && decide (x.d = y.d)
theorem sameQ_iff {x y : Qr} : sameQ x y = true ↔ x = y := by
  unfold sameQ
  rw [Bool.and_eq_true, Bool.and_eq_true, beq_iff_eq, decide_eq_true_eq, decide_eq_true_eq]
  obtain ⟨a, n, d, h1, h2⟩ := x
  obtain ⟨b, m, e, h3, h4⟩ := y
  simp only [Qr.mk.injEq]
  constructor
  · rintro ⟨⟨h1, h2⟩, h3⟩; exact ⟨h1, h2, h3⟩
  · rintro ⟨h1, h2, h3⟩; exact ⟨⟨h1, h2⟩, h3⟩
theorem sameQ_self (x : Qr) : sameQ x x = true := sameQ_iff.2 rfl
theorem qOf_inj {p q : Rat} (h : qOf p = qOf q) : p = q := by
  have := congrArg Qr.q h
  rwa [qOf_q, qOf_q] at this
theorem sameQ_of {p q : Rat} : sameQ (qOf p) (qOf q) = decide (p = q) := by
  apply Bool.eq_iff_iff.2
  rw [sameQ_iff, decide_eq_true_eq]
  exact ⟨qOf_inj, fun h => by rw [h]⟩
theorem sameQ_isC (x : Qr) : sameQ x (qOf x.q) = isC x := rfl
theorem isC_of (q : Rat) : isC (qOf q) = true := isC_iff.2 (by rw [qOf_q])

theorem qOf_int (z : Int) : V.agg [Leaf.val (.bool (decide (z < 0))), natL (limbs z.natAbs), nilL] = qV (qOf (z : Rat)) := by
  show _ = V.agg [Leaf.val (.bool (decide ((z : Rat).num < 0))), natL (limbs (z : Rat).num.natAbs), natL (limbs (cden (z : Rat)))]
  rw [Rat.num_intCast]
  have : cden (z : Rat) = 0 := by unfold cden; rw [Rat.den_intCast]; rfl
  rw [this, limbs_zero]; rfl
theorem Br.int {z : Int} {k : Nat} (h : z.natAbs < 4294967296 ^ k) : Br (z : Rat) k :=
  ⟨limbs_length_le.2 (by unfold cnum; rw [Rat.num_intCast]; exact h), by show (limbs (cden (z : Rat))).length ≤ k; rw [show cden (z : Rat) = 0 by unfold cden; rw [Rat.den_intCast]; rfl, limbs_zero]; exact Nat.zero_le _⟩
theorem Br.int2 {z : Int} (h1 : -9223372036854775808 ≤ z) (h2 : z ≤ 9223372036854775807) : Br (z : Rat) 2 := Br.int (by have : (4294967296 : Nat) ^ 2 = 18446744073709551616 := rfl; omega)

theorem rq_div (a b : Bool) (m n : Nat) (hn : n ≠ 0) : rq (a != b) m n = ((sgn a m : Int) : Rat) / ((sgn b n : Int) : Rat) := by
  unfold rq
  rw [dn_of hn, Rat.mkRat_eq_div]
  have hn' : ((n : Int) : Rat) ≠ 0 := fun e => hn (by
    have := Rat.intCast_eq_zero_iff.1 e
    omega)
  have hn2 : ((n : Nat) : Rat) = ((n : Int) : Rat) := rfl
  rw [hn2]
  cases a <;> cases b <;> simp [Rat.intCast_neg] <;> grind
theorem sgz_ne {z : Int} (h : z ≠ 0) : sgz z ≠ 0 := by
  have := sgz_cases z; omega

@[reducible] def iV (x y : Qr) : V := V.agg [Leaf.val (.bool x.neg), natL x.n, natL x.d, Leaf.val (.bool y.neg), natL y.n, natL y.d]
/-- The ends of a multiple of an interval. -/
def scl (t a b : Rat) : Rat := if t < 0 then t * b else t * a
def sch (t a b : Rat) : Rat := if t < 0 then t * a else t * b
instance Br.scl {t a b : Rat} {i j k : Nat} [Br t i] [Br a j] [Br b k] : Br (scl t a b) (i + (j + k) + 1) := by
  unfold Rc.scl; split
  · exact (Br.mul (r := t) (s := b)).mono (by omega)
  · exact (Br.mul (r := t) (s := a)).mono (by omega)
instance Br.sch {t a b : Rat} {i j k : Nat} [Br t i] [Br a j] [Br b k] : Br (sch t a b) (i + (j + k) + 1) := by
  unfold Rc.sch; split
  · exact (Br.mul (r := t) (s := a)).mono (by omega)
  · exact (Br.mul (r := t) (s := b)).mono (by omega)
theorem Br.fitq {x : Qr} {r : Rat} {k : Nat} (hr : x.q = r) (h : Fit k x) : Br r k := hr ▸ Br.q h
end Rc
