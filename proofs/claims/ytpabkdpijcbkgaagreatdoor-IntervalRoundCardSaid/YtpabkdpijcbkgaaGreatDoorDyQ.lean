/- Dyadic numbers as struct values and as rational numbers. -/
import Derived.Test.YtpabkdpijcbkgaaGreatDoorQi
import Derived.Test.YtpabkdpijcbkgaaGreatDoorDyM
set_option linter.unusedVariables false
set_option linter.unusedSimpArgs false
namespace Rc
open Go Go.RowKit
@[reducible] def dV (d : Dy) : V := V.agg [Leaf.val (.bool d.neg), natL (limbs d.mag), Leaf.val (.int .i64 d.exp)]
theorem dV_zero : dV Dy.zero = V.agg [Leaf.val (.bool false), nilL, Leaf.val (.int .i64 0)] := by
  show V.agg [Leaf.val (.bool false), natL (limbs 0), Leaf.val (.int .i64 0)] = _
  rw [limbs_zero]; rfl
structure Dfit (k : Nat) (d : Dy) : Prop where
  n : (limbs d.mag).length ≤ k
  lo : -1048576 ≤ d.exp
  hi : d.exp ≤ 1048576
class Bd (d : Dy) (k : outParam Nat) : Prop where
  fit : Dfit k d
theorem Dfit.mono {d : Dy} {k k' : Nat} (h : Dfit k d) (hk : k ≤ k') : Dfit k' d := ⟨Nat.le_trans h.n hk, h.lo, h.hi⟩
theorem Bd.use {d : Dy} {k k' : Nat} [h : Bd d k] (hk : k ≤ k') : Dfit k' d := h.fit.mono hk
instance Bn.dmag {d : Dy} {k : Nat} [h : Bd d k] : Bn d.mag k := ⟨h.fit.n⟩
instance Bd.nrm {s : Bool} {n : Nat} {e : Int} {k : Nat} [h : Bn n k] : Bd (nrm s n e) k :=
  ⟨⟨(Bn.mono (nrm_mag_le s n e) h).le, (nrm_exp s n e).1, (nrm_exp s n e).2⟩⟩
instance Bd.zero : Bd Dy.zero 0 := ⟨⟨by show (limbs 0).length ≤ 0; rw [limbs_zero]; exact Nat.le_refl _, by decide, by decide⟩⟩
instance Bz.num {r : Rat} {k : Nat} [h : Br r k] : Bz r.num k := ⟨h.fit.n⟩
instance Bn.den {r : Rat} {k : Nat} [h : Br r k] : Bn r.den (k + 1) := Bn.of (Nat.lt_of_le_of_lt h.den (Nat.pow_lt_pow_right (by decide) (Nat.lt_succ_self _)))
theorem dn_qOf (r : Rat) : dn (val (limbs (cden r))) = r.den := by rw [val_limbs, dn_cden]
/-- The dyadic number that is equal to a rational number; whether there is one. -/
def exD (r : Rat) : Dy := if bl r.den = tz r.den + 1 then nrm (decide (r.num < 0)) r.num.natAbs (-(tz r.den : Int)) else Dy.zero
def exOk (r : Rat) : Bool := if bl r.den = tz r.den + 1 then nok r.num.natAbs (-(tz r.den : Int)) else false
instance Bd.exD {r : Rat} {k : Nat} [h : Br r k] : Bd (exD r) k := by
  unfold Rc.exD
  split
  · haveI : Bn r.num.natAbs k := Bz.bn (Bz.num (r := r))
    infer_instance
  · exact ⟨Bd.zero.fit.mono (Nat.zero_le _)⟩
/-- The rational number that a dyadic number stands for. -/
def dq (d : Dy) : Rat := if 0 ≤ d.exp then rq d.neg (d.mag * 2 ^ d.exp.toNat) 0 else rq d.neg d.mag (2 ^ (-d.exp).toNat)
theorem pow_lt {k j : Nat} (h : k < 32 * j) : 2 ^ k < 4294967296 ^ j := by
  rw [pow32]
  exact Nat.pow_lt_pow_right (by decide) h
theorem Bn.shift {n i k : Nat} (j : Nat) (h : Bn n i) (hk : k < 32 * j) : Bn (n * 2 ^ k) (i + j) := Bn.of (mul_lt_pow h.lt (pow_lt hk))
theorem Br.dqj {d : Dy} {k : Nat} (j : Nat) (h : Bd d k) (hj : d.exp.natAbs < 32 * j) : Br (dq d) (k + j + 1) := by
  have hn : Bn d.mag k := ⟨h.fit.n⟩
  unfold Rc.dq
  split
  · exact Br.rqn (i := k + j + 1) (j := 0) (Nat.lt_of_lt_of_le (hn.shift (k := d.exp.toNat) j (by omega)).lt (Nat.pow_le_pow_right (by decide) (by omega))) (by simp) (by omega)
  · exact Br.rq (k := k + j + 1) (Nat.lt_of_lt_of_le hn.lt (Nat.pow_le_pow_right (by decide) (by omega))) (Nat.lt_of_lt_of_le (pow_lt (k := (-d.exp).toNat) (j := j) (by omega)) (Nat.pow_le_pow_right (by decide) (by omega)))
instance Br.dq {d : Dy} {k : Nat} [h : Bd d k] : Br (dq d) (k + 32769 + 1) := Br.dqj 32769 h (by have := h.fit.lo; have := h.fit.hi; omega)
/-- Equal in all fields. -/
def sameR (s : Bool) (l : List Nat) (e : Int) (s' : Bool) (l' : List Nat) (e' : Int) : Bool := (s == s') && (e == e' && decide (l = l'))
theorem sameR_refl (s : Bool) (l : List Nat) (e : Int) : sameR s l e s l e = true := by simp [sameR]
/-- Canonical. -/
def isD (s : Bool) (l : List Nat) (e : Int) : Bool :=
  if l.length = 0 then (!s && e == 0) else decide (∀ h : l ≠ [], l.getLast h ≠ 0) && (decide (l.getD 0 0 % 2 = 1) && (decide (-1048576 ≤ e) && decide (e ≤ 1048576)))
theorem limbs_inj' {a b : Nat} (h : limbs a = limbs b) : a = b := by
  have := congrArg val h
  rwa [val_limbs, val_limbs] at this
theorem bl_le_len {n k : Nat} (h : (limbs n).length ≤ k) : bl n ≤ 32 * k := bl_le_of_lt (by rw [← pow32]; exact limbs_length_le.1 h)
theorem tz_le_len {n k : Nat} (h : (limbs n).length ≤ k) : tz n ≤ 32 * k := by
  by_cases h0 : n = 0
  · subst h0; exact Nat.zero_le _
  · exact Nat.le_trans (Nat.le_of_lt (tz_lt_bl h0)) (bl_le_len h)
theorem ex_one {r : Rat} (h : r.den = 1) : exD r = nrm (cneg r) (cnum r) 0 ∧ exOk r = nok (cnum r) 0 := by
  have h1 : tz 1 = 0 := tz_odd rfl
  unfold exD exOk
  rw [h, h1, if_pos (by decide), if_pos (by decide)]
  exact ⟨rfl, rfl⟩
theorem ex_yes {r : Rat} (h : r.den ≠ 1) (h2 : 1 * 2 ^ (bl (cden r) - 1) = cden r) :
    exD r = nrm (cneg r) (cnum r) (-((bl (cden r) - 1 : Nat) : Int)) ∧ exOk r = nok (cnum r) (-((bl (cden r) - 1 : Nat) : Int)) := by
  have hc : cden r = r.den := if_neg h
  rw [hc, Nat.one_mul] at h2
  have hb := bl_pos r.den_nz
  have ht : tz r.den = bl r.den - 1 := (congrArg tz h2).symm.trans (tz_pow _)
  unfold exD exOk
  rw [hc, ht, if_pos (by omega), if_pos (by omega)]
  exact ⟨rfl, rfl⟩
theorem ex_no {r : Rat} (h : r.den ≠ 1) (h2 : ¬ 1 * 2 ^ (bl (cden r) - 1) = cden r) : exD r = Dy.zero ∧ exOk r = false := by
  have hc : cden r = r.den := if_neg h
  rw [hc, Nat.one_mul] at h2
  have : ¬ bl r.den = tz r.den + 1 := fun e => h2 (by rw [e, Nat.add_sub_cancel]; exact (pow_of_bl e).symm)
  unfold exD exOk
  rw [if_neg this, if_neg this]
  exact ⟨rfl, rfl⟩
/-- The greatest exponent of a power of two that is at most a/b. -/
def lg (a b : Nat) : Int :=
  if 0 ≤ (bl a : Int) - bl b then (if a < b * 2 ^ ((bl a : Int) - bl b).toNat then (bl a : Int) - bl b - 1 else (bl a : Int) - bl b)
  else (if a * 2 ^ (-((bl a : Int) - bl b)).toNat < b then (bl a : Int) - bl b - 1 else (bl a : Int) - bl b)
theorem lg_or (a b : Nat) : lg a b = (bl a : Int) - bl b ∨ lg a b = (bl a : Int) - bl b - 1 := by
  unfold lg; split <;> split <;> simp
theorem lg_bound {a b k j : Nat} (ha : (limbs a).length ≤ k) (hb : (limbs b).length ≤ j) : -(32 * j : Int) - 1 ≤ lg a b ∧ lg a b ≤ 32 * k := by
  have h1 := bl_le_len ha; have h2 := bl_le_len hb
  rcases lg_or a b with h | h <;> omega
def scN (n : Nat) (e : Int) : Nat := if 0 ≤ e then n else n * 2 ^ (-e).toNat
def scD (d : Nat) (e : Int) : Nat := if 0 ≤ e then d * 2 ^ e.toNat else d
def rndQ (a b : Nat) (e : Int) (away : Bool) : Nat := if away && decide (scN a e % scD b e ≠ 0) then scN a e / scD b e + 1 else scN a e / scD b e
def rnd (s : Bool) (a b : Nat) (p : Int) (away : Bool) : Dy := nrm s (rndQ a b (lg a b - p + 1) away) (lg a b - p + 1)
/-- A rational number rounded to p bits: toward zero, or away from it. -/
def rndD (r : Rat) (p : Int) (away : Bool) : Dy := if p < 1 ∨ 4096 < p ∨ r.num = 0 then Dy.zero else rnd (decide (r.num < 0)) r.num.natAbs r.den p away
def rndE (p : Int) : Int := if p < 1 ∨ 4096 < p then 1 else 0
theorem scN_pos {n : Nat} {e : Int} (h : 0 ≤ e) : scN n e = n := if_pos h
theorem scN_neg {n : Nat} {e : Int} (h : ¬ 0 ≤ e) : scN n e = n * 2 ^ (-e).toNat := if_neg h
theorem scD_pos {n : Nat} {e : Int} (h : 0 ≤ e) : scD n e = n * 2 ^ e.toNat := if_pos h
theorem scD_neg {n : Nat} {e : Int} (h : ¬ 0 ≤ e) : scD n e = n := if_neg h
theorem rndD_of {r : Rat} {p : Int} {away : Bool} (h1 : ¬ p < 1) (h2 : ¬ 4096 < p) (h3 : ¬ r.num = 0) : rndD r p away = rnd (decide (r.num < 0)) r.num.natAbs r.den p away := if_neg (by omega)
theorem rndE_of {p : Int} (h1 : ¬ p < 1) (h2 : ¬ 4096 < p) : rndE p = 0 := if_neg (by omega)
theorem rndQ_no {a b : Nat} {e : Int} : rndQ a b e false = scN a e / scD b e := by simp [rndQ]
theorem rndQ_up {a b : Nat} {e : Int} (h : scN a e % scD b e ≠ 0) : rndQ a b e true = scN a e / scD b e + 1 := by simp [rndQ, h]
theorem rndQ_ex {a b : Nat} {e : Int} (h : ¬ scN a e % scD b e ≠ 0) : rndQ a b e true = scN a e / scD b e := by simp [rndQ, h]
end Rc
