/- Integers and rational numbers of the program: as they come, and in canonical form; how long they are. -/
import Derived.Test.YtpabkdpijcbkgaaGreatDoorRatQ
import Derived.Test.YtpabkdpijcbkgaaGreatDoorKnuth
namespace Rc
open Go

/-- An integer as it comes. -/
structure Zr where
  neg : Bool
  m : List Nat
  hm : Small m
def Zr.z (x : Zr) : Int := sgn x.neg (val x.m)
@[reducible] def zV (x : Zr) : V := V.agg [Leaf.val (.bool x.neg), natL x.m]
@[reducible] def zOf (z : Int) : Zr := ⟨decide (z < 0), limbs z.natAbs, small_limbs _⟩
theorem zOf_z (z : Int) : (zOf z).z = z := by
  show sgn (decide (z < 0)) (val (limbs z.natAbs)) = z
  rw [val_limbs]; exact sgn_natAbs z

/-- A rational number as it comes. -/
structure Qr where
  neg : Bool
  n : List Nat
  d : List Nat
  hn : Small n
  hd : Small d
def Qr.q (x : Qr) : Rat := rq x.neg (val x.n) (val x.d)
@[reducible] def qV (x : Qr) : V := V.agg [Leaf.val (.bool x.neg), natL x.n, natL x.d]
@[reducible] def qOf (q : Rat) : Qr := ⟨cneg q, limbs (cnum q), limbs (cden q), small_limbs _, small_limbs _⟩
theorem qOf_q (q : Rat) : (qOf q).q = q := by
  show rq (cneg q) (val (limbs (cnum q))) (val (limbs (cden q))) = q
  rw [val_limbs, val_limbs]; exact rq_canon q
@[reducible] def qZero : Qr := ⟨false, [], [], Small.nil, Small.nil⟩
theorem qZero_q : qZero.q = 0 := by
  show rq false 0 0 = 0
  exact rq_zero _ _
theorem qV_zero : qV qZero = qV (qOf 0) := by
  show V.agg _ = V.agg [Leaf.val (.bool (cneg 0)), natL (limbs (cnum 0)), natL (limbs (cden 0))]
  rw [cneg_zero, cnum_zero, cden_zero, limbs_zero]

/-! ## Lengths -/
class Bn (n : Nat) (k : outParam Nat) : Prop where
  le : (limbs n).length ≤ k
theorem Bn.use {n k k' : Nat} [h : Bn n k] (hk : k ≤ k') : (limbs n).length ≤ k' := Nat.le_trans h.le hk
theorem Bn.lt {n k : Nat} (h : Bn n k) : n < 4294967296 ^ k := limbs_length_le.1 h.le
theorem Bn.of {n k : Nat} (h : n < 4294967296 ^ k) : Bn n k := ⟨limbs_length_le.2 h⟩
theorem Bn.val {l : List Nat} {k : Nat} (hs : Small l) (h : l.length ≤ k) : Bn (val l) k := ⟨Nat.le_trans (limbs_val_length hs) h⟩
theorem Bn.of_lt {n k : Nat} (h : n < 18446744073709551616) (hk : 2 ≤ k) : (limbs n).length ≤ k := Nat.le_trans (limbs_length_le (k := 2).2 h) hk
theorem mul_lt_pow {a b i j : Nat} (ha : a < 4294967296 ^ i) (hb : b < 4294967296 ^ j) : a * b < 4294967296 ^ (i + j) := by
  rw [Nat.pow_add]
  rcases Nat.eq_zero_or_pos b with h | h
  · subst h; exact Nat.mul_pos (Nat.pow_pos (by decide)) (Nat.pow_pos (by decide))
  · exact Nat.lt_of_lt_of_le (Nat.mul_lt_mul_of_pos_right ha h) (Nat.mul_le_mul_left _ (Nat.le_of_lt hb))
theorem add_lt_pow {a b i j : Nat} (ha : a < 4294967296 ^ i) (hb : b < 4294967296 ^ j) : a + b < 4294967296 ^ (i + j + 1) := by
  have h1 : 4294967296 ^ i ≤ 4294967296 ^ (i + j) := Nat.pow_le_pow_right (by decide) (by omega)
  have h2 : 4294967296 ^ j ≤ 4294967296 ^ (i + j) := Nat.pow_le_pow_right (by decide) (by omega)
  rw [Nat.pow_succ]
  omega
instance Bn.mul {a b i j : Nat} [ha : Bn a i] [hb : Bn b j] : Bn (a * b) (i + j) := Bn.of (mul_lt_pow ha.lt hb.lt)
instance Bn.add {a b i j : Nat} [ha : Bn a i] [hb : Bn b j] : Bn (a + b) (i + j + 1) := Bn.of (add_lt_pow ha.lt hb.lt)
instance Bn.dn {a i : Nat} [ha : Bn a i] : Bn (dn a) (i + 1) := by
  refine Bn.of ?_
  have := ha.lt
  unfold Rc.dn
  split
  · exact Nat.one_lt_pow (by omega) (by decide)
  · rw [Nat.pow_succ]; omega
theorem Bn.mono {a b i : Nat} (h : a ≤ b) (hb : Bn b i) : Bn a i := Bn.of (Nat.lt_of_le_of_lt h hb.lt)
instance Bn.div {a b i : Nat} [ha : Bn a i] : Bn (a / b) i := Bn.mono (Nat.div_le_self _ _) ha
instance Bn.sub {a b i : Nat} [ha : Bn a i] : Bn (a - b) i := Bn.mono (Nat.sub_le _ _) ha
instance Bn.mod {a b i : Nat} [ha : Bn a i] : Bn (a % b) i := Bn.mono (Nat.mod_le _ _) ha
class Bz (z : Int) (k : outParam Nat) : Prop where
  le : (limbs z.natAbs).length ≤ k
theorem Bz.use {z : Int} {k k' : Nat} [h : Bz z k] (hk : k ≤ k') : (limbs z.natAbs).length ≤ k' := Nat.le_trans h.le hk
theorem Bz.bn {z : Int} {k : Nat} (h : Bz z k) : Bn z.natAbs k := ⟨h.le⟩
instance Bz.sgn {b : Bool} {n i : Nat} [h : Bn n i] : Bz (Rc.sgn b n) i := ⟨by rw [natAbs_sgn]; exact h.le⟩
instance Bz.nat {n i : Nat} [h : Bn n i] : Bz ((n : Nat) : Int) i := ⟨by simpa using h.le⟩
instance Bz.mul {a b : Int} {i j : Nat} [ha : Bz a i] [hb : Bz b j] : Bz (a * b) (i + j) :=
  ⟨by rw [Int.natAbs_mul]; exact (@Bn.mul _ _ _ _ ha.bn hb.bn).le⟩
instance Bz.add {a b : Int} {i j : Nat} [ha : Bz a i] [hb : Bz b j] : Bz (a + b) (i + j + 1) :=
  ⟨(Bn.mono (by omega) (@Bn.add _ _ _ _ ha.bn hb.bn)).le⟩
instance Bz.sub {a b : Int} {i j : Nat} [ha : Bz a i] [hb : Bz b j] : Bz (a - b) (i + j + 1) :=
  ⟨(Bn.mono (by omega) (@Bn.add _ _ _ _ ha.bn hb.bn)).le⟩
instance Bz.neg {a : Int} {i : Nat} [ha : Bz a i] : Bz (-a) i := ⟨by rw [Int.natAbs_neg]; exact ha.le⟩

/-- A rational number's limbs. -/
structure Fit (k : Nat) (x : Qr) : Prop where
  n : x.n.length ≤ k
  d : x.d.length ≤ k
theorem Fit.mono {k k' : Nat} {x : Qr} (h : Fit k x) (hk : k ≤ k') : Fit k' x := ⟨Nat.le_trans h.n hk, Nat.le_trans h.d hk⟩
class Br (r : Rat) (k : outParam Nat) : Prop where
  fit : Fit k (qOf r)
theorem Br.use {r : Rat} {k k' : Nat} [h : Br r k] (hk : k ≤ k') : Fit k' (qOf r) := h.fit.mono hk
theorem qZero_fit {k : Nat} : Fit k qZero := ⟨Nat.zero_le _, Nat.zero_le _⟩
theorem Br.num {r : Rat} {k : Nat} (h : Br r k) : cnum r < 4294967296 ^ k := limbs_length_le.1 h.fit.n
theorem Br.den {r : Rat} {k : Nat} (h : Br r k) : r.den ≤ 4294967296 ^ k := by
  have h1 : cden r < 4294967296 ^ k := limbs_length_le.1 h.fit.d
  rw [← dn_cden]
  have h2 : 0 < 4294967296 ^ k := Nat.pow_pos (by decide)
  unfold dn; split <;> omega
theorem Br.of {r : Rat} {k : Nat} (h1 : r.num.natAbs < 4294967296 ^ k) (h2 : r.den < 4294967296 ^ k) : Br r k :=
  ⟨limbs_length_le.2 h1, limbs_length_le.2 (by unfold cden; split <;> omega)⟩
/-- The canonical form is not greater. -/
theorem Br.rq {b : Bool} {n d k : Nat} (h1 : n < 4294967296 ^ k) (h2 : d < 4294967296 ^ k) : Br (rq b n d) k := by
  refine ⟨limbs_length_le.2 ?_, limbs_length_le.2 ?_⟩
  · rw [cnum_rq]; exact Nat.lt_of_le_of_lt (Nat.div_le_self _ _) h1
  · have h3 : (Rc.rq b n d).den ≤ dn d := by rw [den_rq]; exact Nat.div_le_self _ _
    unfold cden
    split
    · omega
    · rename_i h4
      unfold dn at h3
      have := (Rc.rq b n d).den_pos
      split at h3 <;> omega
theorem Br.q {x : Qr} {k : Nat} (h : Fit k x) : Br x.q k :=
  Br.rq (Nat.lt_of_lt_of_le (val_lt x.hn) (Nat.pow_le_pow_right (by decide) h.n)) (Nat.lt_of_lt_of_le (val_lt x.hd) (Nat.pow_le_pow_right (by decide) h.d))
theorem Br.rqn {b : Bool} {n d i j : Nat} (h1 : n < 4294967296 ^ i) (h2 : d ≤ 4294967296 ^ j) (hj : j < i) : Br (Rc.rq b n d) i :=
  Br.rq h1 (Nat.lt_of_le_of_lt h2 (Nat.pow_lt_pow_right (by decide) hj))
theorem rq_of (q : Rat) : Rc.rq (cneg q) (cnum q) q.den = q := by rw [← dn_cden, rq_dn, rq_canon]
instance Br.mul {r s : Rat} {i j : Nat} [hr : Br r i] [hs : Br s j] : Br (r * s) (i + j + 1) := by
  rw [← rq_of r, ← rq_of s, ← rq_mul, dn_of (Nat.ne_of_gt r.den_pos), dn_of (Nat.ne_of_gt s.den_pos)]
  refine Br.rqn (j := i + j) (Nat.lt_trans (mul_lt_pow hr.num hs.num) (Nat.pow_lt_pow_right (by decide) (by omega))) ?_ (by omega)
  rw [Nat.pow_add]; exact Nat.mul_le_mul hr.den hs.den
instance Br.add {r s : Rat} {i j : Nat} [hr : Br r i] [hs : Br s j] : Br (r + s) (i + j + 1) := by
  rw [← rq_of r, ← rq_of s, ← rq_add _ _ _ _ _ _ _ rfl, dn_of (Nat.ne_of_gt r.den_pos), dn_of (Nat.ne_of_gt s.den_pos)]
  refine Br.rqn (j := i + j) ?_ ?_ (by omega)
  · have h1 : cnum r * s.den < 4294967296 ^ (i + j) ∨ cnum r * s.den = 0 := by
      rcases Nat.eq_zero_or_pos (cnum r) with h | h
      · exact .inr (by rw [h, Nat.zero_mul])
      · left; rw [Nat.pow_add]
        exact Nat.lt_of_lt_of_le (Nat.mul_lt_mul_of_pos_right hr.num s.den_pos) (Nat.mul_le_mul_left _ hs.den)
    have h2 : cnum s * r.den < 4294967296 ^ (i + j) ∨ cnum s * r.den = 0 := by
      rcases Nat.eq_zero_or_pos (cnum s) with h | h
      · exact .inr (by rw [h, Nat.zero_mul])
      · left; rw [Nat.pow_add, Nat.mul_comm (4294967296 ^ i)]
        exact Nat.lt_of_lt_of_le (Nat.mul_lt_mul_of_pos_right hs.num r.den_pos) (Nat.mul_le_mul_left _ hr.den)
    have h0 : 0 < 4294967296 ^ (i + j) := Nat.pow_pos (by decide)
    have h3 : ∀ (a b : Bool) (m n : Nat), (sgn a m + sgn b n).natAbs ≤ m + n := by
      intro a b m n; cases a <;> cases b <;> simp <;> omega
    have h4 := h3 (cneg r) (cneg s) (cnum r * s.den) (cnum s * r.den)
    refine Nat.lt_of_le_of_lt h4 ?_
    rw [Nat.pow_succ]
    omega
  · rw [Nat.pow_add]; exact Nat.mul_le_mul hr.den hs.den
theorem cnum_neg (r : Rat) : cnum (-r) = cnum r := by unfold cnum; rw [show (-r).num = -r.num from rfl, Int.natAbs_neg]
theorem cden_neg (r : Rat) : cden (-r) = cden r := rfl
instance Br.neg {r : Rat} {i : Nat} [hr : Br r i] : Br (-r) i := ⟨⟨by show (limbs (cnum (-r))).length ≤ i; rw [cnum_neg]; exact hr.fit.n, by show (limbs (cden (-r))).length ≤ i; rw [cden_neg]; exact hr.fit.d⟩⟩
instance Br.sub {r s : Rat} {i j : Nat} [hr : Br r i] [hs : Br s j] : Br (r - s) (i + j + 1) := by
  rw [Rat.sub_eq_add_neg]; exact Br.add
theorem Br.mono {r : Rat} {i j : Nat} (h : Br r i) (hij : i ≤ j) : Br r j := ⟨h.fit.mono hij⟩
/-- The lesser, the greater number. -/
def mn (r s : Rat) : Rat := if r ≤ s then r else s
def mx (r s : Rat) : Rat := if s ≤ r then r else s
instance Br.mn {r s : Rat} {i j : Nat} [hr : Br r i] [hs : Br s j] : Br (mn r s) (i + j) := by
  unfold Rc.mn; split
  · exact hr.mono (by omega)
  · exact hs.mono (by omega)
instance Br.mx {r s : Rat} {i j : Nat} [hr : Br r i] [hs : Br s j] : Br (mx r s) (i + j) := by
  unfold Rc.mx; split
  · exact hr.mono (by omega)
  · exact hs.mono (by omega)
instance Br.zero : Br 0 0 := ⟨⟨by show (limbs (cnum 0)).length ≤ 0; rw [cnum_zero, limbs_zero]; exact Nat.le_refl _, by show (limbs (cden 0)).length ≤ 0; rw [cden_zero, limbs_zero]; exact Nat.le_refl _⟩⟩
instance Br.inv {r : Rat} {i : Nat} [hr : Br r i] : Br r⁻¹ (i + 1) := by
  by_cases h : r = 0
  · subst h; rw [Rat.inv_zero]; exact Br.zero.mono (Nat.zero_le _)
  · have hn : r.num ≠ 0 := fun e => h (Rat.num_eq_zero.1 e)
    refine Br.of ?_ ?_
    · rw [Rat.num_inv, Int.natAbs_mul]
      have h1 : r.num.sign.natAbs ≤ 1 := by rw [Int.natAbs_sign]; split <;> omega
      have h2 := hr.den
      have h3 : r.num.sign.natAbs * (r.den : Int).natAbs ≤ 1 * r.den := Nat.mul_le_mul h1 (by simp)
      have h0 : 0 < 4294967296 ^ i := Nat.pow_pos (by decide)
      rw [Nat.pow_succ]
      generalize r.num.sign.natAbs * (r.den : Int).natAbs = a at *
      omega
    · rw [Rat.den_inv, if_neg hn]
      have := hr.num
      unfold cnum at this
      rw [Nat.pow_succ]; omega
instance Br.div {r s : Rat} {i j : Nat} [hr : Br r i] [hs : Br s j] : Br (r / s) (i + (j + 1) + 1) := by
  rw [Rat.div_def]; exact Br.mul

/-! ## Comparisons -/
def sgz (z : Int) : Int := if z < 0 then -1 else if z = 0 then 0 else 1
def cmpz (a b : Int) : Int := if a < b then -1 else if a = b then 0 else 1
theorem rq_neg_iff (b : Bool) (n d : Nat) : rq b n d < 0 ↔ sgn b n < 0 := by
  have h := rq_lt b false n 0 d 0
  rw [rq_zero] at h
  rw [h]; simp [dn]
theorem sg_rq (b : Bool) (n d : Nat) : sg (rq b n d) = sgz (sgn b n) := by
  unfold sg sgz
  have h1 := rq_neg_iff b n d
  have h2 : rq b n d = 0 ↔ sgn b n = 0 := by rw [rq_eq_zero]; cases b <;> simp
  simp only [h1, h2]
theorem cmpq_rq (a b : Bool) (m n d e : Nat) : cmpq (rq a m d) (rq b n e) = cmpz (sgn a m * dn e) (sgn b n * dn d) := by
  unfold cmpq cmpz
  simp only [rq_lt, rq_eq]
theorem cmpq_le {p q : Rat} : cmpq p q ≤ 0 ↔ p ≤ q := by
  unfold cmpq
  split
  · rename_i h; exact ⟨fun _ => Rat.le_of_lt h, fun _ => by decide⟩
  · split
    · rename_i h; subst h; exact ⟨fun _ => Rat.le_refl, fun _ => by decide⟩
    · rename_i h1 h2; exact ⟨fun h => absurd h (by decide), fun h => by grind⟩
theorem cmpq_ge {p q : Rat} : 0 ≤ cmpq p q ↔ q ≤ p := by
  unfold cmpq
  split
  · rename_i h; exact ⟨fun h => absurd h (by decide), fun h' => by grind⟩
  · rename_i h; exact ⟨fun _ => by grind, fun _ => by split <;> decide⟩
theorem cmpq_gt {p q : Rat} : 0 < cmpq p q ↔ q < p := by
  unfold cmpq
  split
  · rename_i h; exact ⟨fun h => absurd h (by decide), fun h' => by grind⟩
  · split
    · rename_i h; exact ⟨fun h => absurd h (by decide), fun h' => by grind⟩
    · rename_i h1 h2; exact ⟨fun _ => by grind, fun _ => by decide⟩
theorem cmpq_lt {p q : Rat} : cmpq p q < 0 ↔ p < q := by
  unfold cmpq
  split
  · rename_i h; exact ⟨fun _ => h, fun _ => by decide⟩
  · rename_i h; exact ⟨fun h' => by split at h' <;> simp at h', fun h' => absurd h' h⟩
theorem cmpq_eq {p q : Rat} : cmpq p q = 0 ↔ p = q := by
  unfold cmpq
  split
  · rename_i h; exact ⟨fun h => absurd h (by decide), fun h' => by grind⟩
  · split
    · rename_i h; exact ⟨fun _ => h, fun _ => rfl⟩
    · rename_i h1 h2; exact ⟨fun h => absurd h (by decide), fun h' => absurd h' h2⟩
theorem sg_lt {p : Rat} : sg p < 0 ↔ p < 0 := by
  unfold sg
  split
  · rename_i h; exact ⟨fun _ => h, fun _ => by decide⟩
  · rename_i h; exact ⟨fun h' => by split at h' <;> simp at h', fun h' => absurd h' h⟩
end Rc
