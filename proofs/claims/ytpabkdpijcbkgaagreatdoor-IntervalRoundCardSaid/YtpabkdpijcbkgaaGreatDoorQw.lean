/- Plain lemmas for the walks over integers and rational numbers. -/
import Derived.Test.YtpabkdpijcbkgaaGreatDoorQz
import Derived.Test.YtpabkdpijcbkgaaGreatDoorRefM
namespace Rc
open Go

@[reducible] def zZero : Zr := ⟨false, [], Small.nil⟩
theorem zZero_z : zZero.z = 0 := rfl
theorem zr_eq {b : Bool} {m : List Nat} {hm : Small m} {v : Nat} (h : val m = v) : (Zr.mk b m hm).z = sgn b v := by subst h; rfl
theorem qr_eq {b : Bool} {n d : List Nat} {hn : Small n} {hd : Small d} {vn vd : Nat} (h1 : val n = vn) (h2 : val d = vd) : (Qr.mk b n d hn hd).q = rq b vn vd := by subst h1; subst h2; rfl
theorem qr_neg {x : Qr} {r : Rat} (h : x.q = r) : (Qr.mk (!x.neg) x.n x.d x.hn x.hd).q = -r := by
  subst h; exact rq_neg x.neg (val x.n) (val x.d)
theorem Fit.neg {k : Nat} {x : Qr} (h : Fit k x) : Fit k (Qr.mk (!x.neg) x.n x.d x.hn x.hd) := ⟨h.n, h.d⟩

theorem limbs_len_pos {n : Nat} : 0 < (limbs n).length ↔ n ≠ 0 := by
  constructor
  · intro h e; subst e; rw [limbs_zero] at h; simp at h
  · intro h
    exact Nat.pos_of_ne_zero (fun e => h (limbs_eq_nil.1 (List.eq_nil_of_length_eq_zero e)))
theorem zret_f (n : Nat) : V.agg [Leaf.val (.bool false), natL (limbs n)] = zV (zOf (sgn false n)) := by
  show V.agg _ = V.agg [Leaf.val (.bool (decide (sgn false n < 0))), natL (limbs (sgn false n).natAbs)]
  rw [natAbs_sgn, decide_eq_false (by rw [sgn_false]; omega)]
theorem zret_t (n : Nat) : V.agg [Leaf.val (.bool (decide ((0 : Int) < ((limbs n).length : Nat)))), natL (limbs n)] = zV (zOf (sgn true n)) := by
  show V.agg _ = V.agg [Leaf.val (.bool (decide (sgn true n < 0))), natL (limbs (sgn true n).natAbs)]
  rw [natAbs_sgn]
  have h := limbs_len_pos (n := n)
  have e : decide ((0 : Int) < ((limbs n).length : Nat)) = decide (sgn true n < 0) := decide_eq_decide.2 (by rw [sgn_true]; omega)
  rw [e]
theorem bl_eq_zero {n : Nat} : bl n = 0 ↔ n = 0 := by
  constructor
  · intro h
    by_cases e : n = 0
    · exact e
    · have := bl_pos e; omega
  · rintro rfl; rfl
theorem sgz_zero {x : Zr} (h : bl (val x.m) = 0) : sgz x.z = 0 := by
  unfold Zr.z; rw [bl_eq_zero.1 h]; cases x.neg <;> rfl
theorem sgz_zero' {x : Zr} (h : val x.m = 0) : sgz x.z = 0 := by
  unfold Zr.z; rw [h]; cases x.neg <;> rfl
theorem sgz_neg {x : Zr} (h : val x.m ≠ 0) (hn : x.neg = true) : sgz x.z = -1 := by
  unfold Zr.z sgz; rw [hn, sgn_true, if_pos (by omega)]
theorem sgz_pos {x : Zr} (h : val x.m ≠ 0) (hn : x.neg = false) : sgz x.z = 1 := by
  unfold Zr.z sgz; rw [hn, sgn_false, if_neg (by omega), if_neg (by omega)]
theorem zadd_same {x y : Zr} (h : x.neg = y.neg) : sgn x.neg (val x.m + val y.m) = x.z + y.z := by
  unfold Zr.z; rw [← h]; cases x.neg <;> simp <;> omega
theorem zadd_lt {x y : Zr} (h : x.neg ≠ y.neg) (hlt : val x.m ≤ val y.m) : sgn y.neg (val y.m - val x.m) = x.z + y.z := by
  unfold Zr.z
  cases hx : x.neg <;> cases hy : y.neg <;> simp [hx, hy] at h ⊢ <;> omega
theorem zadd_ge {x y : Zr} (h : x.neg ≠ y.neg) (hge : val y.m ≤ val x.m) : sgn x.neg (val x.m - val y.m) = x.z + y.z := by
  unfold Zr.z
  cases hx : x.neg <;> cases hy : y.neg <;> simp [hx, hy] at h ⊢ <;> omega
theorem sgz_cases (z : Int) : (z < 0 ∧ sgz z = -1) ∨ (z = 0 ∧ sgz z = 0) ∨ (0 < z ∧ sgz z = 1) := by
  unfold sgz
  split
  · exact .inl ⟨by assumption, rfl⟩
  · split
    · exact .inr (.inl ⟨by assumption, rfl⟩)
    · exact .inr (.inr ⟨by omega, rfl⟩)
theorem cmpz_lt {a b : Int} (h : a < b) : cmpz a b = -1 := by unfold cmpz; rw [if_pos h]
theorem cmpz_gt {a b : Int} (h : b < a) : cmpz a b = 1 := by unfold cmpz; rw [if_neg (by omega), if_neg (by omega)]
theorem cmpz_sg_lt {a b : Int} (h : sgz a < sgz b) : cmpz a b = -1 := by
  have h1 := sgz_cases a; have h2 := sgz_cases b
  exact cmpz_lt (by omega)
theorem cmpz_sg_gt {a b : Int} (h : sgz b < sgz a) : cmpz a b = 1 := by
  have h1 := sgz_cases a; have h2 := sgz_cases b
  exact cmpz_gt (by omega)
theorem cmpz_neg {x y : Zr} (h : sgz x.z = sgz y.z) (hn : sgz x.z < 0) : cmpN (val y.m) (val x.m) = cmpz x.z y.z := by
  have h1 := sgz_cases x.z; have h2 := sgz_cases y.z
  have a1 : x.z < 0 := by omega
  have a2 : y.z < 0 := by omega
  clear h1 h2 h hn
  unfold Zr.z at *
  cases hx : x.neg <;> cases hy : y.neg <;> rw [hx] at a1 <;> rw [hy] at a2 <;> simp at a1 a2
  · omega
  · omega
  · omega
  · simp only [sgn_true]
    unfold cmpN cmpz
    repeat' split
    all_goals omega
theorem cmpz_pos {x y : Zr} (h : sgz x.z = sgz y.z) (hn : ¬ sgz x.z < 0) : cmpN (val x.m) (val y.m) = cmpz x.z y.z := by
  have h1 := sgz_cases x.z; have h2 := sgz_cases y.z
  have a : (x.z = 0 ∧ y.z = 0) ∨ (0 < x.z ∧ 0 < y.z) := by omega
  clear h1 h2 h hn
  have e1 : x.z = val x.m := by
    unfold Zr.z at *
    cases hx : x.neg <;> rw [hx] at a <;> simp at a ⊢ <;> omega
  have e2 : y.z = val y.m := by
    unfold Zr.z at *
    cases hy : y.neg <;> rw [hy] at a <;> simp at a ⊢ <;> omega
  rw [e1, e2]
  unfold cmpN cmpz
  repeat' split
  all_goals omega

/-- The denominator's limbs. -/
def dl (d : List Nat) : List Nat := if val d = 0 then [1] else d
theorem val_dl (d : List Nat) : val (dl d) = dn (val d) := by unfold dl dn; split <;> simp_all
theorem small_dl {d : List Nat} (h : Small d) : Small (dl d) := by
  unfold dl; split
  · exact Small.cons (by omega) Small.nil
  · exact h
theorem len_dl {d : List Nat} {k k' : Nat} (h : d.length ≤ k) (hk : k + 1 ≤ k') : (dl d).length ≤ k' := by
  unfold dl; split
  · simp; omega
  · omega
theorem dl_zero {d : List Nat} (h : bl (val d) = 0) : dl d = [1] := by unfold dl; rw [if_pos (bl_eq_zero.1 h)]
theorem dl_of {d : List Nat} (h : ¬ bl (val d) = 0) : dl d = d := by unfold dl; rw [if_neg (fun e => h (bl_eq_zero.2 e))]

theorem limbs_one : limbs 1 = [1] := by rw [limbs_pos (by decide)]; simp [limbs_zero]
theorem limbs_eq_one {n : Nat} : limbs n = [1] ↔ n = 1 := by
  constructor
  · intro h; have := val_limbs n; rw [h] at this; simpa using this.symm
  · rintro rfl; exact limbs_one
theorem quot_ret (b : Bool) {n d : Nat} (hn : n ≠ 0) (hd : d ≠ 0) :
    qV (qOf (rq b n d)) = V.agg [Leaf.val (.bool b), natL (limbs (n / Nat.gcd n d)), natL (limbs (if d / Nat.gcd n d = 1 then 0 else d / Nat.gcd n d))] := by
  show V.agg [Leaf.val (.bool (cneg (rq b n d))), natL (limbs (cnum (rq b n d))), natL (limbs (cden (rq b n d)))] = _
  rw [cneg_rq, cnum_rq, dn_of hd, decide_eq_true hn, Bool.and_true]
  unfold cden
  rw [den_rq, dn_of hd]
theorem quot_ret' (b : Bool) {n d : Nat} (hd : d ≠ 0) :
    qV (qOf (rq b n d)) = V.agg [Leaf.val (.bool (b && decide (n ≠ 0))), natL (limbs (n / Nat.gcd n d)), natL (limbs (if d / Nat.gcd n d = 1 then 0 else d / Nat.gcd n d))] := by
  show V.agg [Leaf.val (.bool (cneg (rq b n d))), natL (limbs (cnum (rq b n d))), natL (limbs (cden (rq b n d)))] = _
  rw [cneg_rq, cnum_rq, dn_of hd]
  unfold cden
  rw [den_rq, dn_of hd]
theorem quot_zero (b : Bool) (d : Nat) : qV qZero = qV (qOf (rq b 0 d)) := by rw [rq_zero]; exact qV_zero
theorem div_ne {n g : Nat} (hn : n ≠ 0) (h : g ∣ n) : n / g ≠ 0 := by
  obtain ⟨k, rfl⟩ := h
  have hg : 0 < g := Nat.pos_of_ne_zero (fun e => hn (by rw [e, Nat.zero_mul]))
  rw [Nat.mul_div_cancel_left _ hg]
  intro e; exact hn (by rw [e, Nat.mul_zero])
theorem q_add (a b : Bool) (m n d e : Nat) (S : Int) (hS : S = sgn a m * sgn false (dn e) + sgn b n * sgn false (dn d)) :
    rq (decide (S < 0)) S.natAbs (dn d * dn e) = rq a m d + rq b n e := by
  refine rq_add a b m n d e S ?_
  rw [hS]
  cases a <;> cases b <;> simp [Int.neg_mul]
theorem q_add' (a b : Bool) (m n d e : Nat) (S : Int) (hS : S = sgn a (m * dn e) + sgn b (n * dn d)) :
    rq (decide (S < 0)) S.natAbs (dn d * dn e) = rq a m d + rq b n e := rq_add a b m n d e S hS
theorem cmpq_cross (a b : Bool) (m n d e : Nat) : cmpz (sgn a m * sgn false (dn e)) (sgn b n * sgn false (dn d)) = cmpq (rq a m d) (rq b n e) := (cmpq_rq a b m n d e).symm
theorem cmpq_sg_lt {p q : Rat} (h : sg p < sg q) : cmpq p q = -1 := by
  unfold cmpq
  rw [if_pos]
  unfold sg at h
  grind
theorem cmpq_sg_gt {p q : Rat} (h : sg p ≠ sg q) (h' : ¬ sg p < sg q) : cmpq p q = 1 := by
  unfold cmpq
  unfold sg at h h'
  rw [if_neg, if_neg] <;> grind
theorem mn_le {r s : Rat} (h : cmpq r s ≤ 0) : mn r s = r := by unfold mn; rw [if_pos (cmpq_le.1 h)]
theorem mn_gt {r s : Rat} (h : ¬ cmpq r s ≤ 0) : mn r s = s := by unfold mn; rw [if_neg (fun e => h (cmpq_le.2 e))]
theorem mx_ge {r s : Rat} (h : 0 ≤ cmpq r s) : mx r s = r := by unfold mx; rw [if_pos (cmpq_ge.1 h)]
theorem mx_lt {r s : Rat} (h : ¬ 0 ≤ cmpq r s) : mx r s = s := by unfold mx; rw [if_neg (fun e => h (cmpq_ge.2 e))]
theorem cmpq_sub' (p q : Rat) : sg (p + -q) = cmpq p q := by rw [cmpq_sub, Rat.sub_eq_add_neg]

/-! ## Canonical numbers -/
/-- Is the value canonical? -/
def isC (x : Qr) : Bool := (x.neg == cneg x.q) && decide (x.n = limbs (cnum x.q)) && decide (x.d = limbs (cden x.q))
theorem isC_iff {x : Qr} : isC x = true ↔ x = qOf x.q := by
  unfold isC
  rw [Bool.and_eq_true, Bool.and_eq_true, beq_iff_eq, decide_eq_true_eq, decide_eq_true_eq]
  constructor
  · rintro ⟨⟨h1, h2⟩, h3⟩
    obtain ⟨b, n, d, hn, hd⟩ := x
    simp only at h1 h2 h3
    show _ = Qr.mk _ _ _ _ _
    congr
  · intro h
    refine ⟨⟨?_, ?_⟩, ?_⟩
    · have := congrArg Qr.neg h; exact this
    · have := congrArg Qr.n h; exact this
    · have := congrArg Qr.d h; exact this
theorem small_ext {a b : List Nat} (ha : Small a) (hb : Small b) (hl : a.length = b.length) (hv : val a = val b) : a = b := by
  rw [padL_eq ha, padL_eq hb, hl, hv]
theorem cmpN_zero {a b : Nat} : cmpN a b = 0 ↔ a = b := by
  unfold cmpN
  split
  · exact ⟨fun h => absurd h (by decide), fun h => by omega⟩
  · split
    · exact ⟨fun _ => by assumption, fun _ => rfl⟩
    · exact ⟨fun h => absurd h (by decide), fun h => absurd h (by assumption)⟩
/-- The quick test where the denominator is empty. -/
theorem isC_int {x : Qr} (hd : x.d.length = 0) : isC x = (decide (∀ h : x.n ≠ [], x.n.getLast h ≠ 0) && (!x.neg || decide (0 < x.n.length))) := by
  obtain ⟨b, n, d, hn, hdd⟩ := x
  simp only at hd
  have hd0 := List.eq_nil_of_length_eq_zero hd
  subst hd0
  have hq : (Qr.mk b n [] hn hdd).q = rq b (val n) 0 := rfl
  apply Bool.eq_iff_iff.2
  unfold isC
  rw [hq]
  simp only []
  rw [cneg_rq, cnum_rq]
  have hden : cden (rq b (val n) 0) = 0 := by unfold cden; rw [den_rq]; simp
  rw [hden, limbs_zero]
  simp only [dn_zero, Nat.gcd_one_right, Nat.div_one, Bool.and_eq_true, decide_eq_true_eq, beq_iff_eq, Bool.or_eq_true, Bool.not_eq_true', ne_eq, decide_true, and_true]
  constructor
  · rintro ⟨h1, h2⟩
    have hc := canon_limbs (val n)
    rw [← h2] at hc
    refine ⟨fun h => hc.2 h, ?_⟩
    cases b with
    | false => exact .inl rfl
    | true =>
      right
      simp at h1
      rw [h2]; exact limbs_len_pos.2 h1
  · rintro ⟨h1, h2⟩
    have hc : Canon n := ⟨hn, fun h => h1 h⟩
    refine ⟨?_, hc.eq⟩
    rcases h2 with h2 | h2
    · subst h2; simp
    · have : val n ≠ 0 := by
        rw [hc.eq] at h2
        exact limbs_len_pos.1 h2
      simp [this]
/-- The test against the canonical form. -/
theorem isC_cmp {x : Qr} : isC x = ((x.neg == cneg x.q) && ((x.n.length : Int) == ((limbs (cnum x.q)).length : Nat)) && ((x.d.length : Int) == ((limbs (cden x.q)).length : Nat)) && (cmpN (val x.n) (cnum x.q) == 0) && (cmpN (val x.d) (cden x.q) == 0)) := by
  apply Bool.eq_iff_iff.2
  unfold isC
  simp only [Bool.and_eq_true, beq_iff_eq, decide_eq_true_eq, cmpN_zero]
  constructor
  · rintro ⟨⟨h1, h2⟩, h3⟩
    exact ⟨⟨⟨⟨h1, by rw [← h2]⟩, by rw [← h3]⟩, by rw [h2, val_limbs]⟩, by rw [h3, val_limbs]⟩
  · rintro ⟨⟨⟨⟨h1, h2⟩, h3⟩, h4⟩, h5⟩
    exact ⟨⟨h1, small_ext x.hn (small_limbs _) (by omega) (by rw [val_limbs]; exact h4)⟩, small_ext x.hd (small_limbs _) (by omega) (by rw [val_limbs]; exact h5)⟩
end Rc
