/- Rounded dyadic numbers and the order of rationals. -/
import Derived.Test.YtpabkdpijcbkgaaGreatDoorLaw5
set_option linter.unusedVariables false
set_option linter.unusedSimpArgs false
namespace Rc
open Go Go.RowKit
theorem rat_lt_le {a b c : Rat} (h1 : a < b) (h2 : b ≤ c) : a < c := by grind
theorem rat_le_lt {a b c : Rat} (h1 : a ≤ b) (h2 : b < c) : a < c := by grind
/-- A natural number times a power of two. -/
def nz (m : Nat) (e : Int) : Rat := ((m : Int) : Rat) * zp e
theorem dq_nz (s : Bool) (m : Nat) (e : Int) : dq ⟨s, m, e⟩ = if s then -nz m e else nz m e := by
  rw [dq_scale, rq_int]
  unfold nz
  cases s
  · rfl
  · rw [sgn_true, Rat.intCast_neg, Rat.neg_mul]; rfl
theorem zp_two (t : Nat) : zp t = (((2 ^ t : Nat) : Int) : Rat) := by rw [zp_nat, rq_int]; rfl
theorem nz_shift (m : Nat) (e : Int) (t : Nat) : nz (m * 2 ^ t) e = nz m (e + t) := by
  unfold nz
  rw [zp_addn, zp_two, Int.natCast_mul, Rat.intCast_mul]
  grind
theorem nz_le {m n : Nat} {e : Int} : nz m e ≤ nz n e ↔ m ≤ n := by
  have h : (nz n e < nz m e) ↔ n < m := by
    unfold nz
    rw [Rat.mul_lt_mul_right (zp_pos e), Rat.intCast_lt_intCast]
    omega
  rw [← Rat.not_lt, h]; omega
theorem nz_lt {m n : Nat} {e : Int} : nz m e < nz n e ↔ m < n := by
  rw [← Rat.not_le, nz_le]; omega
theorem nz_nonneg (m : Nat) (e : Int) : 0 ≤ nz m e := by
  have := (nz_le (m := 0) (n := m) (e := e)).2 (Nat.zero_le _)
  have h0 : nz 0 e = 0 := by unfold nz; exact Rat.zero_mul _
  rwa [h0] at this
theorem nz_next {k f m : Nat} {e e' : Int} (hf : 2 ^ k ≤ f) (hm : m < 2 ^ (k + 1)) (h : nz f e < nz m e') : nz (f + 1) e ≤ nz m e' := by
  by_cases he : e ≤ e'
  · obtain ⟨t, ht⟩ : ∃ t : Nat, e' = e + t := ⟨(e' - e).toNat, by omega⟩
    rw [ht, ← nz_shift] at h ⊢
    exact nz_le.2 (nz_lt.1 h)
  · obtain ⟨t, ht⟩ : ∃ t : Nat, e = e' + ((t + 1 : Nat) : Int) := ⟨(e - e' - 1).toNat, by omega⟩
    rw [ht, ← nz_shift] at h
    have h1 := nz_lt.1 h
    have h2 : 2 ^ k * 2 ≤ f * 2 ^ (t + 1) := by
      rw [Nat.pow_succ, ← Nat.mul_assoc]
      refine Nat.mul_le_mul_right 2 (Nat.le_trans hf (Nat.le_mul_of_pos_right f (Nat.two_pow_pos _)))
    rw [Nat.pow_succ] at hm
    omega
/-- A number of at most p bits times a power of two. -/
def RepB (p : Nat) (v : Rat) : Prop := ∃ s m e, m < 2 ^ p ∧ v = dq ⟨s, m, e⟩
theorem RepB.neg {p : Nat} {v : Rat} (h : RepB p v) : RepB p (-v) := by
  obtain ⟨s, m, e, hm, rfl⟩ := h
  refine ⟨!s, m, e, hm, ?_⟩
  rw [dq_nz, dq_nz]
  cases s <;> simp
theorem RepB.mono {p q : Nat} {v : Rat} (h : RepB p v) (hpq : p ≤ q) : RepB q v := by
  obtain ⟨s, m, e, hm, hv⟩ := h
  exact ⟨s, m, e, Nat.lt_of_lt_of_le hm (Nat.pow_le_pow_right (by decide) hpq), hv⟩
theorem dq_zero : dq Dy.zero = 0 := by
  show dq ⟨false, 0, 0⟩ = 0
  rw [dq_nz]; unfold nz; exact Rat.zero_mul _
theorem dq_negD (d : Dy) : dq (negD d) = -dq d := by
  obtain ⟨s, m, e⟩ := d
  unfold negD
  simp only
  rw [dq_nz, dq_nz]
  by_cases h : m = 0
  · subst h
    have h0 : nz 0 e = 0 := by unfold nz; exact Rat.zero_mul _
    rw [h0]; split <;> split <;> rfl
  · have := limbs_len_pos.2 h
    rw [decide_eq_true (by omega), Bool.and_true]
    cases s <;> simp
/-! ## The quotient -/
theorem quot_eq {a b : Nat} (e : Int) (hb : b ≠ 0) : rq false a b * (((scD b e : Nat) : Int) : Rat) = nz (scN a e) e := by
  have h1 : rq false a b * ((b : Int) : Rat) = ((a : Int) : Rat) := by
    have h := rq_mul false false a b b 0
    rw [rq_int] at h
    have h2 : rq (false != false) (a * b) (dn b * dn 0) = rq false a 0 := by
      rw [rq_zero_den]
      refine rq_ext (by rw [dn_zero, Nat.mul_one]; exact dn_ne b) (by decide) ?_
      rw [dn_zero, dn_of hb]; simp
    rw [h2, rq_int] at h
    exact h.symm
  unfold nz
  by_cases he : 0 ≤ e
  · obtain ⟨t, ht⟩ : ∃ t : Nat, e = t := ⟨e.toNat, by omega⟩
    subst ht
    rw [scN_pos he, scD_pos he, zp_two, show ((t : Int)).toNat = t from rfl, Int.natCast_mul, Rat.intCast_mul, ← Rat.mul_assoc, h1]
  · obtain ⟨t, ht⟩ : ∃ t : Nat, e = -(t : Int) := ⟨(-e).toNat, by omega⟩
    subst ht
    rw [scN_neg he, scD_neg he, h1, show (-(-(t : Int))).toNat = t from by omega, Int.natCast_mul, Rat.intCast_mul, Rat.mul_assoc, ← zp_two, Rat.mul_comm (zp t), zp_inv, Rat.mul_one]
theorem cast_pos {n : Nat} (h : n ≠ 0) : (0 : Rat) < ((n : Int) : Rat) := by
  rw [show (0 : Rat) = ((0 : Int) : Rat) from rfl]; exact Rat.intCast_lt_intCast.2 (by omega)
theorem quot_cmp {a b m : Nat} {e : Int} (hb : b ≠ 0) : nz m e < rq false a b ↔ m * scD b e < scN a e := by
  have hd := scD_ne hb e
  rw [← Rat.mul_lt_mul_right (cast_pos hd), quot_eq e hb]
  have : nz m e * (((scD b e : Nat) : Int) : Rat) = nz (m * scD b e) e := by
    unfold nz; rw [Int.natCast_mul, Rat.intCast_mul]; grind
  rw [this, nz_lt]
theorem quot_cmp' {a b m : Nat} {e : Int} (hb : b ≠ 0) : rq false a b < nz m e ↔ scN a e < m * scD b e := by
  have hd := scD_ne hb e
  rw [← Rat.mul_lt_mul_right (cast_pos hd), quot_eq e hb]
  have : nz m e * (((scD b e : Nat) : Int) : Rat) = nz (m * scD b e) e := by
    unfold nz; rw [Int.natCast_mul, Rat.intCast_mul]; grind
  rw [this, nz_lt]
/-- What the two quotients are to the number. -/
theorem quot_spec {a b : Nat} {e : Int} (hb : b ≠ 0) :
    nz (rndQ a b e false) e ≤ rq false a b ∧ rq false a b ≤ nz (rndQ a b e true) e ∧ rndQ a b e true ≤ rndQ a b e false + 1 ∧ rndQ a b e false ≤ rndQ a b e true ∧
    (rndQ a b e true = rndQ a b e false ∨ nz (rndQ a b e false) e < rq false a b) ∧ rq false a b < nz (rndQ a b e false + 1) e := by
  have hd := Nat.pos_of_ne_zero (scD_ne hb e)
  have h1 := Nat.div_add_mod (scN a e) (scD b e)
  have h2 := Nat.mod_lt (scN a e) hd
  rw [rndQ_no]
  have l1 : nz (scN a e / scD b e) e ≤ rq false a b := Rat.not_lt.1 fun h => by
    have h := (quot_cmp' hb).1 h
    rw [Nat.mul_comm] at h; omega
  have l3 : rq false a b < nz (scN a e / scD b e + 1) e := (quot_cmp' hb).2 (by rw [Nat.add_mul, Nat.one_mul, Nat.mul_comm]; omega)
  by_cases h : scN a e % scD b e ≠ 0
  · rw [rndQ_up h]
    have l2 : nz (scN a e / scD b e) e < rq false a b := (quot_cmp hb).2 (by rw [Nat.mul_comm]; omega)
    refine ⟨l1, Rat.not_lt.1 fun h => ?_, Nat.le_refl _, Nat.le_succ _, .inr l2, l3⟩
    have h := (quot_cmp hb).1 h
    rw [Nat.add_mul, Nat.one_mul, Nat.mul_comm] at h; omega
  · rw [rndQ_ex h]
    refine ⟨l1, Rat.not_lt.1 fun h => ?_, Nat.le_succ _, Nat.le_refl _, .inl rfl, l3⟩
    have h := (quot_cmp hb).1 h
    rw [Nat.mul_comm] at h; omega
/-! ## Rounding -/
theorem absq (r : Rat) : r = if r.num < 0 then -rq false r.num.natAbs r.den else rq false r.num.natAbs r.den := by
  have h := rq_of r
  unfold cneg cnum at h
  by_cases hn : r.num < 0
  · rw [if_pos hn, ← rq_neg]
    rw [decide_eq_true hn] at h
    exact h.symm
  · rw [if_neg hn]
    rw [decide_eq_false hn] at h
    exact h.symm
theorem bl_lt_of {n p : Nat} (h : bl n ≤ p) : n < 2 ^ p := Nat.lt_of_lt_of_le (bl_lt n) (Nat.pow_le_pow_right (by decide) h)
theorem nrm_bl (s : Bool) {q p : Nat} (e : Int) (hp : 1 ≤ p) (hq : q ≤ 2 ^ p) : bl (nrm s q e).mag ≤ p := by
  by_cases h : q < 2 ^ p
  · exact bl_le_of_lt (Nat.lt_of_le_of_lt (nrm_mag_le s q e) h)
  · have : q = 2 ^ p := by omega
    subst this
    have h0 : 2 ^ p ≠ 0 := Nat.ne_of_gt (Nat.two_pow_pos p)
    cases hk : nok (2 ^ p) e with
    | false => rw [nrm_no hk]; exact Nat.le_trans (by decide) hp
    | true =>
      have h1 : (nrm s (2 ^ p) e).mag = 1 := by
        unfold nrm
        rw [if_neg h0, if_pos hk, tz_pow]
        exact Nat.div_self (Nat.two_pow_pos p)
      rw [h1]; exact Nat.le_trans (by decide) hp
/-- The quotient's facts, for a number that is not 0. -/
theorem rnd_facts {r : Rat} {p : Nat} (hr : Br r 4) (h0 : r.num ≠ 0) (h1 : 1 ≤ p) (h2 : p ≤ 4096) :
    ∃ (e : Int) (f g : Nat), 2 ^ (p - 1) ≤ f ∧ f < 2 ^ p ∧ g ≤ f + 1 ∧ f ≤ g ∧ nz f e ≤ rq false r.num.natAbs r.den ∧ rq false r.num.natAbs r.den ≤ nz g e ∧
      (g = f ∨ nz f e < rq false r.num.natAbs r.den) ∧ rq false r.num.natAbs r.den < nz (f + 1) e ∧ ∀ aw : Bool, rndD r p aw = nrm (decide (r.num < 0)) (if aw then g else f) e ∧ nok (if aw then g else f) e = true := by
  obtain ⟨a, ha⟩ : ∃ a, r.num.natAbs = a := ⟨_, rfl⟩
  have hnl : (limbs a).length ≤ 4 := ha ▸ Bz.use (z := r.num) (Nat.le_refl _)
  have hdl : (limbs r.den).length ≤ 5 := Bn.use (n := r.den) (Nat.le_refl _)
  have hlg := lg_bound hnl hdl
  have ha0 : a ≠ 0 := by omega
  obtain ⟨e, he⟩ : ∃ e : Int, lg a r.den - p + 1 = e := ⟨_, rfl⟩
  obtain ⟨s1, s2, s3, s4, s5, s6⟩ := quot_spec (a := a) (e := e) r.den_nz
  have hb := bl_quot (e := e) ha0 r.den_nz (by omega)
  have hb' : bl (rndQ a r.den e false) = p := by rw [rndQ_no]; omega
  have hbn : ∀ w, nok (rndQ a r.den e w) e = true := fun w => nok_few (k := 4 + 200 + 1) (Bn.rndQ (b := r.den) (e := e) (up := w) 200 ⟨hnl⟩ (by omega)).le (by omega) (by omega)
  have hf0 : rndQ a r.den e false ≠ 0 := by intro h; rw [h] at hb'; have : bl 0 = 0 := rfl; omega
  have hl := bl_le hf0
  rw [hb'] at hl
  refine ⟨e, rndQ a r.den e false, rndQ a r.den e true, hl, bl_lt_of (by omega), s3, s4, ha ▸ s1, ha ▸ s2, ha ▸ s5, ha ▸ s6, fun aw => ?_⟩
  have hif : (if aw then rndQ a r.den e true else rndQ a r.den e false) = rndQ a r.den e aw := by cases aw <;> rfl
  constructor
  · rw [rndD_of (by omega) (by omega) h0, hif, ha]
    unfold rnd
    rw [he]
  · rw [hif]; exact hbn aw
theorem rndD_bl {r : Rat} {p : Nat} (hr : Br r 4) (h1 : 1 ≤ p) (h2 : p ≤ 4096) (aw : Bool) : bl (rndD r p aw).mag ≤ p := by
  by_cases h0 : r.num = 0
  · unfold rndD; rw [if_pos (by omega)]; exact Nat.zero_le _
  · obtain ⟨e, f, g, f1, f2, f3, f4, _, _, _, _, hd⟩ := rnd_facts hr h0 h1 h2
    rw [(hd aw).1]
    exact nrm_bl _ _ h1 (by split <;> omega)
theorem isD_rndD (r : Rat) (p : Int) (aw : Bool) : isD (rndD r p aw).neg (limbs (rndD r p aw).mag) (rndD r p aw).exp = true := by
  unfold rndD
  split
  · exact isD_zero
  · unfold rnd; exact isD_nrm _ _ _
@[reducible] def dnD (r : Rat) (p : Int) : Dy := rndD r p (decide (sg r < 0))
@[reducible] def upD (r : Rat) (p : Int) : Dy := rndD r p (decide (0 < sg r))
theorem RepB.dy {p : Nat} {d : Dy} (h : bl d.mag ≤ p) : RepB p (dq d) := ⟨d.neg, d.mag, d.exp, bl_lt_of h, rfl⟩
/-- Down is the greatest number of at most p bits that is at most r. -/
theorem dn_spec {r : Rat} {p : Nat} (hr : Br r 4) (h1 : 1 ≤ p) (h2 : p ≤ 4096) :
    dq (dnD r p) ≤ r ∧ (∀ v, RepB p v → v ≤ r → v ≤ dq (dnD r p)) := by
  by_cases h0 : r.num = 0
  · have : dnD r p = Dy.zero := by unfold dnD rndD; rw [if_pos (by omega)]
    have hz : r = 0 := Rat.num_eq_zero.1 h0
    rw [this, dq_zero, hz]
    exact ⟨Rat.le_refl, fun v _ h => h⟩
  · obtain ⟨q, rfl⟩ : ∃ q, p = q + 1 := ⟨p - 1, by omega⟩
    obtain ⟨e, f, g, f1, f2, f3, f4, f5, f6, f7, f8, hdk⟩ := rnd_facts hr h0 h1 h2
    obtain ⟨hd, hk⟩ := hdk (decide (sg r < 0))
    have hq : dq (dnD r ((q + 1 : Nat) : Int)) = _ := (congrArg dq hd).trans (dq_nrm hk)
    rw [hq, dq_nz]
    have hx := absq r
    rw [sg_num]
    generalize rq false r.num.natAbs r.den = x at *
    rcases sgz_cases r.num with ⟨c1, c2⟩ | ⟨c1, c2⟩ | ⟨c1, c2⟩
    · rw [if_pos c1] at hx
      rw [c2, decide_eq_true c1, if_pos rfl, if_pos (by decide)]
      refine ⟨by grind, fun v hv hle => ?_⟩
      obtain ⟨s, m, e', hm, rfl⟩ := hv
      rw [dq_nz] at hle ⊢
      have hm0 := nz_nonneg m e'
      have hfn := nz_nonneg f e
      have key : nz g e ≤ nz m e' := by
        have hxm : x ≤ nz m e' := by
          cases s
          · simp only [Bool.false_eq_true, if_false] at hle
            have hx0 := nz_nonneg f e
            have hfp : 0 < nz f e := by
              have := (nz_lt (m := 0) (n := f) (e := e)).2 (Nat.lt_of_lt_of_le (Nat.two_pow_pos _) f1)
              have h0 : nz 0 e = 0 := by unfold nz; exact Rat.zero_mul _
              rwa [h0] at this
            grind
          · simp only [if_true] at hle; grind
        rcases f7 with h | h
        · rw [h]; exact Rat.le_trans f5 hxm
        · have := nz_next (k := q) f1 hm (rat_lt_le h hxm)
          exact Rat.le_trans (nz_le.2 f3) this
      cases s
      · simp only [Bool.false_eq_true, if_false] at hle ⊢; grind
      · simp only [if_true] at hle ⊢; grind
    · exact absurd c1 h0
    · rw [if_neg (by omega)] at hx
      rw [c2, decide_eq_false (by omega : ¬ r.num < 0), if_neg (by decide), if_neg (by decide)]
      refine ⟨by grind, fun v hv hle => ?_⟩
      obtain ⟨s, m, e', hm, rfl⟩ := hv
      rw [dq_nz] at hle ⊢
      have hm0 := nz_nonneg m e'
      have hf0 := nz_nonneg f e
      cases s
      · simp only [Bool.false_eq_true, if_false] at hle ⊢
        refine Rat.not_lt.1 fun h => ?_
        have h3 := nz_next (k := q) f1 hm h
        have h4 := rat_le_lt (Rat.le_trans h3 hle) (hx ▸ f8)
        exact Rat.lt_irrefl h4
      · simp only [if_true] at hle ⊢; grind
theorem upD_neg (r : Rat) (p : Int) : dq (upD r p) = -dq (dnD (-r) p) := by
  have h := rndD_neg r p
  have h2 : dq (dnD (-r) p) = dq (negD (upD r p)) := congrArg dq h
  rw [h2, dq_negD, Rat.neg_neg]
/-- Up is the least number of at most p bits that is at least r. -/
theorem up_spec {r : Rat} {p : Nat} (hr : Br r 4) (h1 : 1 ≤ p) (h2 : p ≤ 4096) :
    r ≤ dq (upD r p) ∧ (∀ v, RepB p v → r ≤ v → dq (upD r p) ≤ v) := by
  haveI := hr
  obtain ⟨d1, d2⟩ := dn_spec (r := -r) (p := p) ⟨⟨by show (limbs (cnum (-r))).length ≤ 4; rw [cnum_neg]; exact hr.fit.n, by show (limbs (cden (-r))).length ≤ 4; rw [cden_neg]; exact hr.fit.d⟩⟩ h1 h2
  rw [upD_neg]
  refine ⟨by grind, fun v hv hle => ?_⟩
  have := d2 (-v) hv.neg (by grind)
  grind
theorem dn_rep {r : Rat} {p : Nat} (hr : Br r 4) (h1 : 1 ≤ p) (h2 : p ≤ 4096) (aw : Bool) : RepB p (dq (rndD r p aw)) := RepB.dy (rndD_bl hr h1 h2 aw)
/-- Exactly the numbers of at most p bits are not changed. -/
theorem rep_iff {r : Rat} {p : Nat} (hr : Br r 4) (h1 : 1 ≤ p) (h2 : p ≤ 4096) : (dq (dnD r p) = r ↔ RepB p r) ∧ (dq (upD r p) = r ↔ RepB p r) := by
  obtain ⟨d1, d2⟩ := dn_spec hr h1 h2
  obtain ⟨u1, u2⟩ := up_spec hr h1 h2
  refine ⟨⟨fun h => h ▸ dn_rep hr h1 h2 _, fun h => Rat.le_antisymm d1 (d2 r h Rat.le_refl)⟩, ⟨fun h => h ▸ dn_rep hr h1 h2 _, fun h => Rat.le_antisymm (u2 r h Rat.le_refl) u1⟩⟩
theorem canon_facts {d : Dy} (h : isD d.neg (limbs d.mag) d.exp = true) : nrm d.neg d.mag d.exp = d ∧ nok d.mag d.exp = true := by
  have h1 := isD_canon (small_limbs d.mag) h
  rw [val_limbs] at h1
  exact ⟨h1.2.2.2.1, h1.2.2.2.2⟩
theorem rep_ex {r : Rat} {p : Nat} (hr : Br r 4) (h1 : 1 ≤ p) (h2 : p ≤ 4096) : RepB p r ↔ exOk r = true ∧ bl (exD r).mag ≤ p := by
  constructor
  · intro h
    have he := (rep_iff hr h1 h2).1.2 h
    obtain ⟨c1, c2⟩ := canon_facts (isD_rndD r p (decide (sg r < 0)))
    obtain ⟨x1, x2⟩ := ex_dq c1 c2
    rw [he] at x1 x2
    exact ⟨x2, by rw [x1]; exact rndD_bl hr h1 h2 _⟩
  · rintro ⟨h3, h4⟩
    have := RepB.dy h4
    rwa [dq_exD h3] at this
/-- How far the two are apart. -/
theorem width_le {r : Rat} {q : Nat} (hr : Br r 4) (h2 : q + 1 ≤ 4096) : (dq (upD r ((q + 1 : Nat) : Int)) - dq (dnD r ((q + 1 : Nat) : Int))) * (((2 ^ q : Nat) : Int) : Rat) ≤ rq false r.num.natAbs r.den := by
  by_cases h0 : r.num = 0
  · have e1 : dnD r ((q + 1 : Nat) : Int) = Dy.zero := by unfold dnD rndD; rw [if_pos (by omega)]
    have e2 : upD r ((q + 1 : Nat) : Int) = Dy.zero := by unfold upD rndD; rw [if_pos (by omega)]
    rw [e1, e2, dq_zero, h0, show Int.natAbs 0 = 0 from rfl, rq_zero, show (0 : Rat) - 0 = 0 from by grind, Rat.zero_mul]
    exact Rat.le_refl
  · obtain ⟨e, f, g, f1, f2, f3, f4, f5, f6, f7, f8, hdk⟩ := rnd_facts hr h0 (show 1 ≤ q + 1 by omega) h2
    obtain ⟨d1, k1⟩ := hdk (decide (sg r < 0))
    obtain ⟨d2, k2⟩ := hdk (decide (0 < sg r))
    have q1 : dq (dnD r ((q + 1 : Nat) : Int)) = _ := (congrArg dq d1).trans (dq_nrm k1)
    have q2 : dq (upD r ((q + 1 : Nat) : Int)) = _ := (congrArg dq d2).trans (dq_nrm k2)
    rw [q1, q2, dq_nz, dq_nz]
    have key : (nz g e - nz f e) * (((2 ^ q : Nat) : Int) : Rat) ≤ rq false r.num.natAbs r.den := by
      refine Rat.le_trans ?_ f5
      have e1 : nz g e - nz f e = nz (g - f) e := by
        have : nz g e = nz (g - f) e + nz f e := by
          unfold nz
          rw [← Rat.add_mul, ← Rat.intCast_add, ← Int.natCast_add, Nat.sub_add_cancel f4]
        rw [this]; grind
      have e2 : nz (g - f) e * (((2 ^ q : Nat) : Int) : Rat) = nz ((g - f) * 2 ^ q) e := by
        unfold nz; rw [Int.natCast_mul, Rat.intCast_mul]; grind
      rw [e1, e2, nz_le]
      have : (g - f) * 2 ^ q ≤ 1 * 2 ^ q := Nat.mul_le_mul_right _ (by omega)
      simp only [Nat.add_sub_cancel] at f1
      omega
    rw [sg_num]
    rcases sgz_cases r.num with ⟨c1, c2⟩ | ⟨c1, c2⟩ | ⟨c1, c2⟩
    · rw [c2, decide_eq_true c1]
      simp only [show decide ((-1 : Int) < 0) = true from rfl, show decide ((0 : Int) < -1) = false from rfl, if_true, Bool.false_eq_true, if_false]
      rw [show -nz f e - -nz g e = nz g e - nz f e from by grind]
      exact key
    · exact absurd c1 h0
    · rw [c2, decide_eq_false (by omega : ¬ r.num < 0)]
      simp only [show decide ((1 : Int) < 0) = false from rfl, show decide ((0 : Int) < 1) = true from rfl, if_true, Bool.false_eq_true, if_false]
      exact key
theorem dn_mono {r t : Rat} {p : Nat} (hr : Br r 4) (ht : Br t 4) (h1 : 1 ≤ p) (h2 : p ≤ 4096) (h : r ≤ t) : dq (dnD r p) ≤ dq (dnD t p) :=
  (dn_spec ht h1 h2).2 _ (dn_rep hr h1 h2 _) (Rat.le_trans (dn_spec hr h1 h2).1 h)
theorem up_mono {r t : Rat} {p : Nat} (hr : Br r 4) (ht : Br t 4) (h1 : 1 ≤ p) (h2 : p ≤ 4096) (h : r ≤ t) : dq (upD r p) ≤ dq (upD t p) :=
  (up_spec hr h1 h2).2 _ (dn_rep ht h1 h2 _) (Rat.le_trans h (up_spec ht h1 h2).1)
theorem dn_more {r : Rat} {p : Nat} (hr : Br r 4) (h1 : 1 ≤ p) (h2 : p + 1 ≤ 4096) : dq (dnD r p) ≤ dq (dnD r ((p + 1 : Nat) : Int)) :=
  (dn_spec hr (by omega) h2).2 _ ((dn_rep hr h1 (by omega) _).mono (Nat.le_succ p)) (dn_spec hr h1 (by omega)).1
theorem up_more {r : Rat} {p : Nat} (hr : Br r 4) (h1 : 1 ≤ p) (h2 : p + 1 ≤ 4096) : dq (upD r ((p + 1 : Nat) : Int)) ≤ dq (upD r p) :=
  (up_spec hr (by omega) h2).2 _ ((dn_rep hr h1 (by omega) _).mono (Nat.le_succ p)) (up_spec hr h1 (by omega)).1
/-- The absolute value, of raw parts and of canonical ones. -/
theorem abs_raw (x : Qr) : rq false x.q.num.natAbs x.q.den = rq false (val x.n) (val x.d) := by
  have h1 : x.q.num.natAbs = val x.n / Nat.gcd (val x.n) (dn (val x.d)) := cnum_rq x.neg (val x.n) (val x.d)
  have h2 : x.q.den = dn (val x.d) / Nat.gcd (val x.n) (dn (val x.d)) := den_rq x.neg (val x.n) (val x.d)
  have h3 := cnum_rq false (val x.n) (val x.d)
  have h4 := den_rq false (val x.n) (val x.d)
  have h5 := cneg_rq false (val x.n) (val x.d)
  have h6 := rq_of (rq false (val x.n) (val x.d))
  rw [h3, h4, h5] at h6
  rw [h1, h2]
  exact h6
theorem rem_u8 {n m : Nat} (hn : n < 256) (hm : m < 256) (h0 : 0 < m) : IntKind.u8.wrap (((n : Nat) : Int).tmod ((m : Nat) : Int)) = ((n % m : Nat) : Int) := by
  rw [tmodN]
  have := Nat.mod_lt n h0
  exact wu8 (by omega)
theorem law_width {x : Qr} {q : Nat} (hr : Br x.q 4) (h2 : q + 1 ≤ 4096) : (dq (upD x.q ((q + 1 : Nat) : Int)) - dq (dnD x.q ((q + 1 : Nat) : Int))) * rq false (1 * 2 ^ q) 0 ≤ rq false (val x.n) (val x.d) := by
  have h := width_le hr h2
  rw [abs_raw] at h
  rw [Nat.one_mul, rq_int]
  exact h
theorem dq_bad {r : Rat} {p : Int} {w : Bool} (h : p < 1 ∨ 4096 < p) : dq (rndD r p w) = 0 := by
  unfold rndD; rw [if_pos (by omega), dq_zero]
theorem iV_zero : iV qZero qZero = iV (qOf 0) (qOf 0) := by
  have h : qZero = qOf 0 := by
    show qZero = Qr.mk (cneg 0) (limbs (cnum 0)) (limbs (cden 0)) _ _
    simp only [cneg_zero, cnum_zero, cden_zero, limbs_zero]
  rw [h]
theorem dn_le {r : Rat} {p : Int} (hr : Br r 4) (h : ¬ (p < 1 ∨ 4096 < p)) : dq (dnD r p) ≤ r := by
  obtain ⟨k, rfl⟩ := Int.eq_ofNat_of_zero_le (show 0 ≤ p by omega)
  exact (dn_spec hr (by omega) (by omega)).1
theorem le_up {r : Rat} {p : Int} (hr : Br r 4) (h : ¬ (p < 1 ∨ 4096 < p)) : r ≤ dq (upD r p) := by
  obtain ⟨k, rfl⟩ := Int.eq_ofNat_of_zero_le (show 0 ≤ p by omega)
  exact (up_spec hr (by omega) (by omega)).1
end Rc
