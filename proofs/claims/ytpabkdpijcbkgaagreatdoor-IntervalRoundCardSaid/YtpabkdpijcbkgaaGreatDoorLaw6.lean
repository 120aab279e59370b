/- Plain laws of intervals. -/
import Derived.Test.YtpabkdpijcbkgaaGreatDoorQi
namespace Rc
open Go

/-- A number of at most two limbs. -/
def sh (x : Qr) : Bool := decide ((x.n.length : Int) ≤ 2) && decide ((x.d.length : Int) ≤ 2)
theorem sh_fit {x : Qr} (h : sh x = true) : Fit 2 x := by
  unfold sh at h
  rw [Bool.and_eq_true, decide_eq_true_eq, decide_eq_true_eq] at h
  exact ⟨by omega, by omega⟩
/-- A valid small interval. -/
def smI (x0 x1 : Qr) : Bool := sh x0 && sh x1 && (isC x0 && isC x1 && decide (cmpq x0.q x1.q ≤ 0))
theorem smI_facts {x0 x1 : Qr} (h : (!smI x0 x1) = false) : Fit 2 x0 ∧ Fit 2 x1 ∧ x0.q ≤ x1.q := by
  unfold smI at h
  rw [Bool.not_eq_false', Bool.and_eq_true, Bool.and_eq_true, Bool.and_eq_true, decide_eq_true_eq, cmpq_le] at h
  exact ⟨sh_fit h.1.1, sh_fit h.1.2, h.2.2⟩
theorem sh_facts {x : Qr} (h : (!sh x) = false) : Fit 2 x := sh_fit (by simpa using h)

theorem ct {a x b : Rat} (h1 : a ≤ x) (h2 : x ≤ b) : (decide (cmpq a x ≤ 0) && decide (cmpq x b ≤ 0)) = true := by
  rw [decide_eq_true (cmpq_le.2 h1), decide_eq_true (cmpq_le.2 h2)]; rfl
theorem wt {a b c d : Rat} (h1 : c ≤ a) (h2 : b ≤ d) : (decide (cmpq c a ≤ 0) && decide (cmpq b d ≤ 0)) = true := by
  rw [decide_eq_true (cmpq_le.2 h1), decide_eq_true (cmpq_le.2 h2)]; rfl
theorem sm {p q r s : Rat} (h1 : p = q) (h2 : r = s) : (sameQ (qOf p) (qOf q) && sameQ (qOf r) (qOf s)) = true := by
  subst h1; subst h2; rw [sameQ_self, sameQ_self]; rfl
theorem sm_self (p q : Qr) : (sameQ p p && sameQ q q) = true := by rw [sameQ_self, sameQ_self]; rfl
theorem sm_ne {p q r s : Rat} (h : p ≠ q) : (sameQ (qOf p) (qOf q) && sameQ (qOf r) (qOf s)) = false := by
  rw [sameQ_of, decide_eq_false h]; rfl
theorem ct_ne {a x b : Rat} (h : ¬ (a ≤ x ∧ x ≤ b)) : (decide (cmpq a x ≤ 0) && decide (cmpq x b ≤ 0)) = false := by
  rw [Bool.and_eq_false_iff, decide_eq_false_iff_not, decide_eq_false_iff_not, cmpq_le, cmpq_le]
  exact Classical.not_and_iff_not_or_not.1 h
theorem valid_of {r s : Rat} (h : r ≤ s) : (isC (qOf r) && isC (qOf s) && decide (cmpq r s ≤ 0)) = true := by
  rw [isC_of, isC_of, decide_eq_true (cmpq_le.2 h)]; rfl

theorem mn_le_l (a b : Rat) : mn a b ≤ a := by unfold mn; split <;> grind
theorem mn_le_r (a b : Rat) : mn a b ≤ b := by unfold mn; split <;> grind
theorem le_mx_l (a b : Rat) : a ≤ mx a b := by unfold mx; split <;> grind
theorem le_mx_r (a b : Rat) : b ≤ mx a b := by unfold mx; split <;> grind
theorem le_mn {a b c : Rat} (h1 : c ≤ a) (h2 : c ≤ b) : c ≤ mn a b := by unfold mn; split <;> assumption
theorem mx_le {a b c : Rat} (h1 : a ≤ c) (h2 : b ≤ c) : mx a b ≤ c := by unfold mx; split <;> assumption
theorem mn_cases (a b : Rat) : mn a b = a ∨ mn a b = b := by unfold mn; split <;> simp
theorem mx_cases (a b : Rat) : mx a b = a ∨ mx a b = b := by unfold mx; split <;> simp
theorem mx_comm (a b : Rat) : mx a b = mx b a := by unfold mx; split <;> split <;> grind
theorem mn4 (p q u v : Rat) : mn (mn (mn p q) u) v = mn (mn p u) (mn q v) := by
  refine Rat.le_antisymm (le_mn (le_mn ?_ ?_) (le_mn ?_ ?_)) (le_mn (le_mn (le_mn ?_ ?_) ?_) ?_)
  · exact Rat.le_trans (mn_le_l _ _) (Rat.le_trans (mn_le_l _ _) (mn_le_l _ _))
  · exact Rat.le_trans (mn_le_l _ _) (mn_le_r _ _)
  · exact Rat.le_trans (mn_le_l _ _) (Rat.le_trans (mn_le_l _ _) (mn_le_r _ _))
  · exact mn_le_r _ _
  · exact Rat.le_trans (mn_le_l _ _) (mn_le_l _ _)
  · exact Rat.le_trans (mn_le_r _ _) (mn_le_l _ _)
  · exact Rat.le_trans (mn_le_l _ _) (mn_le_r _ _)
  · exact Rat.le_trans (mn_le_r _ _) (mn_le_r _ _)
theorem mx4 (p q u v : Rat) : mx (mx (mx p q) u) v = mx (mx p u) (mx q v) := by
  refine Rat.le_antisymm (mx_le (mx_le (mx_le ?_ ?_) ?_) ?_) (mx_le (mx_le ?_ ?_) (mx_le ?_ ?_))
  · exact Rat.le_trans (le_mx_l _ _) (le_mx_l _ _)
  · exact Rat.le_trans (le_mx_l _ _) (le_mx_r _ _)
  · exact Rat.le_trans (le_mx_r _ _) (le_mx_l _ _)
  · exact Rat.le_trans (le_mx_r _ _) (le_mx_r _ _)
  · exact Rat.le_trans (le_mx_l _ _) (Rat.le_trans (le_mx_l _ _) (le_mx_l _ _))
  · exact Rat.le_trans (le_mx_r _ _) (le_mx_l _ _)
  · exact Rat.le_trans (le_mx_r _ _) (Rat.le_trans (le_mx_l _ _) (le_mx_l _ _))
  · exact le_mx_r _ _
/-- Both ends of the product. -/
def plo (a b c d : Rat) : Rat := mn (mn (mn (a * c) (a * d)) (b * c)) (b * d)
def phi (a b c d : Rat) : Rat := mx (mx (mx (a * c) (a * d)) (b * c)) (b * d)
theorem lin_between {a b x y : Rat} (h1 : a ≤ x) (h2 : x ≤ b) : mn (a * y) (b * y) ≤ x * y ∧ x * y ≤ mx (a * y) (b * y) := by
  rcases Rat.le_total (a := 0) (b := y) with h | h
  · have e1 := Rat.mul_le_mul_of_nonneg_right h1 h
    have e2 := Rat.mul_le_mul_of_nonneg_right h2 h
    exact ⟨Rat.le_trans (mn_le_l _ _) e1, Rat.le_trans e2 (le_mx_r _ _)⟩
  · have hn : 0 ≤ -y := by grind
    have e1 := Rat.mul_le_mul_of_nonneg_right h1 hn
    have e2 := Rat.mul_le_mul_of_nonneg_right h2 hn
    have e3 : x * y ≤ a * y := by grind
    have e4 : b * y ≤ x * y := by grind
    exact ⟨Rat.le_trans (mn_le_r _ _) e4, Rat.le_trans e3 (le_mx_l _ _)⟩
theorem hull {a b c d x y : Rat} (h1 : a ≤ x) (h2 : x ≤ b) (h3 : c ≤ y) (h4 : y ≤ d) : plo a b c d ≤ x * y ∧ x * y ≤ phi a b c d := by
  obtain ⟨e1, e2⟩ := lin_between (y := y) h1 h2
  obtain ⟨f1, f2⟩ := lin_between (y := a) h3 h4
  obtain ⟨g1, g2⟩ := lin_between (y := b) h3 h4
  have c1 : plo a b c d ≤ a * c := Rat.le_trans (mn_le_l _ _) (Rat.le_trans (mn_le_l _ _) (mn_le_l _ _))
  have c2 : plo a b c d ≤ a * d := Rat.le_trans (mn_le_l _ _) (Rat.le_trans (mn_le_l _ _) (mn_le_r _ _))
  have c3 : plo a b c d ≤ b * c := Rat.le_trans (mn_le_l _ _) (mn_le_r _ _)
  have c4 : plo a b c d ≤ b * d := mn_le_r _ _
  have d1 : a * c ≤ phi a b c d := Rat.le_trans (le_mx_l _ _) (Rat.le_trans (le_mx_l _ _) (le_mx_l _ _))
  have d2 : a * d ≤ phi a b c d := Rat.le_trans (le_mx_r _ _) (Rat.le_trans (le_mx_l _ _) (le_mx_l _ _))
  have d3 : b * c ≤ phi a b c d := Rat.le_trans (le_mx_r _ _) (le_mx_l _ _)
  have d4 : b * d ≤ phi a b c d := le_mx_r _ _
  have k1 : plo a b c d ≤ a * y := by
    refine Rat.le_trans (le_mn ?_ ?_) (Rat.le_trans f1 ?_) <;> grind
  have k2 : plo a b c d ≤ b * y := by
    refine Rat.le_trans (le_mn ?_ ?_) (Rat.le_trans g1 ?_) <;> grind
  have k3 : a * y ≤ phi a b c d := by
    refine Rat.le_trans ?_ (Rat.le_trans f2 (mx_le ?_ ?_)) <;> grind
  have k4 : b * y ≤ phi a b c d := by
    refine Rat.le_trans ?_ (Rat.le_trans g2 (mx_le ?_ ?_)) <;> grind
  exact ⟨Rat.le_trans (le_mn k1 k2) e1, Rat.le_trans e2 (mx_le k3 k4)⟩
/-- A point of an interval. -/
def atp (n : Nat) (a b : Rat) : Rat := a + (((n % 256 : Nat) : Int) : Rat) / ((255 : Int) : Rat) * (b - a)
instance Br.b255 : Br ((255 : Int) : Rat) 1 := Br.int (by decide)
instance Br.bn {n : Nat} : Br (((n % 256 : Nat) : Int) : Rat) 1 := Br.int (by rw [Int.natAbs_natCast]; exact Nat.lt_trans (Nat.mod_lt n (by decide)) (by decide))
instance Br.atp {n : Nat} {a b : Rat} {i j : Nat} [Br a i] [Br b j] : Br (atp n a b) (i + (1 + (1 + 1) + 1 + (j + i + 1) + 1) + 1) := by
  unfold Rc.atp; infer_instance
theorem atp_in (n : Nat) {a b : Rat} (h : a ≤ b) : a ≤ atp n a b ∧ atp n a b ≤ b := by
  unfold atp
  have hn : n % 256 ≤ 255 := by omega
  have h0 : (0 : Rat) ≤ (((n % 256 : Nat) : Int) : Rat) := by
    rw [show (0 : Rat) = ((0 : Int) : Rat) from rfl]; exact Rat.intCast_le_intCast.2 (by omega)
  have h1 : (((n % 256 : Nat) : Int) : Rat) ≤ ((255 : Int) : Rat) := Rat.intCast_le_intCast.2 (by omega)
  generalize (((n % 256 : Nat) : Int) : Rat) = k at *
  have hpos : (0 : Rat) < ((255 : Int) : Rat) := by
    rw [show (0 : Rat) = ((0 : Int) : Rat) from rfl]; exact Rat.intCast_lt_intCast.2 (by omega)
  generalize ((255 : Int) : Rat) = m at *
  have p0 : 0 ≤ k / m := by
    rcases Rat.le_total (a := 0) (b := k / m) with h | h
    · exact h
    · have := Rat.mul_le_mul_of_nonneg_right h (Rat.le_of_lt hpos)
      have e : k / m * m = k := Rat.div_mul_cancel (fun e => by rw [e] at hpos; exact absurd hpos (by decide))
      rw [e] at this
      have : k = 0 := by grind
      rw [this, Rat.div_def, Rat.zero_mul]; exact Rat.le_refl
  have p1 : k / m ≤ 1 := by
    rcases Rat.le_total (a := k / m) (b := 1) with h | h
    · exact h
    · have := Rat.mul_le_mul_of_nonneg_right h (Rat.le_of_lt hpos)
      have hm : m ≠ 0 := fun e => by rw [e] at hpos; exact absurd hpos (by decide)
      have e : k / m * m = k := Rat.div_mul_cancel hm
      rw [e] at this
      have : k = m := by grind
      rw [this, Rat.div_def, Rat.mul_inv_cancel _ hm]; exact Rat.le_refl
  have hd : 0 ≤ b - a := by grind
  have q0 := Rat.mul_nonneg p0 hd
  have q1 := Rat.mul_le_mul_of_nonneg_right p1 hd
  constructor <;> grind
theorem mx_mono {a b c : Rat} (h : a ≤ b) : mx c a ≤ mx c b := mx_le (le_mx_l _ _) (Rat.le_trans h (le_mx_r _ _))
theorem mul_same_lo (a b c d : Rat) : plo a b c d = mn (mn (a * c) (b * c)) (mn (a * d) (b * d)) := mn4 _ _ _ _
theorem mul_same_hi (a b c d : Rat) : phi a b c d = mx (mx (a * c) (b * c)) (mx (a * d) (b * d)) := mx4 _ _ _ _
/-- The product of a part lies in the product. -/
theorem mul_incl {a b c d a' b' c' d' : Rat} (h1 : a ≤ a') (h2 : a' ≤ b') (h3 : b' ≤ b) (h4 : c ≤ c') (h5 : c' ≤ d') (h6 : d' ≤ d) : plo a b c d ≤ plo a' b' c' d' ∧ phi a' b' c' d' ≤ phi a b c d := by
  have k : ∀ x y, (x = a' ∨ x = b') → (y = c' ∨ y = d') → plo a b c d ≤ x * y ∧ x * y ≤ phi a b c d := by
    intro x y hx hy
    refine hull ?_ ?_ ?_ ?_ <;> grind
  have k1 := k a' c' (.inl rfl) (.inl rfl)
  have k2 := k a' d' (.inl rfl) (.inr rfl)
  have k3 := k b' c' (.inr rfl) (.inl rfl)
  have k4 := k b' d' (.inr rfl) (.inr rfl)
  exact ⟨le_mn (le_mn (le_mn k1.1 k2.1) k3.1) k4.1, mx_le (mx_le (mx_le k1.2 k2.2) k3.2) k4.2⟩
theorem plo_comm (a b c d : Rat) : plo a b c d = plo c d a b := by
  rw [mul_same_lo]; unfold plo
  rw [mn4]
  have e : ∀ p q u v : Rat, mn (mn p u) (mn q v) = mn (mn p q) (mn u v) := fun p q u v => by rw [← mn4, ← mn4]; unfold mn; split <;> split <;> split <;> grind
  rw [Rat.mul_comm c a, Rat.mul_comm d a, Rat.mul_comm c b, Rat.mul_comm d b]
  rw [e]
theorem phi_comm (a b c d : Rat) : phi a b c d = phi c d a b := by
  rw [mul_same_hi]; unfold phi
  rw [mx4]
  have e : ∀ p q u v : Rat, mx (mx p u) (mx q v) = mx (mx p q) (mx u v) := fun p q u v => by rw [← mx4, ← mx4]; unfold mx; split <;> split <;> split <;> grind
  rw [Rat.mul_comm c a, Rat.mul_comm d a, Rat.mul_comm c b, Rat.mul_comm d b]
  rw [e]
theorem scale_lo {t a b : Rat} (h : a ≤ b) : scl t a b = mn (a * t) (b * t) ∧ sch t a b = mx (a * t) (b * t) := by
  unfold scl sch mn mx
  by_cases ht : t < 0
  · have hn : 0 ≤ -t := by grind
    have e := Rat.mul_le_mul_of_nonneg_right h hn
    have e2 : b * t ≤ a * t := by grind
    rw [if_pos ht, if_pos ht, if_pos e2]
    split
    · constructor <;> grind
    · constructor <;> grind
  · have hn : 0 ≤ t := by grind
    have e := Rat.mul_le_mul_of_nonneg_right h hn
    rw [if_neg ht, if_neg ht, if_pos e]
    split
    · constructor <;> grind
    · constructor <;> grind
end Rc
namespace Rc
theorem ct_iff {a x b : Rat} : (decide (cmpq a x ≤ 0) && decide (cmpq x b ≤ 0)) = true ↔ a ≤ x ∧ x ≤ b := by
  rw [Bool.and_eq_true, decide_eq_true_eq, decide_eq_true_eq, cmpq_le, cmpq_le]
section
variable {a b c d x : Rat}
theorem tight_lo (a b c d : Rat) : (sameQ (qOf (plo a b c d)) (qOf (a * c)) || sameQ (qOf (plo a b c d)) (qOf (a * d)) || sameQ (qOf (plo a b c d)) (qOf (b * c)) || sameQ (qOf (plo a b c d)) (qOf (b * d))) = true := by
  simp only [sameQ_of, Bool.or_eq_true, decide_eq_true_eq]
  unfold plo
  rcases mn_cases (mn (mn (a * c) (a * d)) (b * c)) (b * d) with h | h
  · rcases mn_cases (mn (a * c) (a * d)) (b * c) with h2 | h2
    · rcases mn_cases (a * c) (a * d) with h3 | h3
      · exact .inl (.inl (.inl (by rw [h, h2, h3])))
      · exact .inl (.inl (.inr (by rw [h, h2, h3])))
    · exact .inl (.inr (by rw [h, h2]))
  · exact .inr h
theorem tight_hi (a b c d : Rat) : (sameQ (qOf (phi a b c d)) (qOf (a * c)) || sameQ (qOf (phi a b c d)) (qOf (a * d)) || sameQ (qOf (phi a b c d)) (qOf (b * c)) || sameQ (qOf (phi a b c d)) (qOf (b * d))) = true := by
  simp only [sameQ_of, Bool.or_eq_true, decide_eq_true_eq]
  unfold phi
  rcases mx_cases (mx (mx (a * c) (a * d)) (b * c)) (b * d) with h | h
  · rcases mx_cases (mx (a * c) (a * d)) (b * c) with h2 | h2
    · rcases mx_cases (a * c) (a * d) with h3 | h3
      · exact .inl (.inl (.inl (by rw [h, h2, h3])))
      · exact .inl (.inl (.inr (by rw [h, h2, h3])))
    · exact .inl (.inr (by rw [h, h2]))
  · exact .inr h
theorem meet_ct (hA : (decide (cmpq a x ≤ 0) && decide (cmpq x b ≤ 0)) = true) (hB : (decide (cmpq c x ≤ 0) && decide (cmpq x d ≤ 0)) = true) :
    (decide (cmpq (mx a c) x ≤ 0) && decide (cmpq x (mn b d) ≤ 0)) = true := by
  rw [ct_iff] at *
  exact ⟨mx_le hA.1 hB.1, le_mn hA.2 hB.2⟩
theorem meet_ct_b (hB : ¬ (decide (cmpq c x ≤ 0) && decide (cmpq x d ≤ 0)) = true) : (decide (cmpq (mx a c) x ≤ 0) && decide (cmpq x (mn b d) ≤ 0)) = false := by
  rw [ct_iff] at hB
  exact ct_ne (fun h => hB ⟨Rat.le_trans (le_mx_r _ _) h.1, Rat.le_trans h.2 (mn_le_r _ _)⟩)
theorem meet_ct_a (hA : ¬ (decide (cmpq a x ≤ 0) && decide (cmpq x b ≤ 0)) = true) : (decide (cmpq (mx a c) x ≤ 0) && decide (cmpq x (mn b d) ≤ 0)) = false := by
  rw [ct_iff] at hA
  exact ct_ne (fun h => hA ⟨Rat.le_trans (le_mx_l _ _) h.1, Rat.le_trans h.2 (mn_le_l _ _)⟩)
theorem meet_no (hA : (decide (cmpq a x ≤ 0) && decide (cmpq x b ≤ 0)) = true) (hB : (decide (cmpq c x ≤ 0) && decide (cmpq x d ≤ 0)) = true) : mx a c ≤ mn b d := by
  rw [ct_iff] at *
  exact Rat.le_trans (mx_le hA.1 hB.1) (le_mn hA.2 hB.2)
end
end Rc
